/-
  A calculus of pure values over the model: values without addresses (V), what they stand for in a world (Rep), and the quiet operations. No program in sight.
-/
import Derived.Calls
import Derived.Orders
import Derived.Still
import Derived.Deep.LoopGhost
import Derived.Below
import Derived.Maps.AppendAt
import Derived.Laws.Cells
namespace Go.Ab
open Go.RowKit

/-- A value without addresses. 'slice size es': the elements, each a list of cells. 'row': a pointer to cells that stay as they are. 'ifc': some interface value that is not nil. -/
inductive V where
  | val (v : Value)
  | str (l : List UInt8)
  | agg (cs : List V)
  | tup (vs : List V)
  | slice (size : Nat) (es : List (List V))
  | row (cs : List V)
  | func (f : FuncId) (cap : List V)
  | ifc
  | map (ks vs : List V)

/-- what stays as it is: cells, and whole maps -/
structure Frz where
  c : Addr → Option Value
  m : Nat → Option (Array MapEntry)
instance : CoeFun Frz (fun _ => Addr → Option Value) := ⟨Frz.c⟩

def V.one : V → Bool
  | .val v => v.oneCell'
  | .agg _ => false
  | .tup _ => false
  | _ => true

def V.cells : V → List V
  | .agg cs => cs
  | v => [v]

inductive Rep (F : Frz) : V → Value → Prop
  | val (v : Value) : Rep F (.val v) v
  | str (l : List UInt8) : Rep F (.str l) (.string ⟨l.toArray⟩)
  | agg {cs : List V} {xs : Array Value} (hl : xs.size = cs.length) (ho : ∀ c ∈ cs, c.one = true) (h : ∀ (j : Nat) c x, cs[j]? = some c → xs[j]? = some x → Rep F c x) : Rep F (.agg cs) (.agg xs)
  | tup {vs : List V} {xs : Array Value} (hl : xs.size = vs.length) (h : ∀ (j : Nat) c x, vs[j]? = some c → xs[j]? = some x → Rep F c x) : Rep F (.tup vs) (.tuple xs)
  | snil {size : Nat} : Rep F (.slice size []) (.slice none 0 0)
  | slice {size : Nat} {es : List (List V)} {a : Addr} {cap : Nat} (g : Nat → Nat → Value) (hc : es.length ≤ cap) (hm : cap ≤ maxLen)
      (hs : ∀ e ∈ es, e.length = size) (ho : ∀ e ∈ es, ∀ c ∈ e, c.one = true)
      (hg : ∀ (i j : Nat) e c, es[i]? = some e → e[j]? = some c → F (a.add (i * size + j)) = some (g i j))
      (hr : ∀ (i j : Nat) e c, es[i]? = some e → e[j]? = some c → Rep F c (g i j)) : Rep F (.slice size es) (.slice (some a) es.length cap)
  | row {cs : List V} {a : Addr} (g : Nat → Value) (ho : ∀ c ∈ cs, c.one = true)
      (hg : ∀ (j : Nat) c, cs[j]? = some c → F (a.add j) = some (g j)) (hr : ∀ (j : Nat) c, cs[j]? = some c → Rep F c (g j)) : Rep F (.row cs) (.pointer (some a))
  | func {f : FuncId} {cap : List V} {xs : Array Value} (hl : xs.size = cap.length) (h : ∀ (j : Nat) c x, cap[j]? = some c → xs[j]? = some x → Rep F c x) : Rep F (.func f cap) (.func (.func f) #[] xs)
  | ifc (t : TypeId) (v : Value) : Rep F .ifc (.iface t v)
  | map {ks vs : List V} {b : Nat} {xs : Array MapEntry} (hb : F.m b = some xs) (hl : xs.size = ks.length) (hl' : xs.size = vs.length) (hk : ∀ (j : Nat) k x, ks[j]? = some k → xs[j]? = some x → Rep F k x.key)
      (hv : ∀ (j : Nat) v x, vs[j]? = some v → xs[j]? = some x → Rep F v x.val) : Rep F (.map ks vs) (.map (some b))

structure Le (F F' : Frz) : Prop where
  c : ∀ p v, F p = some v → F' p = some v
  m : ∀ b xs, F.m b = some xs → F'.m b = some xs
instance {F F' : Frz} : CoeFun (Le F F') (fun _ => ∀ p v, F p = some v → F' p = some v) := ⟨Le.c⟩
theorem Le.refl (F : Frz) : Le F F := ⟨fun _ _ h => h, fun _ _ h => h⟩
theorem Le.trans {F F' F'' : Frz} (h : Le F F') (h' : Le F' F'') : Le F F'' := ⟨fun p v e => h' p v (h p v e), fun b xs e => h'.m b xs (h.m b xs e)⟩
/-- all cells, as they lie -/
abbrev fw (w : World) : Frz := ⟨w.cell?, fun _ => none⟩
/-- what stays lies there -/
structure Sees (F : Frz) (w : World) : Prop where
  c : ∀ p v, F p = some v → w.cell? p = some v
  m : ∀ b xs, F.m b = some xs → ∃ ck, w.heap[b]? = some (.map xs ck)
instance {F : Frz} {w : World} : CoeFun (Sees F w) (fun _ => ∀ p v, F p = some v → w.cell? p = some v) := ⟨Sees.c⟩

theorem Rep.mono {F F' : Frz} (hF : Le F F') {v : V} {x : Value} (h : Rep F v x) : Rep F' v x := by
  induction h with
  | val v => exact .val v
  | str l => exact .str l
  | agg hl ho _ ih => exact .agg hl ho ih
  | tup hl _ ih => exact .tup hl ih
  | snil => exact .snil
  | slice g hc hm hs ho hg _ ih => exact .slice g hc hm hs ho (fun i j e c h1 h2 => hF _ _ (hg i j e c h1 h2)) ih
  | row g ho hg _ ih => exact .row g ho (fun j c h1 => hF _ _ (hg j c h1)) ih
  | func hl _ ih => exact .func hl ih
  | ifc t v => exact .ifc t v
  | map hb hl hl' _ _ ih ih' => exact .map (hF.m _ _ hb) hl hl' ih ih'

theorem Rep.one {F : Frz} {v : V} {x : Value} (h : Rep F v x) (ho : v.one = true) : x.oneCell' = true := by
  cases h <;> first | exact ho | rfl | (simp [V.one] at ho)

theorem add_block (a : Addr) (n : Nat) : (a.add n).block = a.block := by unfold Addr.add; split <;> rfl
theorem add_add (a : Addr) (i j : Nat) : (a.add i).add j = a.add (i + j) := by
  unfold Addr.add
  by_cases hi : i = 0 <;> by_cases hj : j = 0 <;> simp [hi, hj, Nat.add_assoc]
theorem add_plain (b o n : Nat) : (⟨b, o, none⟩ : Addr).add n = ⟨b, o + n, none⟩ := by
  unfold Addr.add
  split
  · rename_i h; subst h; rfl
  · rfl

/-! temporaries and local blocks -/

inductive TV where
  | v (x : V)
  | p (id off : Nat)
  | m (id : Nat)
  | s (id off n size : Nat)
  | u

inductive Blk where
  | var (cs : List V)
  | con (cs : List V)
  | map (es : List (V × V))

def look {α : Type} (i : Nat) : List (Nat × α) → Option α
  | [] => none
  | (j, x) :: r => bif Nat.beq i j then some x else look i r

theorem look_nil {α : Type} (i : Nat) : look i ([] : List (Nat × α)) = none := rfl
theorem look_same {α : Type} (i : Nat) (x : α) (r : List (Nat × α)) : look i ((i, x) :: r) = some x := by simp [look]
theorem look_other {α : Type} {i j : Nat} (x : α) (r : List (Nat × α)) (h : Nat.beq i j = false) : look i ((j, x) :: r) = look i r := by simp [look, h]
theorem look_cons {α : Type} (i j : Nat) (x : α) (r : List (Nat × α)) : look i ((j, x) :: r) = if i = j then some x else look i r := by
  by_cases h : i = j
  · subst h; simp [look]
  · have : Nat.beq i j = false := by
      cases hb : Nat.beq i j
      · rfl
      · exact absurd (Nat.eq_of_beq_eq_true hb) h
    simp [look, this, h]

def ofVal : Value → V
  | .string s => .str s.data.toList
  | .agg xs => .agg (xs.toList.map fun x => match x with | .string s => .str s.data.toList | x => .val x)
  | v => .val v

def okVal : Value → Bool
  | .agg xs => xs.toList.all fun x => x.oneCell'
  | _ => true

theorem rep_flat (F : Frz) (x : Value) : Rep F (match x with | .string s => .str s.data.toList | x => .val x) x := by
  cases x <;> first | exact .val _ | exact .str _
theorem rep_ofVal (F : Frz) (v : Value) (h : okVal v = true) : Rep F (ofVal v) v := by
  cases v <;> first | exact .val _ | exact .str _ | skip
  case agg xs =>
    have h' : ∀ x ∈ xs.toList, x.oneCell' = true := by unfold okVal at h; exact List.all_eq_true.1 h
    refine .agg (by simp) ?_ ?_
    · intro c hc
      obtain ⟨x, hx, rfl⟩ := List.mem_map.1 hc
      have h1 := h' x hx
      cases x <;> first | exact h1 | rfl
    · intro j c x h1 h2
      simp only [List.getElem?_map, Array.getElem?_toList, h2, Option.map_some, Option.some.injEq] at h1
      subst h1
      exact rep_flat F x

def RepT (F : Frz) (ρ : Nat → Nat) : TV → Value → Prop
  | .v x, y => Rep F x y
  | .p id off, y => y = .pointer (some ⟨ρ id, off, none⟩)
  | .m id, y => y = .map (some (ρ id))
  | .s id off n _, y => ∃ cap, n ≤ cap ∧ cap ≤ maxLen ∧ 0 < n ∧ y = .slice (some ⟨ρ id, off, none⟩) n cap
  | .u, y => y = undef

def RepB (F : Frz) (w : World) (b : Nat) : Blk → Prop
  | .var cs => ∃ (xs : Array Value) (ty : TypeId), w.heap[b]? = some (.cells xs ty (0, 0)) ∧ cs.length ≤ xs.size ∧ (∀ c ∈ cs, c.one = true) ∧
      (∀ (j : Nat) c x, cs[j]? = some c → xs[j]? = some x → Rep F c x) ∧ ∀ p v, F p = some v → p.block ≠ b
  | .con cs => ∃ g : Nat → Value, (∀ c ∈ cs, c.one = true) ∧ (∀ (j : Nat) c, cs[j]? = some c → F ⟨b, j, none⟩ = some (g j)) ∧ ∀ (j : Nat) c, cs[j]? = some c → Rep F c (g j)
  | .map es => ∃ (xs : Array MapEntry) (clock : Nat), w.heap[b]? = some (.map xs clock) ∧ F.m b = none ∧ xs.size = es.length ∧
      ∀ (j : Nat) k v x, es[j]? = some (k, v) → xs[j]? = some x → Rep F k x.key ∧ Rep F v x.val

/-- What has been added: memory from 'B' on. -/
structure Ext (F : Frz) (w : World) (F' : Frz) (w' : World) : Prop where
  le : Le F F'
  fr : Sees F' w'
  new : ∀ p v, F' p = some v → F p = some v ∨ w.heap.size ≤ p.block
  newm : ∀ b xs, F'.m b = some xs → F.m b = some xs ∨ w.heap.size ≤ b
  bel : Below w.heap.size w w'

theorem Ext.refl {F : Frz} {w : World} (h : Sees F w) : Ext F w F w := ⟨Le.refl F, h, fun _ _ h => .inl h, fun _ _ h => .inl h, Below.refl _ _⟩
theorem Ext.trans {F F' F'' : Frz} {w w' w'' : World} (h : Ext F w F' w') (k : Ext F' w' F'' w'') : Ext F w F'' w'' :=
  ⟨h.le.trans k.le, k.fr, fun p v e => (k.new p v e).elim (h.new p v) (fun hb => .inr (Nat.le_trans h.bel.size hb)), fun p v e => (k.newm p v e).elim (h.newm p v) (fun hb => .inr (Nat.le_trans h.bel.size hb)), h.bel.trans (k.bel.mono h.bel.size)⟩
theorem Ext.drew {F F' : Frz} {w w' : World} (h : Ext F w F' w') : Ext F w F' w'.drew := ⟨h.le, ⟨h.fr.c, h.fr.m⟩, h.new, h.newm, h.bel.drew⟩

theorem cell_lt {w : World} {p : Addr} {v : Value} (h : w.cell? p = some v) : p.block < w.heap.size := by
  unfold World.cell? at h
  rcases Nat.lt_or_ge p.block w.heap.size with hlt | hge
  · exact hlt
  · rw [Array.getElem?_eq_none hge] at h; cases h

theorem RepB.ext {F F' : Frz} {w w' : World} {b : Nat} {k : Blk} (h : RepB F w b k) (hx : Ext F w F' w') : RepB F' w' b k := by
  cases k with
  | var cs =>
    obtain ⟨xs, ty, h1, h2, h3, h4, h5⟩ := h
    have hlt : b < w.heap.size := by
      rcases Nat.lt_or_ge b w.heap.size with hlt | hge
      · exact hlt
      · rw [Array.getElem?_eq_none hge] at h1; cases h1
    refine ⟨xs, ty, (hx.bel.block b hlt).trans h1, h2, h3, fun j c x e1 e2 => (h4 j c x e1 e2).mono hx.le, fun p v e => ?_⟩
    rcases hx.new p v e with e' | e'
    · exact h5 p v e'
    · omega
  | con cs =>
    obtain ⟨g, h1, h2, h3⟩ := h
    exact ⟨g, h1, fun j c e => hx.le _ _ (h2 j c e), fun j c e => (h3 j c e).mono hx.le⟩
  | map es =>
    obtain ⟨xs, ck, h1, h0, h2, h3⟩ := h
    have hlt : b < w.heap.size := by
      rcases Nat.lt_or_ge b w.heap.size with hlt | hge
      · exact hlt
      · rw [Array.getElem?_eq_none hge] at h1; cases h1
    have h0' : F'.m b = none := by
      cases e : F'.m b with
      | none => rfl
      | some ys =>
        rcases hx.newm b ys e with e' | e'
        · rw [h0] at e'; cases e'
        · omega
    exact ⟨xs, ck, (hx.bel.block b hlt).trans h1, h0', h2, fun j k v x e1 e2 => ⟨((h3 j k v x e1 e2).1).mono hx.le, ((h3 j k v x e1 e2).2).mono hx.le⟩⟩
theorem RepT.mono {F F' : Frz} {ρ : Nat → Nat} {tv : TV} {y : Value} (h : RepT F ρ tv y) (hx : Le F F') : RepT F' ρ tv y := by
  cases tv with
  | v x => exact Rep.mono hx h
  | _ => exact h
end Go.Ab
