/-
  Operations that make memory which stays as it is: slice literals, struct literals.
-/
import Derived.Test.YtbofgklhjjfbkaaGreatDoorAb7
namespace Go.Ab
open Go.RowKit
variable {P : Program} {F : Frz} {w : World} {ρ : Nat → Nat} {h : List (Nat × Blk)} {ρa : Operand → Option TV} {ρc : Operand → Value}

/-- a new block, all of whose first n cells stay as they are -/
def addBlk (F : Frz) (b n : Nat) (xs : Array Value) : Frz := ⟨fun p => if p.block = b ∧ p.spot = none ∧ p.off < n then xs[p.off]? else F p, F.m⟩
theorem addBlk_app (F : Frz) (b n : Nat) (xs : Array Value) (p : Addr) : addBlk F b n xs p = if p.block = b ∧ p.spot = none ∧ p.off < n then xs[p.off]? else F p := rfl
theorem map_lt (hF : Sees F w) {b : Nat} {xs : Array MapEntry} (e : F.m b = some xs) : b < w.heap.size := by
  obtain ⟨ck, h⟩ := hF.m b xs e
  rcases Nat.lt_or_ge b w.heap.size with hlt | hge
  · exact hlt
  · rw [Array.getElem?_eq_none hge] at h; cases h
theorem nomap (hF : Sees F w) {b : Nat} {xs : Array Value} {t : TypeId} {fz : Nat × Nat} (h : w.heap[b]? = some (.cells xs t fz)) : F.m b = none := by
  cases e : F.m b with
  | none => rfl
  | some ys => obtain ⟨ck, h2⟩ := hF.m b ys e; rw [h] at h2; cases h2

theorem nomap_new (hF : Sees F w) : F.m w.heap.size = none := by
  cases e : F.m w.heap.size with
  | none => rfl
  | some ys => exact absurd (map_lt hF e) (Nat.lt_irrefl _)
theorem ext_alloc (hF : Sees F w) (n : Nat) (xs : Array Value) (e : TypeId) : Ext F w (addBlk F w.heap.size n xs) (w.alloc (.cells xs e)) := by
  have hno : ∀ p v, F p = some v → p.block < w.heap.size := fun p v hp => cell_lt (hF p v hp)
  refine ⟨⟨fun p v hp => ?_, fun _ _ e => e⟩, ⟨fun p v hp => ?_, fun b xs e => ?_⟩, fun p v hp => ?_, fun _ _ e => .inl e, (Below.refl _ _).alloc (Nat.le_refl _) _⟩
  · have := hno p v hp
    rw [addBlk_app, if_neg (by omega)]
    exact hp
  · rw [addBlk_app] at hp
    split at hp
    · rename_i hb
      obtain ⟨b, o, s⟩ := p
      simp only at hb hp
      obtain ⟨rfl, rfl, _⟩ := hb
      have : (w.alloc (.cells xs e)).heap[w.heap.size]? = some (.cells xs e (0, 0)) := by
        show (w.heap.push _)[w.heap.size]? = _
        simp
      unfold World.cell?
      rw [this]
      simp [hp]
    · have := hF p v hp
      rw [World.cell?_of_block (w := w) (Below.heap_alloc w _ _ (hno p v hp))]
      exact this
  · obtain ⟨ck, h⟩ := hF.m b xs e
    exact ⟨ck, (Below.heap_alloc w _ _ (map_lt hF e)).trans h⟩
  · rw [addBlk_app] at hp
    split at hp
    · rename_i hb; right; omega
    · exact .inl hp

def oneV : V → Bool
  | .agg _ => true
  | v => v.one

/-- the cells of a value, as they lie -/
theorem cells_of_rep {v : V} {x : Value} (hr : Rep F v x) (ho : oneV v = true) :
    x.cells.size = v.cells.length ∧ (∀ c ∈ v.cells, c.one = true) ∧ ∀ (j : Nat) c y, v.cells[j]? = some c → x.cells[j]? = some y → Rep F c y := by
  cases hr with
  | agg hl hone hh => exact ⟨hl, hone, hh⟩
  | tup hl hh => cases ho
  | val =>
    have hu : x.cells = #[x] := by cases x <;> first | rfl | (simp [oneV, V.one, Value.oneCell'] at ho)
    refine ⟨by simp [hu, V.cells], fun c hc => by simp [V.cells] at hc; subst hc; exact ho, fun j c y h1 h2 => ?_⟩
    rw [hu] at h2
    cases j with
    | zero => simp [V.cells] at h1 h2; subst h1 h2; exact .val _
    | succ j => simp [V.cells] at h1
  | str l =>
    refine ⟨rfl, fun c hc => by simp [V.cells] at hc; subst hc; rfl, fun j c y h1 h2 => ?_⟩
    cases j with
    | zero => simp [V.cells, Value.cells] at h1 h2; subst h1 h2; exact .str _
    | succ j => simp [V.cells] at h1
  | snil =>
    refine ⟨rfl, fun c hc => by simp [V.cells] at hc; subst hc; rfl, fun j c y h1 h2 => ?_⟩
    cases j with
    | zero => simp [V.cells, Value.cells] at h1 h2; subst h1 h2; exact .snil
    | succ j => simp [V.cells] at h1
  | slice g hc hm hs ho' hg hr =>
    refine ⟨rfl, fun c hc => by simp [V.cells] at hc; subst hc; rfl, fun j c y h1 h2 => ?_⟩
    cases j with
    | zero => simp [V.cells, Value.cells] at h1 h2; subst h1 h2; exact .slice g hc hm hs ho' hg hr
    | succ j => simp [V.cells] at h1
  | row g ho' hg hr =>
    refine ⟨rfl, fun c hc => by simp [V.cells] at hc; subst hc; rfl, fun j c y h1 h2 => ?_⟩
    cases j with
    | zero => simp [V.cells, Value.cells] at h1 h2; subst h1 h2; exact .row g ho' hg hr
    | succ j => simp [V.cells] at h1
  | func hl hh =>
    refine ⟨rfl, fun c hc => by simp [V.cells] at hc; subst hc; rfl, fun j c y h1 h2 => ?_⟩
    cases j with
    | zero => simp [V.cells, Value.cells] at h1 h2; subst h1 h2; exact .func hl hh
    | succ j => simp [V.cells] at h1
  | ifc t u =>
    refine ⟨rfl, fun c hc => by simp [V.cells] at hc; subst hc; rfl, fun j c y h1 h2 => ?_⟩
    cases j with
    | zero => simp [V.cells, Value.cells] at h1 h2; subst h1 h2; exact .ifc _ _
    | succ j => simp [V.cells] at h1
  | map hb hl hl' hk hv =>
    refine ⟨rfl, fun c hc => by simp [V.cells] at hc; subst hc; rfl, fun j c y h1 h2 => ?_⟩
    cases j with
    | zero => simp [V.cells, Value.cells] at h1 h2; subst h1 h2; exact .map hb hl hl' hk hv
    | succ j => simp [V.cells] at h1

/-- one piece laid over the cells from 'off' on -/
theorem lay_get (xs : Array Value) (off : Nat) : ∀ (l : List Value) (k : Nat) (i : Nat), off + k + l.length ≤ xs.size →
    ((l.zipIdx k).foldl (fun cs (c, j) => cs.setIfInBounds (off + j) c) xs)[i]? = if off + k ≤ i ∧ i < off + k + l.length then l[i - (off + k)]? else xs[i]? := by
  intro l
  induction l generalizing xs with
  | nil => intro k i _; simp; intro h1 h2; omega
  | cons c l ih =>
    intro k i hb
    simp only [List.zipIdx_cons, List.foldl_cons, List.length_cons] at hb ⊢
    rw [ih (xs.setIfInBounds (off + k) c) (k + 1) i (by simp; omega)]
    by_cases h1 : off + (k + 1) ≤ i ∧ i < off + (k + 1) + l.length
    · rw [if_pos h1, if_pos (by omega)]
      have : i - (off + k) = (i - (off + (k + 1))) + 1 := by omega
      rw [this, List.getElem?_cons_succ]
    · rw [if_neg h1]
      by_cases h2 : i = off + k
      · subst h2
        rw [if_pos (by omega)]
        have hlt : off + k < xs.size := by omega
        simp [hlt]
      · rw [if_neg (by omega), Array.getElem?_setIfInBounds_ne (by omega)]
theorem lay_size (xs : Array Value) (off : Nat) : ∀ (l : List Value) (k : Nat), ((l.zipIdx k).foldl (fun cs (c, j) => cs.setIfInBounds (off + j) c) xs).size = xs.size := by
  intro l
  induction l generalizing xs with
  | nil => intro k; rfl
  | cons c l ih => intro k; simp only [List.zipIdx_cons, List.foldl_cons]; rw [ih]; simp

def setAt (cs : List V) (off : Nat) (news : List V) : List V := cs.take off ++ news ++ cs.drop (off + news.length)

theorem setAt_get {cs : List V} {off : Nat} {news : List V} (hb : off + news.length ≤ cs.length) (i : Nat) :
    (setAt cs off news)[i]? = if off ≤ i ∧ i < off + news.length then news[i - off]? else cs[i]? := by
  unfold setAt
  by_cases h1 : i < off
  · rw [if_neg (by omega), List.append_assoc, List.getElem?_append_left (by simp; omega), List.getElem?_take, if_pos h1]
  · by_cases h2 : i < off + news.length
    · rw [if_pos (by omega), List.append_assoc, List.getElem?_append_right (by simp; omega), List.getElem?_append_left (by simp; omega)]
      congr 1
      simp; omega
    · rw [if_neg (by omega), List.append_assoc, List.getElem?_append_right (by simp; omega), List.getElem?_append_right (by simp; omega), List.getElem?_drop]
      congr 1
      simp; omega
theorem setAt_length {cs : List V} {off : Nat} {news : List V} (hb : off + news.length ≤ cs.length) : (setAt cs off news).length = cs.length := by
  unfold setAt; simp; omega

/-- the pieces of a literal laid over what was there -/
def fillV (pl : Nat → Option (Nat × Nat)) : List V → List (Nat × V) → Option (List V)
  | cs, [] => some cs
  | cs, (i, v) :: r => match pl i with
    | none => none
    | some (off, size) => if v.cells.length = size ∧ off + size ≤ cs.length ∧ oneV v = true then fillV pl (setAt cs off v.cells) r else none

theorem fillV_sound (pl : Nat → Option (Nat × Nat)) : ∀ (ps : List (Nat × V)) (qs : List (Nat × Value)) (cs r : List V) (xs : Array Value),
    xs.size = cs.length → (∀ c ∈ cs, c.one = true) → (∀ (j : Nat) c y, cs[j]? = some c → xs[j]? = some y → Rep F c y) →
    qs.length = ps.length → (∀ (j : Nat) i v i' y, ps[j]? = some (i, v) → qs[j]? = some (i', y) → i' = i ∧ Rep F v y) → fillV pl cs ps = some r →
    ∃ ys, Instr.fill pl xs qs = some ys ∧ ys.size = r.length ∧ (∀ c ∈ r, c.one = true) ∧ ∀ (j : Nat) c y, r[j]? = some c → ys[j]? = some y → Rep F c y
  | [], [], cs, r, xs, h1, h2, h3, _, _, e => by
    simp only [fillV, Option.some.injEq] at e
    subst e
    exact ⟨xs, rfl, h1, h2, h3⟩
  | [], _ :: _, _, _, _, _, _, _, hl, _, _ => by simp at hl
  | _ :: _, [], _, _, _, _, _, _, hl, _, _ => by simp at hl
  | (i, v) :: ps, (i', x) :: qs, cs, r, xs, h1, h2, h3, hl, hh, e => by
    obtain ⟨rfl, hr⟩ := hh 0 i v i' x rfl rfl
    simp only [fillV] at e
    cases hp : pl i' with
    | none => rw [hp] at e; cases e
    | some os =>
      obtain ⟨off, size⟩ := os
      rw [hp] at e
      simp only at e
      split at e
      · rename_i hc
        obtain ⟨c1, c2, c3⟩ := hc
        obtain ⟨s1, s2, s3⟩ := cells_of_rep hr c3
        subst c1
        have hlen : x.cells.toList.length = v.cells.length := by simpa using s1
        have hfill : Instr.fill pl xs ((i', x) :: qs) = Instr.fill pl (x.cells.zipIdx.foldl (fun cs (c, j) => cs.setIfInBounds (off + j) c) xs) qs := by
          simp only [Instr.fill, hp]
          rw [if_neg (by simp; omega)]
        have hfold : x.cells.zipIdx.foldl (fun cs (c, j) => cs.setIfInBounds (off + j) c) xs = (x.cells.toList.zipIdx 0).foldl (fun cs (c, j) => cs.setIfInBounds (off + j) c) xs := by
          rw [← Array.foldl_toList]
          simp
        rw [hfill, hfold]
        have hget := fun i => lay_get xs off x.cells.toList 0 i (by simp; omega)
        refine fillV_sound pl ps qs _ r _ (by rw [lay_size, setAt_length c2]; exact h1) ?_ ?_ (by simpa using hl) (fun j a b c d e1 e2 => hh (j + 1) a b c d (by simpa using e1) (by simpa using e2)) e
        · intro c hc
          obtain ⟨j, hj⟩ := List.getElem?_of_mem hc
          rw [setAt_get c2] at hj
          split at hj
          · exact s2 c (List.mem_of_getElem? hj)
          · exact h2 c (List.mem_of_getElem? hj)
        · intro j c y e1 e2
          rw [hget] at e2
          rw [setAt_get c2] at e1
          simp only [Nat.add_zero, hlen] at e2
          split at e1
          · rename_i hin
            rw [if_pos hin] at e2
            exact s3 _ c y e1 (by simpa using e2)
          · rename_i hin
            rw [if_neg hin] at e2
            exact h3 j c y e1 e2
      · cases e

def partsV (ρ : Operand → Option TV) : List (Nat × Operand) → Option (List (Nat × V))
  | [] => some []
  | (i, x) :: r => match vOf (ρ x), partsV ρ r with
    | some v, some vs => some ((i, v) :: vs)
    | _, _ => none
theorem partsV_sound (G : Good F w ρ h ρa ρc) : ∀ {l : List (Nat × Operand)} {vs : List (Nat × V)}, partsV ρa l = some vs →
    (l.map fun (i, x) => (i, ρc x)).length = vs.length ∧ ∀ (j : Nat) i v i' x, vs[j]? = some (i, v) → (l.map fun (i, x) => (i, ρc x))[j]? = some (i', x) → i' = i ∧ Rep F v x
  | [], vs, e => by simp [partsV] at e; subst e; simp
  | (i, x) :: r, vs, e => by
    simp only [partsV] at e
    split at e
    · rename_i v vs' h1 h2
      cases e
      obtain ⟨hl, hh⟩ := partsV_sound G h2
      refine ⟨by simpa using hl, fun j a b c d e1 e2 => ?_⟩
      cases j with
      | zero =>
        simp only [List.getElem?_cons_zero, Option.some.injEq, List.map_cons, Prod.mk.injEq] at e1 e2
        obtain ⟨rfl, rfl⟩ := e1
        obtain ⟨rfl, rfl⟩ := e2
        exact ⟨rfl, G.v h1⟩
      | succ j =>
        simp only [List.getElem?_cons_succ, List.map_cons] at e1 e2
        exact hh j a b c d e1 e2
    · cases e
end Go.Ab
