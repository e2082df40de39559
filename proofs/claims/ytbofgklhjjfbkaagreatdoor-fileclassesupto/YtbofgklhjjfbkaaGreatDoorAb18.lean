/-
  Functions: from the body's walk to what the function denotes. What a state may forget.
-/
import Derived.Test.YtbofgklhjjfbkaaGreatDoorAb17
namespace Go.Ab
open Go.RowKit
variable {P : Program} {T : Lay}
variable {w : World} {M : Nat → Prop} {F0 F : Frz} {w0 : World} {ρ : Nat → Nat} {a : Act} {st : St}

/-- what one result variable holds -/
def resV (P : Program) (st : St) : ResultVar → Option V
  | .tmp t => vOf (st.σ t)
  | .cell t ty => (behind st.h (st.σ t)).bind (ldV P ty)
def resL (P : Program) (st : St) : List ResultVar → Option (List V)
  | [] => some []
  | r :: rs => match resV P st r, resL P st rs with
    | some v, some vs => some (v :: vs)
    | _, _ => none
def resS (P : Program) (st : St) (l : List ResultVar) : Option V :=
  match resL P st l with
  | some [v] => some v
  | some vs => some (.tup vs)
  | none => none

/-- one result, in the model -/
def resM (tmps : Array Value) : ResultVar → Sem Value
  | .tmp t => pure (tmps.getD t undef)
  | .cell a t => do loadVar t (← asAddr (tmps.getD a undef))
theorem results_eq (fn : Func) (tmps : Array Value) : results fn tmps = (do let vs ← fn.results.mapM (resM tmps); pure (if h : vs.size = 1 then vs[0] else .tuple vs)) := by
  rfl

/-- one result alone, or all of them together -/
def joinR : List Value → Value
  | [x] => x
  | xs => .tuple xs.toArray

theorem results_list {fn : Func} {tmps : Array Value} {xs : List Value} (h : (fn.results.toList.mapM (resM tmps)).run P w = .ok xs w) :
    (results fn tmps).run P w = .ok (joinR xs) w := by
  rw [results_eq]
  simp only [Array.mapM_eq_mapM_toList]
  simp only [Sem.run_bind, Sem.run_map]
  rw [h]
  simp only [Result.andThen_ok, Sem.run_pure]
  match xs with
  | [] => rfl
  | [x] => rfl
  | x :: y :: r => simp [joinR]

theorem asAddr_run (ad : Addr) : (asAddr (.pointer (some ad))).run P w = .ok ad w := rfl

theorem resL_sound (S : SimS P T M F0 w0 F ρ st a w) : ∀ (l : List ResultVar) {vs : List V}, resL P st l = some vs →
    ∃ xs, (l.mapM (resM a.tmps)).run P w = .ok xs w ∧ xs.length = vs.length ∧ ∀ (j : Nat) v x, vs[j]? = some v → xs[j]? = some x → Rep F v x
  | [], vs, h => by
    simp only [resL, Option.some.injEq] at h
    subst h
    exact ⟨[], rfl, rfl, by simp⟩
  | r :: rs, vs, h => by
    simp only [resL] at h
    split at h
    · rename_i v vs' h1 h2
      cases h
      obtain ⟨xs, g1, g2, g3⟩ := resL_sound S rs h2
      have hone : ∃ x, (resM a.tmps r).run P w = .ok x w ∧ Rep F v x := by
        cases r with
        | tmp t =>
          simp only [resV] at h1
          have := Sim.good S |>.v (x := .tmp t) h1
          exact ⟨a.eval (.tmp t), rfl, this⟩
        | cell t ty =>
          simp only [resV, Option.bind_eq_some_iff] at h1
          obtain ⟨cs, k1, k2⟩ := h1
          obtain ⟨y, r1, r2⟩ := behind_load (P := P) (Sim.good S) (x := .tmp t) k1 k2
          refine ⟨y, ?_, r2⟩
          simp only [Instr.loadAt, Sem.run_bind] at r1
          -- the address is sure
          have hp : ∃ ad, a.eval (.tmp t) = .pointer (some ad) := by
            unfold behind at k1
            split at k1
            · rename_i cs' hx
              obtain ⟨ad, g, e, _⟩ := rep_row_inv (show Rep F (.row cs') (a.eval (.tmp t)) from S.opr (.tmp t) _ hx)
              exact ⟨ad, e⟩
            · rename_i id off hx
              exact ⟨_, show a.eval (.tmp t) = _ from S.opr (.tmp t) _ hx⟩
            · cases k1
          obtain ⟨ad, hp⟩ := hp
          have hp' : a.tmps.getD t undef = .pointer (some ad) := hp
          rw [hp] at r1
          simp only [resM, hp', Sem.run_bind, asAddr_run, Result.andThen_ok]
          simpa [Instr.sureAddr] using r1
      obtain ⟨x, hx1, hx2⟩ := hone
      refine ⟨x :: xs, ?_, by simp [g2], fun j v' x' e1 e2 => ?_⟩
      · simp only [List.mapM_cons, Sem.run_bind]
        rw [hx1]
        simp only [Result.andThen_ok]
        rw [g1]
        rfl
      · cases j with
        | zero => simp at e1 e2; subst e1 e2; exact hx2
        | succ j => exact g3 j v' x' (by simpa using e1) (by simpa using e2)
    · cases h

theorem resS_sound {fn : Func} {r : V} (S : SimS P T M F0 w0 F ρ st a w) (h : resS P st fn.results.toList = some r) : ∃ y, (results fn a.tmps).run P w = .ok y w ∧ Rep F r y := by
  unfold resS at h
  cases hl : resL P st fn.results.toList with
  | none => rw [hl] at h; cases h
  | some vs =>
    rw [hl] at h
    obtain ⟨xs, g1, g2, g3⟩ := resL_sound S _ hl
    refine ⟨_, results_list g1, ?_⟩
    match vs, xs, g2, g3, h with
    | [], [], _, g3, h => simp at h; subst h; exact .tup rfl (by simp)
    | [v], [x], _, g3, h => simp at h; subst h; exact g3 0 v x rfl rfl
    | v :: v' :: vs, x :: x' :: xs, g2, g3, h =>
      simp at h; subst h
      exact .tup (by simpa using g2) (fun j c y e1 e2 => g3 j c y e1 (by simpa using e2))
    | [], _ :: _, g2, _, _ => simp at g2
    | [_], [], g2, _, _ => simp at g2
    | [_], _ :: _ :: _, g2, _, _ => simp at g2
    | _ :: _ :: _, [], g2, _, _ => simp at g2
    | _ :: _ :: _, [_], g2, _, _ => simp at g2

/-- the elements of a part of a row -/
def chunk (off n size : Nat) (cs : List V) : List (List V) := (List.range n).map fun i => (cs.drop (off + i * size)).take size
theorem chunk_get {off n size : Nat} {cs : List V} {i : Nat} {e : List V} (h : (chunk off n size cs)[i]? = some e) : i < n ∧ e = (cs.drop (off + i * size)).take size := by
  simp only [chunk, List.getElem?_map, Option.map_eq_some_iff] at h
  obtain ⟨j, h1, rfl⟩ := h
  obtain ⟨h3, h2⟩ := List.getElem?_eq_some_iff.1 h1
  simp at h3 h2
  subst h2
  exact ⟨h3, rfl⟩

/-- a local row that is written no more -/
def frzt1 (t : Nat) (st : St) : St :=
  match look t st.t with
  | some (.s id off n size) => match look id st.h with
    | some (.var cs) => if off + n * size ≤ cs.length then { st with t := (t, .v (.slice size (chunk off n size cs))) :: st.t, h := frz1 id st.h, o := remo t st.o } else st
    | some (.con cs) => if off + n * size ≤ cs.length then { st with t := (t, .v (.slice size (chunk off n size cs))) :: st.t, h := frz1 id st.h, o := remo t st.o } else st
    | _ => st
  | some (.m id) => match look id st.h with
    | some (.map es) => { st with t := (t, .v (.map (es.map (·.1)) (es.map (·.2)))) :: st.t, h := seth id (.con []) st.h, o := remo t st.o }
    | _ => st
  | _ => st
def frzF : List ResultVar → St → St
  | [], st => st
  | .tmp t :: r, st => frzF r (frzt1 t st)
  | _ :: r, st => frzF r st

theorem put_same {a : Act} {i : Nat} {x : Value} (h : a.tmps[i]? = some x) : a.put (some i) x = a := by
  have hv : a.tmps[i]'(Array.getElem?_eq_some_iff.1 h).1 = x := (Array.getElem?_eq_some_iff.1 h).2
  simp only [Act.put]
  congr 1
  apply Array.ext
  · simp
  · intro j g1 g2
    rw [Array.getElem_setIfInBounds]
    split
    · rename_i he; subst he; exact hv.symm
    · rfl

theorem chunk_rep {F : Frz} {b off n size cap : Nat} {cs : List V} {g : Nat → Value} (h1 : ∀ c ∈ cs, c.one = true) (h2 : ∀ (j : Nat) c, cs[j]? = some c → F ⟨b, j, none⟩ = some (g j)) (h3 : ∀ (j : Nat) c, cs[j]? = some c → Rep F c (g j))
    (hfit : off + n * size ≤ cs.length) (hn : n ≤ cap) (hc : cap ≤ maxLen) : Rep F (.slice size (chunk off n size cs)) (.slice (some ⟨b, off, none⟩) n cap) := by
  have hlen : (chunk off n size cs).length = n := by simp [chunk]
  have hfit' : ∀ i, i < n → off + i * size + size ≤ cs.length := fun i hi => by
    have : (i + 1) * size ≤ n * size := Nat.mul_le_mul_right _ hi
    rw [Nat.add_mul] at this; omega
  have hel : ∀ (i j : Nat) e c, (chunk off n size cs)[i]? = some e → e[j]? = some c → cs[off + (i * size + j)]? = some c := fun i j e c e1 e2 => by
    obtain ⟨hi, rfl⟩ := chunk_get e1
    rw [List.getElem?_take] at e2
    split at e2
    · rw [List.getElem?_drop] at e2
      rw [← Nat.add_assoc]; exact e2
    · cases e2
  have : Rep F (.slice size (chunk off n size cs)) (.slice (some ⟨b, off, none⟩) (chunk off n size cs).length cap) := by
    refine .slice (fun i j => g (off + (i * size + j))) (by omega) hc (fun e he => ?_) (fun e he c hce => ?_) (fun i j e c e1 e2 => ?_) (fun i j e c e1 e2 => h3 _ c (hel i j e c e1 e2))
    · obtain ⟨i, hi⟩ := List.getElem?_of_mem he
      obtain ⟨hlt, rfl⟩ := chunk_get hi
      have := hfit' i hlt
      simp; omega
    · obtain ⟨i, hi⟩ := List.getElem?_of_mem he
      obtain ⟨j, hj⟩ := List.getElem?_of_mem hce
      exact h1 c (List.mem_of_getElem? (hel i j e c hi hj))
    · rw [add_plain]; exact h2 _ c (hel i j e c e1 e2)
  rwa [hlen] at this

theorem frzt1_sound (S : SimS P T M F0 w0 F ρ st a w) (t : Nat) : ∃ F', SimS P T M F0 w0 F' ρ (frzt1 t st) a w := by
  unfold frzt1
  split
  · rename_i id off n size ht
    have go : ∀ cs, (look id (frz1 id st.h) = some (.con cs)) → off + n * size ≤ cs.length → ∃ F', SimS P T M F0 w0 F' ρ { st with t := (t, .v (.slice size (chunk off n size cs))) :: st.t, h := frz1 id st.h, o := remo t st.o } a w := fun cs hcon hfit => by
      obtain ⟨F', S1⟩ := frz1_sound S id
      refine ⟨F', ?_⟩
      obtain ⟨x, h1, cap, h2, h3, h4, rfl⟩ := S1.tm t _ ht
      obtain ⟨⟨g, q1, q2, q3⟩, _⟩ := S1.hp id _ hcon
      have := Sim.putr (d := t) (tv := .v (.slice size (chunk off n size cs))) S1 (chunk_rep q1 q2 q3 hfit h2 h3) trivial (by have := (Array.getElem?_eq_some_iff.1 h1).1; have hn := S.n; rw [← S.n]; exact this)
      rw [put_same h1] at this
      unfold SimS
      rw [σ_cons]
      exact this
    split
    · rename_i cs hb
      split
      · exact go cs (by rw [frz1_look, if_pos rfl, hb]; rfl) ‹_›
      · exact ⟨F, S⟩
    · rename_i cs hb
      split
      · exact go cs (by rw [frz1_look, if_pos rfl, hb]; rfl) ‹_›
      · exact ⟨F, S⟩
    · exact ⟨F, S⟩
  · rename_i id ht
    split
    · rename_i es hb
      obtain ⟨F', S1, xs, hm, hsz, hx⟩ := Sim.frzM S hb
      refine ⟨F', ?_⟩
      obtain ⟨x, h1, rfl⟩ := S1.tm t _ ht
      have hrep : Rep F' (.map (es.map (·.1)) (es.map (·.2))) (.map (some (ρ id))) := by
        refine .map hm (by simpa using hsz) (by simpa using hsz) (fun j k y e1 e2 => ?_) (fun j v y e1 e2 => ?_)
        · simp only [List.getElem?_map, Option.map_eq_some_iff] at e1
          obtain ⟨⟨k', v'⟩, e3, rfl⟩ := e1
          exact (hx j k' v' y e3 e2).1
        · simp only [List.getElem?_map, Option.map_eq_some_iff] at e1
          obtain ⟨⟨k', v'⟩, e3, rfl⟩ := e1
          exact (hx j k' v' y e3 e2).2
      have hT : RepT F' ρ (TV.v (V.map (es.map (·.1)) (es.map (·.2)))) (.map (some (ρ id))) := hrep
      have := Sim.putr (d := t) S1 hT trivial (by have := (Array.getElem?_eq_some_iff.1 h1).1; rw [← S.n]; exact this)
      rw [put_same h1] at this
      unfold SimS
      rw [σ_cons]
      exact this
    · exact ⟨F, S⟩
  · exact ⟨F, S⟩
theorem frzF_sound : ∀ (l : List ResultVar) {st : St} {F : Frz}, SimS P T M F0 w0 F ρ st a w → ∃ F', SimS P T M F0 w0 F' ρ (frzF l st) a w
  | [], st, F, S => ⟨F, S⟩
  | .tmp t :: r, st, F, S => by
    obtain ⟨F', S'⟩ := frzt1_sound S t
    exact frzF_sound r S'
  | .cell _ _ :: r, st, F, S => frzF_sound r S

/-- the arguments in the first temporaries -/
def args0 : Nat → List V → List (Nat × TV)
  | _, [] => []
  | k, v :: r => (k, .v v) :: args0 (k + 1) r
theorem args0_look : ∀ (l : List V) (k i : Nat) {tv : TV}, look i (args0 k l) = some tv → ∃ v, tv = .v v ∧ k ≤ i ∧ l[i - k]? = some v
  | [], _, _, _, h => by cases h
  | v :: r, k, i, tv, h => by
    simp only [args0] at h
    rw [look_cons] at h
    split at h
    · rename_i he; cases h; subst he; exact ⟨v, rfl, Nat.le_refl _, by simp⟩
    · rename_i he
      obtain ⟨u, h1, h2, h3⟩ := args0_look r (k + 1) i h
      refine ⟨u, h1, by omega, ?_⟩
      have : i - k = (i - (k + 1)) + 1 := by omega
      rw [this]; simpa using h3

/-- the post of a function that returns r; 'own': of which element type a slice is handed over -/
def fpost (P : Program) (rs : List ResultVar) (r : V) : AX → St → Prop
  | .ex _, _ => False
  | _, st => (∃ v, resS P st rs = some v ∧ Wk v r) ∨ ∃ v, resS P (frzF rs st) rs = some v ∧ Wk v r
/-- one that hands a row over that nobody has looked at -/
def fpostN (rs : List ResultVar) (size : Nat) (es : List (List V)) : AX → St → Prop
  | .ex _, _ => False
  | _, st => match rs with
    | [.tmp t] => (∃ id cs, st.σ t = some (.s id 0 es.length size) ∧ look id st.h = some (.var (es.flatten ++ cs))) ∨ (es = [] ∧ ∃ v, vOf (st.σ t) = some v ∧ Wk v (.slice size []))
    | _ => False
/-- one that may write the block 0 -/
def resT (P : Program) (st : St) : List ResultVar → Option TV
  | [.tmp t] => nu (st.σ t)
  | rs => (resS P st rs).map .v
inductive WkT : TV → TV → Prop
  | refl (t : TV) : WkT t t
  | v {a b : V} (h : Wk a b) : WkT (.v a) (.v b)
def fpostM (P : Program) (rs : List ResultVar) (cs' : List V) (r : TV) : AX → St → Prop
  | .ex _, _ => False
  | _, st => (∃ cs, look 999999 st.h = some (.var (cs' ++ cs))) ∧ ∃ r', resT P st rs = some r' ∧ WkT r' r ∧ only 999999 [r] = true
def fpostO (P : Program) (rs : List ResultVar) (e : TypeId) (r : V) : AX → St → Prop
  | .ex _, _ => False
  | _, st => (∃ v, resS P st rs = some v ∧ Wk v r) ∧ match rs with
    | [.tmp t] => vOf (st.σ t) = some (.val (.slice none 0 0)) ∨ ownOf t st.o = some e
    | _ => False

theorem sim0 {fn : Func} {args : List V} {xs : List Value} (hF : Sees F w) (hT : Laid T F w) (ha : Reps F args xs) (n : Nat) (hn : n = max fn.ntmps args.length) (hnn : n ≤ 999999) :
    SimS P T (fun g => w.heap.size ≤ g) F w F id { n := n, t := args0 0 args, h := [], o := [] } { tmps := xs.toArray ++ Array.replicate (fn.ntmps - xs.toArray.size) undef, defers := [] } w where
  n := by simp [ha.1, hn]; omega
  df := rfl
  sees := hF
  lay := ⟨hT, fun g hg => by
    cases e : T.r g with
    | none => exact absurd e hg
    | some xs =>
      obtain ⟨⟨ty, fz, h1⟩, -⟩ := hT.2 g xs e
      have : g < w.heap.size := by
        rcases Nat.lt_or_ge g w.heap.size with h | h
        · exact h
        · rw [Array.getElem?_eq_none h] at h1; cases h1
      omega⟩
  le := Le.refl F
  new := fun p v e => .inl e
  newm := fun _ _ e => .inl e
  bel := BelM.refl _ _
  hM := fun _ h => h
  tm := fun i tv e => by
    obtain ⟨v, rfl, h1, h2⟩ := args0_look args 0 i e
    have hlt := (List.getElem?_eq_some_iff.1 h2).1
    simp only [Nat.sub_zero] at h2 hlt
    have hx : xs[i]? = some (xs[i]'(by rw [ha.1]; exact hlt)) := List.getElem?_eq_getElem _
    refine ⟨xs[i]'(by rw [ha.1]; exact hlt), ?_, ha.2 i v _ h2 hx⟩
    rw [Array.getElem?_append_left (by simp [ha.1]; exact hlt)]
    simp
  wf := fun i tv e => by
    obtain ⟨v, rfl, _⟩ := args0_look args 0 i e
    trivial
  hp := fun id k e => by cases e
  nn := by simp [ha.1]; omega
  z := fun k e => by cases e
  inj := fun id id' k k' e => by cases e
  ow := fun j e c hj => by simp at hj
  od := fun j j' e c e' c' _ hj => by simp at hj

theorem post_ext (S : SimS P T (fun g => w.heap.size ≤ g) F w F0 ρ st a w0) : Ext F w F0 w0 := ⟨S.le, S.sees, S.new, S.newm, ⟨S.bel.os, S.bel.tape, S.bel.output, S.bel.size, fun q hq => S.bel.block q hq (by omega)⟩⟩

/-- A FUNCTION'S CONTRACT, out of its body. -/
theorem den_of_body {f : FuncId} {fn : Func} {c : Code} {args : List V} {r : V} (hm : P.follows .mixedOrders = true) (hE : Enters P f) (hf : P.funcs[f]? = some fn) (hb : fn.body = some c) (n : Nat) (hn : n = max fn.ntmps args.length) 
    (h : aw P T c { n := n, t := args0 0 args, h := [], o := [] } (fpost P fn.results.toList r)) (hnn : n ≤ 999999 := by decide) : Den P T f args r := by
  refine ⟨hE, fun w F xs hF hT ha => ?_⟩
  refine calls_of_wp hf hb (wp_mono (aw_sound hm c (sim0 hF hT ha n hn hnn) h) ?_)
  intro e a w' hq
  have aux : (∃ F' ρ st, SimS P T (fun g => w.heap.size ≤ g) F w F' ρ st a w' ∧ ((∃ v, resS P st fn.results.toList = some v ∧ Wk v r) ∨ ∃ v, resS P (frzF fn.results.toList st) fn.results.toList = some v ∧ Wk v r)) → a.defers = [] ∧ ∃ v, (results fn a.tmps).run P w' = .ok v w' ∧ ∃ y F', Ending.returned v = .returned y ∧ Ext F w F' w' ∧ Rep F' r y := by
    rintro ⟨F', ρ, st, S, ⟨v, hr, hw⟩ | ⟨v, hr, hw⟩⟩
    · obtain ⟨y, h1, h2⟩ := resS_sound S hr
      exact ⟨S.df, y, h1, y, F', rfl, post_ext S, rep_wk hw h2⟩
    · obtain ⟨F', S⟩ := frzF_sound fn.results.toList S
      obtain ⟨y, h1, h2⟩ := resS_sound S hr
      exact ⟨S.df, y, h1, y, F', rfl, post_ext S, rep_wk hw h2⟩
  cases e with
  | normal => exact aux hq
  | ret => exact aux hq
  | exit id => obtain ⟨F', ρ, st, S, hr⟩ := hq; exact hr.elim
  | goto l => exact hq.elim
  | panic ch => exact hq.elim
  | outgrown => exact hq.elim

theorem denO_of_body {f : FuncId} {fn : Func} {c : Code} {args : List V} {e : TypeId} {r : V} (hm : P.follows .mixedOrders = true) (hE : Enters P f) (hf : P.funcs[f]? = some fn) (hb : fn.body = some c) (n : Nat) (hn : n = max fn.ntmps args.length) 
    (h : aw P T c { n := n, t := args0 0 args, h := [], o := [] } (fpostO P fn.results.toList e r)) (hnn : n ≤ 999999 := by decide) : DenO P T f args e r := by
  refine ⟨hE, fun w F xs hF hT ha => ?_⟩
  refine calls_of_wp hf hb (wp_mono (aw_sound hm c (sim0 hF hT ha n hn hnn) h) ?_)
  intro en a w' hq
  have aux : (∃ F' ρ st, SimS P T (fun g => w.heap.size ≤ g) F w F' ρ st a w' ∧ ((∃ v, resS P st fn.results.toList = some v ∧ Wk v r) ∧ match fn.results.toList with
      | [.tmp t] => vOf (st.σ t) = some (.val (.slice none 0 0)) ∨ ownOf t st.o = some e
      | _ => False)) → a.defers = [] ∧ ∃ v, (results fn a.tmps).run P w' = .ok v w' ∧ ∃ y F', Ending.returned v = .returned y ∧ Ext F w F' w' ∧ Rep F' r y ∧ Own F' w' (fun g => w.heap.size ≤ g) e (P.cellsOf e) y := by
    rintro ⟨F', ρ, st, S, ⟨v, hr, hwk⟩, ho⟩
    obtain ⟨y, h1, h2⟩ := resS_sound S hr
    refine ⟨S.df, y, h1, y, F', rfl, post_ext S, rep_wk hwk h2, ?_⟩
    split at ho
    · rename_i t hl
      have hrl : fn.results = #[.tmp t] := by apply Array.ext'; simpa using hl
      have hy : y = a.eval (.tmp t) := by
        unfold results at h1
        rw [hrl] at h1
        simp at h1
        simp only [Act.eval, Array.getD_eq_getD_getElem?]
        exact h1.symm
      rcases ho with ho | ho
      · have := rep_val_inv (Sim.good S |>.v (x := .tmp t) ho)
        rw [hy, this]
        exact ⟨0, [], World.ownsRow_nil _ _ _ _, fun g hg => by simp [Value.ownBlock] at hg⟩
      · obtain ⟨j, c', hj, hc'⟩ := ownOf_some ho
        obtain ⟨v, e1, e2, _⟩ := S.ow j e c' hj
        have : a.eval (.tmp t) = v := by simp [Act.eval, e1 t hc']
        rw [hy, this]
        exact e2
    · exact ho.elim
  cases en with
  | normal => exact aux hq
  | ret => exact aux hq
  | exit id => obtain ⟨F', ρ, st, S, hr⟩ := hq; exact hr.elim
  | goto l => exact hq.elim
  | panic ch => exact hq.elim
  | outgrown => exact hq.elim

theorem RepB.pre {F : Frz} {w : World} {b : Nat} {cs cs' : List V} (h : RepB F w b (.var (cs ++ cs'))) : RepB F w b (.var cs) := by
  obtain ⟨xs, ty, h1, h2, h3, h4, h5⟩ := h
  refine ⟨xs, ty, h1, ?_, fun c hc => h3 c (List.mem_append_left _ hc), fun j c x e1 e2 => h4 j c x ?_ e2, h5⟩
  · simp at h2; omega
  · rw [List.getElem?_append_left (List.getElem?_eq_some_iff.1 e1).1]; exact e1

theorem denN_of_body {f : FuncId} {fn : Func} {c : Code} {args : List V} {size : Nat} {es : List (List V)} (hm : P.follows .mixedOrders = true) (hE : Enters P f) (hf : P.funcs[f]? = some fn) (hb : fn.body = some c) (n : Nat) (hn : n = max fn.ntmps args.length) 
    (h : aw P T c { n := n, t := args0 0 args, h := [], o := [] } (fpostN fn.results.toList size es)) (hnn : n ≤ 999999 := by decide) : DenN P T f args size es := by
  refine ⟨hE, fun w F xs hF hT ha => ?_⟩
  refine calls_of_wp hf hb (wp_mono (aw_sound hm c (sim0 hF hT ha n hn hnn) h) ?_)
  intro en a w' hq
  have aux : (∃ F' ρ st, SimS P T (fun g => w.heap.size ≤ g) F w F' ρ st a w' ∧ match fn.results.toList with
    | [.tmp t] => (∃ id cs, st.σ t = some (.s id 0 es.length size) ∧ look id st.h = some (.var (es.flatten ++ cs))) ∨ (es = [] ∧ ∃ v, vOf (st.σ t) = some v ∧ Wk v (.slice size []))
    | _ => False) → a.defers = [] ∧ ∃ v, (results fn a.tmps).run P w' = .ok v w' ∧ ∃ y F', Ending.returned v = .returned y ∧ Ext F w F' w' ∧ New F' w' w.heap.size size es y := by
    rintro ⟨F', ρ, st, S, ho⟩
    split at ho
    · rename_i t hl
      have hrl : fn.results = #[.tmp t] := by apply Array.ext'; simpa using hl
      have hy : (results fn a.tmps).run P w' = .ok (a.eval (.tmp t)) w' := by
        unfold results
        rw [hrl]
        simp
        simp only [Act.eval, Array.getD_eq_getD_getElem?]
      refine ⟨S.df, _, hy, _, F', rfl, post_ext S, ?_⟩
      rcases ho with ⟨id, cs, h1, h2⟩ | ⟨rfl, v, h1, h2⟩
      · obtain ⟨cap, q1, q2, q3, hv⟩ := show ∃ cap, es.length ≤ cap ∧ cap ≤ maxLen ∧ 0 < es.length ∧ a.eval (.tmp t) = _ from S.opr (.tmp t) _ h1
        obtain ⟨r1, r2, r3⟩ := S.hp id _ h2
        exact .inr ⟨ρ id, cap, hv, q1, q2, List.length_pos_iff.1 q3, r2, r3, r1.pre⟩
      · exact .inl ⟨rfl, rep_wk h2 (Sim.good S |>.v (x := .tmp t) h1)⟩
    · exact ho.elim
  cases en with
  | normal => exact aux hq
  | ret => exact aux hq
  | exit id => obtain ⟨F', ρ, st, S, hr⟩ := hq; exact hr.elim
  | goto l => exact hq.elim
  | panic ch => exact hq.elim
  | outgrown => exact hq.elim

/-- arguments that may point into the block 0 -/
def argsT : Nat → List TV → List (Nat × TV)
  | _, [] => []
  | k, v :: r => (k, v) :: argsT (k + 1) r
theorem argsT_look : ∀ (l : List TV) (k i : Nat) {tv : TV}, look i (argsT k l) = some tv → k ≤ i ∧ l[i - k]? = some tv
  | [], _, _, _, h => by cases h
  | v :: r, k, i, tv, h => by
    simp only [argsT] at h
    rw [look_cons] at h
    split at h
    · rename_i he; cases h; subst he; exact ⟨Nat.le_refl _, by simp⟩
    · rename_i he
      obtain ⟨h2, h3⟩ := argsT_look r (k + 1) i h
      refine ⟨by omega, ?_⟩
      have : i - k = (i - (k + 1)) + 1 := by omega
      rw [this]; simpa using h3
theorem only_mem {id : Nat} : ∀ {ts : List TV}, only id ts = true → ∀ t ∈ ts, (∃ v, t = .v v) ∨ (∃ off, t = .p id off) ∨ ∃ off n size, t = .s id off n size
  | [], _, t, ht => by cases ht
  | .v y :: r, h, t, ht => by
    rcases List.mem_cons.1 ht with rfl | ht
    · exact .inl ⟨_, rfl⟩
    · exact only_mem (ts := r) h t ht
  | .p i off :: r, h, t, ht => by
    simp only [only, Bool.and_eq_true] at h
    have := Nat.eq_of_beq_eq_true h.1
    rcases List.mem_cons.1 ht with rfl | ht
    · subst this; exact .inr (.inl ⟨_, rfl⟩)
    · exact only_mem (ts := r) h.2 t ht
  | .s i off n size :: r, h, t, ht => by
    simp only [only, Bool.and_eq_true] at h
    have := Nat.eq_of_beq_eq_true h.1
    rcases List.mem_cons.1 ht with rfl | ht
    · subst this; exact .inr (.inr ⟨_, _, _, rfl⟩)
    · exact only_mem (ts := r) h.2 t ht
  | .m _ :: r, h, _, _ => by cases h
  | .u :: r, h, _, _ => by cases h

theorem simM {fn : Func} {cs : List V} {args : List TV} {b : Nat} {xs : List Value} (hF : Sees F w) (hT : Laid T F w) (hB : RepB F w b (.var cs)) (ha : RepsT F b args xs) (ho : only 999999 args = true) (n : Nat) (hn : n = max fn.ntmps args.length) (hnn : n ≤ 999999) :
    SimS P T (fun g => w.heap.size ≤ g ∨ g = b) F w F (fun _ => b) { n := n, t := argsT 0 args, h := [(999999, .var cs)], o := [] } { tmps := xs.toArray ++ Array.replicate (fn.ntmps - xs.toArray.size) undef, defers := [] } w where
  n := by simp [ha.1, hn]; omega
  df := rfl
  sees := hF
  lay := ⟨hT, fun g hg => by
    cases e : T.r g with
    | none => exact absurd e hg
    | some xs =>
      obtain ⟨⟨ty, fz, h1⟩, off, v, h2⟩ := hT.2 g xs e
      have hlt : g < w.heap.size := by
        rcases Nat.lt_or_ge g w.heap.size with h | h
        · exact h
        · rw [Array.getElem?_eq_none h] at h1; cases h1
      obtain ⟨_, _, _, _, _, _, h5⟩ := hB
      have := h5 _ _ h2
      simp only at this
      rintro (h | h)
      · omega
      · exact this h⟩
  le := Le.refl F
  new := fun p v e => .inl e
  newm := fun _ _ e => .inl e
  bel := BelM.refl _ _
  hM := fun _ h => .inl h
  tm := fun i tv e => by
    obtain ⟨h1, h2⟩ := argsT_look args 0 i e
    have hlt := (List.getElem?_eq_some_iff.1 h2).1
    simp only [Nat.sub_zero] at h2 hlt
    have hx : xs[i]? = some (xs[i]'(by rw [ha.1]; exact hlt)) := List.getElem?_eq_getElem _
    refine ⟨xs[i]'(by rw [ha.1]; exact hlt), ?_, ha.2 i tv _ h2 hx⟩
    rw [Array.getElem?_append_left (by simp [ha.1]; exact hlt)]
    simp
  wf := fun i tv e => by
    obtain ⟨h1, h2⟩ := argsT_look args 0 i e
    rcases only_mem ho tv (List.mem_of_getElem? h2) with ⟨v, rfl⟩ | ⟨off, rfl⟩ | ⟨off, n, size, rfl⟩
    · trivial
    · simp [wfT, look_same]
    · simp [wfT, look_same]
  hp := fun id k e => by
    rw [look_cons] at e
    split at e
    · cases e
      obtain ⟨ys, ty, h1, h2⟩ := hB
      refine ⟨⟨ys, ty, h1, h2⟩, .inr rfl, ?_⟩
      rcases Nat.lt_or_ge b w.heap.size with hlt | hge
      · exact hlt
      · rw [Array.getElem?_eq_none hge] at h1; cases h1
    · cases e
  nn := by simp [ha.1]; omega
  z := fun k e => by
    obtain ⟨ys, ty, h1, h2⟩ := hB
    rcases Nat.lt_or_ge b w.heap.size with hlt | hge
    · exact hlt
    · rw [Array.getElem?_eq_none hge] at h1; cases h1
  inj := fun id id' k k' e e' _ => by
    rw [look_cons] at e e'
    split at e
    · split at e'
      · omega
      · cases e'
    · cases e
  ow := fun j e c hj => by simp at hj
  od := fun j j' e c e' c' _ hj => by simp at hj

theorem denM_of_body {f : FuncId} {fn : Func} {c : Code} {cs cs' : List V} {args : List TV} {r : TV} (hm : P.follows .mixedOrders = true) (hE : Enters P f) (hf : P.funcs[f]? = some fn) (hb : fn.body = some c) (n : Nat) (hn : n = max fn.ntmps args.length) (ho : only 999999 args = true)
    (h : aw P T c { n := n, t := argsT 0 args, h := [(999999, .var cs)], o := [] } (fpostM P fn.results.toList cs' r)) (hnn : n ≤ 999999 := by decide) : DenM P T f cs args cs' r := by
  refine ⟨hE, fun w F b xs hF hT hB ha => ?_⟩
  refine calls_of_wp hf hb (wp_mono (aw_sound hm c (simM hF hT hB ha ho n hn hnn) h) ?_)
  intro en a w' hq
  have aux : (∃ F' ρ st, SimS P T (fun g => w.heap.size ≤ g ∨ g = b) F w F' ρ st a w' ∧ ((∃ cs, look 999999 st.h = some (.var (cs' ++ cs))) ∧ ∃ r', resT P st fn.results.toList = some r' ∧ WkT r' r ∧ only 999999 [r] = true)) →
      a.defers = [] ∧ ∃ v, (results fn a.tmps).run P w' = .ok v w' ∧ ∃ y F', Ending.returned v = .returned y ∧ ExtX b F w F' w' ∧ RepB F' w' b (.var cs') ∧ RepT F' (fun _ => b) r y := by
    rintro ⟨F', ρ, st, S, ⟨cs0, h0⟩, r', hr', hwk, hon⟩
    obtain ⟨q1, q2, q3⟩ := S.hp 999999 _ h0
    have hb0 : ρ 999999 = b := by
      have := S.z _ h0
      rcases q2 with q2 | q2
      · omega
      · exact q2
    have hno : ∀ p v, F' p = some v → p.block ≠ b := by
      obtain ⟨_, _, _, _, _, _, h5⟩ := q1
      rw [← hb0]; exact h5
    have hnm : F'.m b = none := by
      obtain ⟨_, _, h1, _⟩ := q1
      rw [← hb0]; exact nomap S.sees h1
    have hext : ExtX b F w F' w' := ⟨S.le, S.sees, fun p v e => (S.new p v e).elim .inl fun h => h.elim .inr fun h => absurd h (hno p v e),
      fun p v e => (S.newm p v e).elim .inl fun h => h.elim .inr fun h => (by rw [h, hnm] at e; cases e), S.bel.os, S.bel.tape, S.bel.output, S.bel.size,
      fun q hq hne => S.bel.block q hq (by rintro (h | h) <;> omega)⟩
    have hrb : RepB F' w' b (.var cs') := by rw [← hb0]; exact q1.pre
    have hres : ∃ v, (results fn a.tmps).run P w' = .ok v w' ∧ RepT F' ρ r' v := by
      unfold resT at hr'
      split at hr'
      · rename_i t hl
        have hrl : fn.results = #[.tmp t] := by apply Array.ext'; simpa using hl
        refine ⟨a.eval (.tmp t), ?_, S.opr (.tmp t) _ (nu_some hr')⟩
        unfold results
        rw [hrl]
        simp
        simp only [Act.eval, Array.getD_eq_getD_getElem?]
      · simp only [Option.map_eq_some_iff] at hr'
        obtain ⟨v, hv, rfl⟩ := hr'
        exact resS_sound S hv
    obtain ⟨v, h1, h2⟩ := hres
    refine ⟨S.df, v, h1, v, F', rfl, hext, hrb, ?_⟩
    have h3 : RepT F' ρ r v := by
      cases hwk with
      | refl => exact h2
      | v hw => exact rep_wk hw h2
    rcases only_mem hon r (by simp) with ⟨x, rfl⟩ | ⟨off, rfl⟩ | ⟨off, m, size, rfl⟩
    · exact h3
    · simp only [RepT] at h3 ⊢; rw [← hb0]; exact h3
    · simp only [RepT] at h3 ⊢; rw [← hb0]; exact h3
  cases en with
  | normal => exact aux hq
  | ret => exact aux hq
  | exit id => obtain ⟨F', ρ, st, S, hr⟩ := hq; exact hr.elim
  | goto l => exact hq.elim
  | panic ch => exact hq.elim
  | outgrown => exact hq.elim

/-- a row that nobody looks at any more but to read -/
theorem New.rep {F : Frz} {w : World} {lo size : Nat} {es : List (List V)} {y : Value} (h : New F w lo size es y) (hs : ∀ e ∈ es, e.length = size) (hF : Sees F w) :
    ∃ F', Le F F' ∧ Sees F' w ∧ (∀ p v, F' p = some v → F p = some v ∨ lo ≤ p.block) ∧ F'.m = F.m ∧ Rep F' (.slice size es) y := by
  rcases h with ⟨rfl, h⟩ | ⟨b, cap, rfl, h1, h2, h3, h4, h5, xs, ty, q1, q2, q3, q4, q5⟩
  · exact ⟨F, Le.refl F, hF, fun _ _ h => .inl h, rfl, h⟩
  · have hle : Le F ⟨fun p => if p.block = b then w.cell? p else F p, F.m⟩ := ⟨fun p v e => by
      show (if p.block = b then w.cell? p else F p) = some v
      rw [if_neg (q5 p v e)]; exact e, fun _ _ e => e⟩
    refine ⟨⟨fun p => if p.block = b then w.cell? p else F p, F.m⟩, hle, ⟨fun p v e => ?_, hF.m⟩, fun p v e => ?_, rfl, ?_⟩
    · replace e : (if p.block = b then w.cell? p else F p) = some v := e
      split at e
      · exact e
      · exact hF p v e
    · replace e : (if p.block = b then w.cell? p else F p) = some v := e
      split at e
      · rename_i hb; exact .inr (hb ▸ h4)
      · exact .inl e
    · have hfl : ∀ (l : List (List V)), (∀ e ∈ l, e.length = size) → ∀ (i j : Nat) e c, l[i]? = some e → e[j]? = some c → l.flatten[i * size + j]? = some c := by
        intro l
        induction l with
        | nil => intro _ i j e c e1; simp at e1
        | cons x r ih =>
          intro hl i j e c e1 e2
          have hx := hl x (by simp)
          cases i with
          | zero =>
            simp at e1; subst e1
            have := (List.getElem?_eq_some_iff.1 e2).1
            simp only [List.flatten_cons, Nat.zero_mul, Nat.zero_add]
            rw [List.getElem?_append_left this]; exact e2
          | succ i =>
            simp only [List.flatten_cons]
            rw [Nat.add_mul, List.getElem?_append_right (by omega)]
            have := ih (fun e he => hl e (List.mem_cons_of_mem _ he)) i j e c (by simpa using e1) e2
            rw [← this]; congr 1; omega
      have hcell : ∀ q, w.cell? ⟨b, q, none⟩ = xs[q]? := fun q => by simp [World.cell?, q1]
      have hin : ∀ (i j : Nat) e c, es[i]? = some e → e[j]? = some c → i * size + j < xs.size := fun i j e c e1 e2 => by
        have := (List.getElem?_eq_some_iff.1 (hfl es hs i j e c e1 e2)).1
        omega
      refine .slice (fun i j => xs.getD (i * size + j) undef) h1 h2 hs (fun e he c hc => q3 c (List.mem_flatten.2 ⟨e, he, hc⟩)) (fun i j e c e1 e2 => ?_) (fun i j e c e1 e2 => ?_)
      · rw [add_plain, Nat.zero_add]
        show (if (⟨b, i * size + j, none⟩ : Addr).block = b then w.cell? ⟨b, i * size + j, none⟩ else _) = _
        rw [if_pos rfl, hcell]
        simp [hin i j e c e1 e2]
      · refine (q4 _ c _ (hfl es hs i j e c e1 e2) ?_).mono hle
        simp [hin i j e c e1 e2]
theorem DenN.den {f : FuncId} {args : List V} {size : Nat} {es : List (List V)} (h : DenN P T f args size es) (hs : ∀ e ∈ es, e.length = size) : Den P T f args (.slice size es) := by
  refine ⟨h.1, fun w F xs h1 h0 h2 => (h.2 w F xs h1 h0 h2).mono fun _ w' ⟨y, F', e1, e2, e3⟩ => ?_⟩
  obtain ⟨F'', g1, g2, g3, g5, g4⟩ := e3.rep hs e2.fr
  exact ⟨y, F'', e1, ⟨e2.le.trans g1, g2, fun p v e => (g3 p v e).elim (e2.new p v) .inr, fun p v e => e2.newm p v (by rw [← g5]; exact e), e2.bel⟩, g4⟩

theorem flatten_len {size : Nat} : ∀ {es : List (List V)}, (∀ e ∈ es, e.length = size) → es.flatten.length = es.length * size
  | [], _ => by simp
  | x :: r, hs => by
    simp only [List.flatten_cons, List.length_append, List.length_cons, Nat.add_mul]
    rw [flatten_len (es := r) (fun e he => hs e (List.mem_cons_of_mem _ he)), hs x (by simp)]
    omega
/-- what stands for itself in whatever memory -/
def V.flat : V → Bool
  | .val _ => true
  | .str _ => true
  | _ => false
theorem Rep.flat {F F' : Frz} {v : V} {x : Value} (h : Rep F v x) (hf : v.flat = true) : Rep F' v x := by
  cases h <;> first | exact .val _ | exact .str _ | (simp [V.flat] at hf)
theorem DenO.new {f : FuncId} {args : List V} {e : TypeId} {size : Nat} {es : List (List V)} (h : DenO P T f args e (.slice size es)) (hz : P.cellsOf e = size) (hp : 0 < size) (hf : ∀ e ∈ es, ∀ c ∈ e, c.flat = true) : DenN P T f args size es := by
  refine ⟨h.1, fun w F xs h1 h0 h2 => (h.2 w F xs h1 h0 h2).mono fun _ w' ⟨y, F', e1, e2, e3, n, ys, e4, e5⟩ => ?_⟩
  by_cases hes : es = []
  · subst hes; exact ⟨y, F', e1, e2, .inl ⟨rfl, e3⟩⟩
  · rcases rep_slice_inv e3 with ⟨rfl, h0⟩ | ⟨a, cap, g, rfl, hc, hm, hs, ho, hg, hr⟩
    · exact absurd h0 hes
    · rcases e4.2 with ⟨q1, q2⟩ | ⟨b, cap', cur, q1, q2, q3, q4, q5, q6, q7⟩
      · cases q1
      · simp only [Value.slice.injEq, Option.some.injEq] at q1
        obtain ⟨rfl, rfl, rfl⟩ := q1
        obtain ⟨hlo, hoff⟩ := e5 b rfl
        have hnb : ∀ p v, F p = some v → p.block ≠ b := fun p v e he => by
          have := cell_lt (h1 p v e); omega
        have hbw : b < w'.heap.size := by
          rcases Nat.lt_or_ge b w'.heap.size with hlt | hge
          · exact hlt
          · rw [Array.getElem?_eq_none hge] at q3; cases q3
        let F2 : Frz := ⟨fun p => if p.block = b then none else F' p, F'.m⟩
        have hle2 : Le F F2 := ⟨fun p v e => by simp only [F2]; rw [if_neg (hnb p v e)]; exact e2.le p v e, e2.le.m⟩
        refine ⟨_, F2, e1, ⟨hle2, ⟨fun p v e => ?_, e2.fr.m⟩, fun p v e => ?_, e2.newm, e2.bel⟩, .inr ⟨b, cap, rfl, hc, hm, hes, hlo, hbw, cur, e, q3, ?_, fun c hc' => ?_, ?_, fun p v e => ?_⟩⟩
        · simp only [F2] at e
          split at e
          · cases e
          · exact e2.fr p v e
        · simp only [F2] at e
          split at e
          · cases e
          · exact e2.new p v e
        · have : es.flatten.length = es.length * size := flatten_len hs
          rw [this, q6, hz]
          exact Nat.mul_le_mul_right _ hc
        · obtain ⟨e', he', hce⟩ := List.mem_flatten.1 hc'
          exact ho e' he' c hce
        · intro j c x e1' e2'
          have hfl : ∀ (l : List (List V)), (∀ e ∈ l, e.length = size) → ∀ (j : Nat) c, l.flatten[j]? = some c → ∃ e, l[j / size]? = some e ∧ e[j % size]? = some c := by
            intro l
            induction l with
            | nil => intro _ j c h; simp at h
            | cons y r ih =>
              intro hl j c h
              have hy := hl y (by simp)
              simp only [List.flatten_cons] at h
              by_cases hj : j < size
              · rw [List.getElem?_append_left (by omega)] at h
                exact ⟨y, by rw [Nat.div_eq_of_lt hj]; rfl, by rw [Nat.mod_eq_of_lt hj]; exact h⟩
              · rw [List.getElem?_append_right (by omega), hy] at h
                obtain ⟨e, g1, g2⟩ := ih (fun e he => hl e (List.mem_cons_of_mem _ he)) _ c h
                refine ⟨e, ?_, ?_⟩
                · have : j / size = (j - size) / size + 1 := by rw [Nat.div_eq_sub_div hp (by omega)]
                  rw [this]; simpa using g1
                · rw [Nat.mod_eq_sub_mod (by omega)]; exact g2
          obtain ⟨e', g1, g2⟩ := hfl es hs j c e1'
          have hF := hg (j / size) (j % size) e' c g1 g2
          rw [add_plain, Nat.zero_add, Nat.mul_comm, Nat.div_add_mod] at hF
          have hcell := e2.fr _ _ hF
          have : w'.cell? ⟨b, j, none⟩ = cur[j]? := by simp [World.cell?, q3]
          rw [this, e2'] at hcell
          have hx := Option.some.inj hcell
          rw [hx]
          exact (hr _ _ e' c g1 g2).flat (hf e' (List.mem_of_getElem? g1) c (List.mem_of_getElem? g2))
        · intro hb
          simp only [F2] at e
          rw [if_pos hb] at e; cases e
end Go.Ab
