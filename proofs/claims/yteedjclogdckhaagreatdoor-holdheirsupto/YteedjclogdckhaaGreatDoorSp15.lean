/-
  Chains and heirs: whoever is in the chain of an office is among those that it reaches. No program in sight.
-/
import Derived.Test.YteedjclogdckhaaGreatDoorSp14
namespace Go.Arc
open Go.Ab

theorem look_id {l : List Ofc} {n : Int} {o : Ofc} (h : lookO l n = some o) : o.id = n := by
  have := List.find?_some h
  simpa [isId] using this
/-- what all of a chain have, if it goes over to successors -/
theorem chainF_all {l : List Ofc} {d : Int} {S : Int → Prop} (hS : ∀ x, S x → ∀ m ∈ nxtO l x, S m) : ∀ (m : Nat) (o : Ofc), lookO l o.id = some o → S o.id → ∀ x ∈ chainF l d m o, S x
  | 0, o, _, h, x, hx => by
    simp only [chainF, List.mem_singleton] at hx
    subst hx; exact h
  | m + 1, o, ho, h, x, hx => by
    unfold chainF at hx
    cases hq : nextO l d o with
    | none =>
      rw [hq] at hx
      simp only [List.mem_singleton] at hx
      subst hx; exact h
    | some q =>
      rw [hq] at hx
      rcases List.mem_cons.1 hx with rfl | hx
      · exact h
      · have hnx : ∃ y r, o.nxt = y :: r ∧ lookO l y = some q := by
          unfold nextO at hq
          split at hq
          · cases hq
          · split at hq
            · cases hq
            · rename_i y r e
              exact ⟨y, r, e, hq⟩
        obtain ⟨y, r, e1, e2⟩ := hnx
        have hy := look_id e2
        refine chainF_all hS m q (by rw [hy]; exact e2) ?_ x hx
        rw [hy]
        refine hS _ h y ?_
        unfold nxtO
        rw [ho]
        show y ∈ o.nxt
        rw [e1]
        exact List.mem_cons_self
theorem chainF_head (l : List Ofc) (d : Int) (m : Nat) (o : Ofc) : ∃ r, chainF l d m o = o.id :: r := by
  cases m with
  | zero => exact ⟨[], rfl⟩
  | succ m =>
    unfold chainF
    split
    · exact ⟨_, rfl⟩
    · exact ⟨_, rfl⟩
theorem chain_all {l : List Ofc} {n d : Int} {S : Int → Prop} (hS : ∀ x, S x → ∀ m ∈ nxtO l x, S m) (hn : S n) : ∀ x ∈ chain l n d, S x := by
  intro x hx
  unfold chain at hx
  split at hx
  · cases hx
  · split at hx
    · cases hx
    · rename_i o ho
      have hi := look_id ho
      exact chainF_all hS _ o (by rw [hi]; exact ho) (by rw [hi]; exact hn) x hx
theorem chain_known {l : List Ofc} (hg : goodO l = true) {n d : Int} (hn : (lookO l n).isSome = true) : ∀ x ∈ chain l n d, (lookO l x).isSome = true := by
  refine chain_all (S := fun x => (lookO l x).isSome = true) (fun x hx m hm => ?_) hn
  obtain ⟨o, ho⟩ := Option.isSome_iff_exists.1 hx
  obtain ⟨-, -, -, h4⟩ := goodO_look hg ho
  unfold nxtO at hm
  rw [ho] at hm
  obtain ⟨q, hq, -⟩ := h4 m hm
  rw [hq]; rfl
theorem chain_own {l : List Ofc} (hg : goodO l = true) {n d : Int} (hn : (lookO l n).isSome = true) : n ∈ chain l n d := by
  obtain ⟨o, ho⟩ := Option.isSome_iff_exists.1 hn
  rw [chain_some hg ho]
  obtain ⟨r, hr⟩ := chainF_head l d 1048577 o
  rw [hr, look_id ho]
  simp
theorem chain_ne {l : List Ofc} (hg : goodO l = true) {n d : Int} (hn : (lookO l n).isSome = true) : chain l n d ≠ [] := fun h => by
  have := chain_own (d := d) hg hn
  rw [h] at this
  cases this
theorem deepO_top {l : List Ofc} (hg : goodO l = true) {n : Int} {o : Ofc} (ho : lookO l n = some o) : deepO l 1048577 n := ⟨o, ho, by have := (goodO_look hg ho).1; omega⟩
theorem chain_reach {l : List Ofc} (hg : goodO l = true) {n d : Int} : ∀ x ∈ chain l n d, x ∈ reach l n := by
  intro x hx
  cases ho : lookO l n with
  | none => rw [chain_none ho] at hx; cases hx
  | some o =>
    unfold reach
    rw [if_neg (by simp [hg]), ho]
    refine (List.mergeSort_perm _ _).mem_iff.2 ?_
    have hd := deepO_top hg ho
    refine chain_all (S := fun x => x ∈ vis l 1048577 [] n) (fun y hy m hm => vis_closed hg _ _ _ hd (okR_nil l) y hy (by simp) m hm) (vis_ok hg _ _ _ hd (okR_nil l)).2.2 x hx
theorem reach_bad {l : List Ofc} {n : Int} (h : goodO l = false) : reach l n = [] := by unfold reach; rw [if_pos h]
theorem reach_none {l : List Ofc} {n : Int} (h : lookO l n = none) : reach l n = [] := by
  unfold reach
  split
  · rfl
  · rw [h]
theorem reach_some {l : List Ofc} {n : Int} {o : Ofc} (h : goodO l = true) (ho : lookO l n = some o) : reach l n = (vis l 1048577 [] n).mergeSort fun x y => decide (x ≤ y) := by
  unfold reach; rw [if_neg (by simp [h]), ho]
theorem reach_len (l : List Ofc) (n : Int) : (reach l n).length ≤ 32 := by
  cases hg : goodO l
  · rw [reach_bad hg]; simp
  · cases ho : lookO l n with
    | none => rw [reach_none ho]; simp
    | some o =>
      rw [reach_some hg ho, List.length_mergeSort]
      have := okR_len (vis_ok hg _ _ _ (deepO_top hg ho) (okR_nil l)).1
      have := (goodO_all hg).1
      omega

/-- who has the duties of an office on a day -/
def heirO (l : List Ofc) (n d : Int) : Option Int := match (chain l n d).getLast? with
  | none => none
  | some x => match lookO l x with
    | none => none
    | some o => if inS o.frm o.til d = true then some x else none
theorem heir_chain {l : List Ofc} {n d x : Int} (h : heirO l n d = some x) : x ∈ chain l n d := by
  unfold heirO at h
  split at h
  · cases h
  · rename_i y hy
    split at h
    · cases h
    · split at h
      · cases h
        exact List.mem_of_getLast? hy
      · cases h
theorem chain_good {l : List Ofc} {n d : Int} (h : chain l n d ≠ []) : goodO l = true ∧ (lookO l n).isSome = true := by
  cases hg : goodO l
  · exact absurd (chain_bad hg) h
  · cases hs : lookO l n with
    | none => exact absurd (chain_none hs) h
    | some o => exact ⟨rfl, rfl⟩
theorem heir_nil {l : List Ofc} {n d : Int} (h : chain l n d = []) : heirO l n d = none := by unfold heirO; rw [h]; rfl
theorem heir_cons {l : List Ofc} {n d x : Int} {o : Ofc} (hx : (chain l n d)[(chain l n d).length - 1]? = some x) (ho : lookO l x = some o) : heirO l n d = if inS o.frm o.til d = true then some x else none := by
  unfold heirO
  rw [List.getLast?_eq_getElem?, hx]
  simp only [ho]
end Go.Arc
