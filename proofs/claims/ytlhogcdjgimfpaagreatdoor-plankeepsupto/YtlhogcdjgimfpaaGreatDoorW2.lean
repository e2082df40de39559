/-
  Contracts of functions of the program, each by a walk through its code, for all arguments within the bounds that the statements name.
-/
import Derived.Test.YtlhogcdjgimfpaaGreatDoorW1
namespace Go.Arc
open Go.Ab Go.RowKit Go.Proofs
variable {T : Lay}

theorem den_ixStr (l : List Str) (f : FuncId) (cap : List V) (p : Str → Bool) (hl : l.length ≤ 1048576) (hp : ∀ e ∈ l, Den Tryz.prog T f (.str e :: cap) (vb (p e))) :
   Den Tryz.prog T 67 [strs l, .func f cap] (vi (ix p l)) := by
  refine den_of_body follows (fun args w => Tryz.call67 args w) Tryz.func67 rfl 19 rfl ?_
  refine run ?_
  refine loop ⟨[0, 1, 7, 8], [], [], []⟩ (fun k : Nat => k ≤ l.length ∧ ∀ e ∈ l.take k, p e = false) (fun k => l.length - k)
    (fun k => ⟨19, [(0, .v (strs l)), (1, .v (.func f cap)), (7, .v (vi l.length)), (8, .v (vi k))], [], []⟩) 0 ⟨by omega, by simp⟩ ?_
  rintro k ⟨hk, hall⟩
  by_cases hlt : k < l.length
  · obtain ⟨x, hx, -, hm⟩ := drop_at hlt
    refine runW hx ?_
    refine call (hp x hm) ?_
    cases hpc : p x
    · refine run ?_
      exact round (k + 1) ⟨by omega, take_snoc hall hx hpc⟩ (by omega)
    · refine run ?_
      exact fin (vi_eq (ix_at hall hx hpc))
  · refine run ?_
    exact fin (vi_eq (ix_none hall hlt))

/-- the same on a local row: nothing is written -/
theorem denM_ixStr (l : List Str) (f : FuncId) (cap : List V) (p : Str → Bool) (hl : l.length ≤ 1048576) (hp : ∀ e ∈ l, Den Tryz.prog T f (.str e :: cap) (vb (p e))) :
   DenM Tryz.prog T 67 (l.map .str) [.s 999999 0 l.length 1, .v (.func f cap)] (l.map .str) (.v (vi (ix p l))) := by
  refine denM_of_body follows (fun args w => Tryz.call67 args w) Tryz.func67 rfl 19 rfl rfl ?_
  refine run ?_
  refine loop ⟨[0, 1, 7, 8], [999999], [], []⟩ (fun k : Nat => k ≤ l.length ∧ ∀ e ∈ l.take k, p e = false) (fun k => l.length - k)
    (fun k => ⟨19, [(0, .s 999999 0 l.length 1), (1, .v (.func f cap)), (7, .v (vi l.length)), (8, .v (vi k))], [(999999, .var (l.map .str))], []⟩) 0 ⟨by omega, by simp⟩ ?_
  rintro k ⟨hk, hall⟩
  by_cases hlt : k < l.length
  · obtain ⟨x, hx, hd, hm⟩ := drop_at hlt
    have hd' : (l.map V.str).drop k = .str x :: (l.drop (k + 1)).map .str := by rw [← List.map_drop, hd]; rfl
    refine runW hd' ?_
    refine call (hp x hm) ?_
    cases hpc : p x
    · refine run ?_
      exact round (k + 1) ⟨by omega, take_snoc hall hx hpc⟩ (by omega)
    · refine run ?_
      exact finM0 (.v (.of (vi_eq (ix_at hall hx hpc))))
  · refine run ?_
    exact finM0 (.v (.of (vi_eq (ix_none hall hlt))))
theorem filter_take {α : Type} {l : List α} {q : α → Bool} {j : Nat} {x : α} (hx : l[j]? = some x) : (l.take (j + 1)).filter q = if q x = true then (l.take j).filter q ++ [x] else (l.take j).filter q := by
  obtain ⟨hlt, rfl⟩ := List.getElem?_eq_some_iff.1 hx
  rw [List.take_succ_eq_append_getElem hlt, List.filter_append]
  cases h : q l[j] <;> simp [h]
theorem filter_take_le {α : Type} (l : List α) (q : α → Bool) (j : Nat) : ((l.take j).filter q).length ≤ j := Nat.le_trans (List.length_filter_le _ _) (by simp; omega)

theorem denM_delStr (l : List Str) (f : FuncId) (cap : List V) (p : Str → Bool) (hl : l.length ≤ 1048576) (h0 : l ≠ []) (hp : ∀ e ∈ l, Den Tryz.prog T f (.str e :: cap) (vb (p e))) :
   DenM Tryz.prog T 45 (l.map .str) [.s 999999 0 l.length 1, .v (.func f cap)] ((l.filter fun e => !p e).map .str)
     (if l.filter (fun e => !p e) = [] then .v (.slice 1 []) else .s 999999 0 (l.filter fun e => !p e).length 1) := by
  have hlen : 0 < l.length := List.length_pos_iff.2 h0
  refine denM_of_body follows (fun args w => Tryz.call45 args w) Tryz.func45 rfl 42 rfl rfl ?_
  refine run ?_
  refine callM 999999 (denM_ixStr l f cap p hl hp) ?_
  rcases hix : l.findIdx? p with _ | i
  · have hi : ix p l = -1 := by simp [ix, hix]
    have hf : l.filter (fun e => !p e) = l := by
      rw [List.filter_eq_self]
      intro e he
      simp [List.findIdx?_eq_none_iff.1 hix e he]
    rw [hi, hf, if_neg h0]
    refine run ?_
    exact finM0 (.refl _)
  · obtain ⟨hlt, hpi, hbef⟩ := List.findIdx?_eq_some_iff_getElem.1 hix
    have hi : ix p l = i := by simp [ix, hix]
    rw [hi]
    refine run ?_
    have hfi : ((l.take (i + 1)).filter fun e => !p e) = l.take i := by
      rw [filter_take (List.getElem?_eq_getElem hlt), if_neg (by simp [hpi]), List.filter_eq_self]
      intro e he
      obtain ⟨j, hj, rfl⟩ := List.mem_iff_getElem.1 he
      simp only [List.length_take] at hj
      simp [hbef j (by omega)]
    have hkl : ((l.take (i + 1)).filter fun e => !p e).length = i := by rw [hfi]; simp; omega
    refine loop ⟨[0, 1, 5, 6], [999999], [], []⟩ (fun y : Nat × List V => i + 1 ≤ y.1 ∧ y.1 ≤ l.length ∧ y.2.length = l.length ∧ ((l.take y.1).filter fun e => !p e).length < y.1 ∧
        y.2.take ((l.take y.1).filter fun e => !p e).length = ((l.take y.1).filter fun e => !p e).map .str ∧ y.2.drop y.1 = (l.drop y.1).map .str) (fun y => l.length - y.1)
      (fun y => ⟨42, [(0, .s 999999 0 l.length 1), (1, .v (.func f cap)), (5, .v (vi ((l.take y.1).filter fun e => !p e).length)), (6, .v (vi y.1))], [(999999, .var y.2)], []⟩) (i + 1, l.map .str) ?_ ?_ ?_
    · refine ⟨by simp, by simp; omega, by simp, ?_, ?_, by simp⟩
      · simp only; rw [hfi]; simp; omega
      · simp only; rw [hfi]; simp [Nat.min_eq_left (Nat.le_of_lt hlt)]
    · rintro ⟨j, cs⟩ ⟨h1, h2, h3, h4, h5, h6⟩
      simp only at h1 h2 h3 h4 h5 h6
      by_cases hj : j < l.length
      · obtain ⟨x, hx, hd, hm⟩ := drop_at hj
        have hd' : cs.drop j = .str x :: (l.drop (j + 1)).map .str := by rw [h6, hd]; rfl
        refine runW hd' ?_
        refine call (hp x hm) ?_
        have hdn : cs.drop (j + 1) = (l.drop (j + 1)).map .str := by
          have := congrArg List.tail hd'
          simpa using this
        cases hpc : p x
        · have hf := filter_take (q := fun e => !p e) hx
          simp only [hpc, Bool.not_false, if_true] at hf
          refine run ?_
          have hl1 : (cs.take ((l.take j).filter fun e => !p e).length).length = ((l.take j).filter fun e => !p e).length := by rw [List.length_take]; omega
          refine round (j + 1, cs.take ((l.take j).filter fun e => !p e).length ++ [.str x] ++ cs.drop (((l.take j).filter fun e => !p e).length + 1)) ⟨by simp only; omega, by simp only; omega, ?_, ?_, ?_, ?_⟩ (by simp only; omega) ?_
          · simp only [List.length_append, hl1, List.length_drop, List.length_cons, List.length_nil]; omega
          · simp only; rw [hf]; simp only [List.length_append, List.length_cons, List.length_nil]; omega
          · simp only; rw [hf]
            rw [List.take_append_of_le_length (by simp only [List.length_append, hl1, List.length_cons, List.length_nil]; omega), List.take_of_length_le (by simp only [List.length_append, hl1, List.length_cons, List.length_nil]; omega), h5]
            simp
          · simp only
            rw [List.drop_append, List.drop_eq_nil_of_le (by simp only [List.length_append, hl1, List.length_cons, List.length_nil]; omega), List.nil_append, List.drop_drop, ← hdn]
            congr 1
            simp only [List.length_append, hl1, List.length_cons, List.length_nil]; omega
          · simp only [hf, List.length_append, List.length_cons, List.length_nil]; rfl
        · have hf := filter_take (q := fun e => !p e) hx
          simp only [hpc, Bool.not_true, Bool.false_eq_true, if_false] at hf
          refine run ?_
          refine round (j + 1, cs) ⟨by omega, by omega, h3, ?_, ?_, hdn⟩ (by simp only; omega) ?_
          · simp only; rw [hf]; omega
          · simp only; rw [hf]; exact h5
          · simp only [hf]; rfl
      · have hj' : j = l.length := by omega
        subst hj'
        simp only [List.take_length] at h4 h5
        have htl : l.take l.length = l := List.take_length
        refine runW htl ?_
        by_cases hz : l.filter (fun e => !p e) = []
        · rw [if_pos hz]
          have hz' : (l.filter (fun e => !p e)).length = 0 := by rw [hz]; rfl
          refine runW hz' ?_
          rw [hz]
          exact finM0 (.refl _)
        · rw [if_neg hz]
          have hz' : 0 < (l.filter (fun e => !p e)).length := List.length_pos_iff.2 hz
          refine runW h5 ?_
          exact finM0 (.refl _)
    · simp only [hkl]; rfl
end Go.Arc
