/-
  Contracts of functions of the program, each by a walk through its code, for all arguments within the bounds that the statements name.
-/
import Derived.Test.YtbofgklhjjfbkaaGreatDoorW21
namespace Go.Arc
open Go.Ab Go.RowKit Go.Proofs
variable {T : Lay}

theorem den_FileMoves (L : LibC T) (l : List Plan) (f : Fil) (d m : Int) (hl : Fits l) (hf : f.Fit) (hm : 0 ≤ m ∧ m < 256) : Den Tryz.prog T 6 [plans l, .agg f.cs, vi d, .val (.int .u8 m)] (vb true) := by
  have hl0 := hl.1
  refine den_of_body follows (fun args w => Tryz.call6 args w) Tryz.func6 rfl 133 rfl ?_
  refine run ?_
  refine call (den_awake8 L) ?_
  refine run ?_
  refine call (den_Few l hl) ?_
  cases few l
  · refine run ?_
    exact fin rfl
  refine run ?_
  refine call (den_FewF [f] (fit1 hf)) ?_
  cases fewF [f]
  · refine run ?_
    exact fin rfl
  by_cases g1 : d < 0
  · refine run ?_
    exact fin rfl
  by_cases g2 : 1048575 < d
  · refine run ?_
    exact fin rfl
  refine run ?_
  refine call (den_Class L l f d hl hf) ?_
  cases hg : goodL l
  · rw [classV, classR_1 hg]
    refine run ?_
    exact fin rfl
  by_cases h0 : idx l f.opn < 0 ∨ idx l d < idx l f.opn
  · rw [classV, classR_24 hg h0]
    refine run ?_
    exact fin rfl
  cases hh : has (pl l (idx l f.opn).toNat) f.cls
  · rw [classV, classR_n hg hh]
    refine run ?_
    exact fin rfl
  rw [classV, classR_0 hg h0 hh]
  obtain ⟨k, hk, hkl⟩ := idx_some (l := l) (d := f.opn) (by omega)
  obtain ⟨i, hi, hil⟩ := idx_some (l := l) (d := d) (by omega)
  rw [hk, hi] at h0
  rw [hk, Int.toNat_natCast] at hh
  have v1 : versErr l ((k : Int) + 1) ((i : Int) + 1) = 0 := versErr_0 hg (by omega)
  have hki : has (pl l ((k : Int) + 1 - 1).toNat) f.cls = true := by rw [show ((k : Int) + 1 - 1).toNat = k by omega]; exact hh
  have hha := walkI_has v1 hki
  rw [show ((i : Int) + 1 - 1).toNat = i by omega] at hha
  have hal : (walkI l ((k : Int) + 1) ((i : Int) + 1) f.cls).length ≤ 1048576 := walkN_len hl _ _ _ hf.1
  have hself : k = i → walkI l ((k : Int) + 1) ((i : Int) + 1) f.cls = f.cls := fun e => by
    subst e; unfold walkI; rw [show ((k : Int) + 1 - (k + 1)).toNat = 0 by omega]; rfl
  have hthr : ∀ j : Nat, i ≤ j → j < l.length → walkI l ((i : Int) + 1) ((j : Int) + 1) (walkI l ((k : Int) + 1) ((i : Int) + 1) f.cls) = walkI l ((k : Int) + 1) ((j : Int) + 1) f.cls := fun j h1 h2 =>
    walkI_through v1 (versErr_0 hg (by omega))
  have hha' : has (pl l ((i : Int) + 1 - 1).toNat) (walkI l ((k : Int) + 1) ((i : Int) + 1) f.cls) = true := by rw [show ((i : Int) + 1 - 1).toNat = i by omega]; exact hha
  rw [hk, hi]
  generalize hA : walkI l ((k : Int) + 1) ((i : Int) + 1) f.cls = A at hha hal hself hthr hha'
  obtain ⟨p, hp, -, hm'⟩ := drop_at hil
  rw [pl_at hp] at hha
  refine run ?_
  refine call (den_AtL L l d hl) ?_
  refine run ?_
  refine call (den_AtL L l f.opn hl) ?_
  rw [atL_good hg, atL_good hg, hk, hi]
  refine runW hp ?_
  refine call (den_Has p A (hl.2 p hm').1) ?_
  rw [hha]
  have hcls : Den Tryz.prog T 20 [plans l, .agg f.cs, vi (d + m)] (classV l f (d + m)) := den_Class L l f (d + m) hl hf
  have hat : Den Tryz.prog T 22 [plans l, vi (d + m)] (vi (idx l (d + m))) := by rw [← atL_good hg]; exact den_AtL L l (d + m) hl
  have tail : (k = i → (A == f.cls) = true) := fun e => by rw [hself e]; simp
  have key : (idx l (d + m) < 0 ∧ classV l f (d + m) = .tup [.str [], vi 24] ∧ idx l (d + m) = -1) ∨ ∃ j : Nat, idx l (d + m) = j ∧ i ≤ j ∧ j < l.length ∧ classV l f (d + m) = .tup [.str (walkI l ((k : Int) + 1) ((j : Int) + 1) f.cls), vi 0] := by
    rcases idx_cases l (d + m) with ⟨e, -⟩ | ⟨j, e, hj, hin⟩
    · refine .inl ⟨by omega, ?_, e⟩
      rw [classV, classR_24 hg (by omega)]
    · rcases idx_cases l d with ⟨e', -⟩ | ⟨i', e', hi', hin'⟩
      · omega
      · have hii : i' = i := by omega
        subst hii
        have hij := idx_mono hg (show d ≤ d + m by omega) hi' hj hin' hin
        refine .inr ⟨j, e, hij, hj, ?_⟩
        rw [classV, classR_0 hg (by omega) (by rw [hk, Int.toNat_natCast]; exact hh), hk, e]
  by_cases hki' : k = i
  · have ht := tail hki'
    have hki2 : (i : Int) = k := by omega
    rcases key with ⟨j1, j2, j3⟩ | ⟨j, j1, j2, j3, j4⟩
    · refine runW ht ?_
      refine call hcls ?_
      rw [j2]
      refine run ?_
      refine call hat ?_
      rw [j3]
      refine run ?_
      exact fin rfl
    · refine runW ht ?_
      refine call hcls ?_
      rw [j4]
      refine run ?_
      refine call hat ?_
      rw [j1]
      have hfl : followV l ((i : Int) + 1) ((j : Int) + 1) A = .tup [.str (walkI l ((k : Int) + 1) ((j : Int) + 1) f.cls), vi 0] := by
        have v2 : versErr l ((i : Int) + 1) ((j : Int) + 1) = 0 := versErr_0 hg (by omega)
        simp only [followV, followR_0 v2 hha', hthr j j2 j3]
      refine run ?_
      refine call (den_FollowL L l ((i : Int) + 1) ((j : Int) + 1) A hl hal) ?_
      rw [hfl]
      refine run ?_
      exact fin rfl
  · rcases key with ⟨j1, j2, j3⟩ | ⟨j, j1, j2, j3, j4⟩
    · refine run ?_
      refine call hcls ?_
      rw [j2]
      refine run ?_
      refine call hat ?_
      rw [j3]
      refine run ?_
      exact fin rfl
    · refine run ?_
      refine call hcls ?_
      rw [j4]
      refine run ?_
      refine call hat ?_
      rw [j1]
      have hfl : followV l ((i : Int) + 1) ((j : Int) + 1) A = .tup [.str (walkI l ((k : Int) + 1) ((j : Int) + 1) f.cls), vi 0] := by
        have v2 : versErr l ((i : Int) + 1) ((j : Int) + 1) = 0 := versErr_0 hg (by omega)
        simp only [followV, followR_0 v2 hha', hthr j j2 j3]
      refine run ?_
      refine call (den_FollowL L l ((i : Int) + 1) ((j : Int) + 1) A hl hal) ?_
      rw [hfl]
      refine run ?_
      exact fin rfl
end Go.Arc
