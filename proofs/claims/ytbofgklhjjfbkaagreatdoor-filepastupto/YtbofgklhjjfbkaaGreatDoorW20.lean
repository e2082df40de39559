/-
  Contracts of functions of the program, each by a walk through its code, for all arguments within the bounds that the statements name.
-/
import Derived.Test.YtbofgklhjjfbkaaGreatDoorW19
namespace Go.Arc
open Go.Ab Go.RowKit Go.Proofs
variable {T : Lay}

theorem classR_1 {l : List Plan} {f : Fil} {d : Int} (h : goodL l = false) : classR l f d = ([], 1) := by simp [classR, h]
theorem classR_24 {l : List Plan} {f : Fil} {d : Int} (h : goodL l = true) (h' : idx l f.opn < 0 ∨ idx l d < idx l f.opn) : classR l f d = ([], 24) := by simp [classR, h, h']
theorem classR_n {l : List Plan} {f : Fil} {d : Int} (h : goodL l = true) (h' : has (pl l (idx l f.opn).toNat) f.cls = false) : classR l f d = ([], 24) := by
  unfold classR; rw [if_neg (by simp [h])]
  split
  · rfl
  · first | rfl | rw [if_pos h']
theorem classR_0 {l : List Plan} {f : Fil} {d : Int} (h : goodL l = true) (h1 : ¬ (idx l f.opn < 0 ∨ idx l d < idx l f.opn)) (h' : has (pl l (idx l f.opn).toNat) f.cls = true) : classR l f d = (walkI l (idx l f.opn + 1) (idx l d + 1) f.cls, 0) := by
  unfold classR; rw [if_neg (by simp [h]), if_neg h1, if_neg (by simp [h'])]
theorem idx_some {l : List Plan} {d : Int} (h : ¬ idx l d < 0) : ∃ i : Nat, idx l d = i ∧ i < l.length := by
  rcases idx_cases l d with ⟨h1, -⟩ | ⟨i, h1, h2, -⟩
  · omega
  · exact ⟨i, h1, h2⟩

theorem den_Class (L : LibC T) (l : List Plan) (f : Fil) (d : Int) (hl : Fits l) (hf : f.Fit) : Den Tryz.prog T 20 [plans l, .agg f.cs, vi d] (classV l f d) := by
  have hl0 := hl.1
  refine den_of_body follows (fun args w => Tryz.call20 args w) Tryz.func20 rfl 49 rfl ?_
  refine run ?_
  refine call (den_CheckL L l hl) ?_
  by_cases hc : (check l).2 = 0
  · have hg := (goodL_iff l).2 hc
    refine run ?_
    refine call (den_AtL L l f.opn hl) ?_
    refine run ?_
    refine call (den_AtL L l d hl) ?_
    rw [atL_good hg, atL_good hg]
    by_cases h1 : idx l f.opn < 0
    · rw [classV, classR_24 hg (.inl h1)]
      refine run ?_
      exact fin rfl
    by_cases h2 : idx l d < idx l f.opn
    · rw [classV, classR_24 hg (.inr h2)]
      refine run ?_
      exact fin rfl
    obtain ⟨i, hi, hil⟩ := idx_some h1
    obtain ⟨j, hj, hjl⟩ := idx_some (l := l) (d := d) (by omega)
    rw [hi] at h1 h2 ⊢
    rw [hj] at h2 ⊢
    have hv : versErr l ((i : Int) + 1) ((j : Int) + 1) = 0 := versErr_0 hg (by omega)
    have ei : ((i : Int) + 1 - 1).toNat = i := by omega
    refine run ?_
    refine call (den_FollowL L l ((i : Int) + 1) ((j : Int) + 1) f.cls hl hf.1) ?_
    cases hh : has (pl l i) f.cls
    · have e : followV l ((i : Int) + 1) ((j : Int) + 1) f.cls = .tup [.str [], vi 7] := by simp only [followV, followR_7 hv (by rw [ei]; exact hh)]
      rw [e, classV, classR_n hg (by rw [hi, Int.toNat_natCast]; exact hh)]
      refine run ?_
      exact fin rfl
    · have e : followV l ((i : Int) + 1) ((j : Int) + 1) f.cls = .tup [.str (walkI l ((i : Int) + 1) ((j : Int) + 1) f.cls), vi 0] := by simp only [followV, followR_0 hv (by rw [ei]; exact hh)]
      rw [e, classV, classR_0 hg (by omega) (by rw [hi, Int.toNat_natCast]; exact hh), hi, hj]
      refine run ?_
      exact fin rfl
  · have hg : goodL l = false := by simp [goodL, hc]
    rw [classV, classR_1 hg]
    refine run ?_
    exact fin rfl

theorem den_ClassOn (l : List Plan) (f : Fil) (d : Int) (hl : Fits l) (hf : f.Fit) (hg : goodL l = true) : Den Tryz.prog T 49 [plans l, .agg f.cs, vi d] (classV l f d) := by
  have hl0 := hl.1
  refine den_of_body follows (fun args w => Tryz.call49 args w) Tryz.func49 rfl 40 rfl ?_
  refine run ?_
  refine call (den_IndexRef l f.opn hl0) ?_
  refine run ?_
  refine call (den_IndexRef l d hl0) ?_
  by_cases h1 : idx l f.opn < 0
  · rw [classV, classR_24 hg (.inl h1)]
    refine run ?_
    exact fin rfl
  by_cases h2 : idx l d < idx l f.opn
  · rw [classV, classR_24 hg (.inr h2)]
    refine run ?_
    exact fin rfl
  obtain ⟨i, hi, hil⟩ := idx_some h1
  obtain ⟨j, hj, hjl⟩ := idx_some (l := l) (d := d) (by omega)
  rw [hi] at h1 h2 ⊢
  rw [hj] at h2 ⊢
  obtain ⟨p, hp, -, hm⟩ := drop_at (l := l) (k := i) hil
  refine runW hp ?_
  refine call (den_hasRef p f.cls (hl.2 p hm).1) ?_
  cases hh : has p f.cls
  · rw [classV, classR_n hg (by rw [hi, Int.toNat_natCast, pl_at hp]; exact hh)]
    refine run ?_
    exact fin rfl
  · rw [classV, classR_0 hg (by omega) (by rw [hi, Int.toNat_natCast, pl_at hp]; exact hh), hi, hj, walkI_nat]
    refine run ?_
    refine call (den_Walk l i j f.cls hl (by omega) hjl hf.1) ?_
    refine run ?_
    exact fin rfl
theorem den_ClassRef (l : List Plan) (f : Fil) (d : Int) (hl : Fits l) (hf : f.Fit) : Den Tryz.prog T 21 [plans l, .agg f.cs, vi d] (classV l f d) := by
  refine den_of_body follows (fun args w => Tryz.call21 args w) Tryz.func21 rfl 17 rfl ?_
  refine run ?_
  refine call (den_GoodL l hl) ?_
  cases hg : goodL l
  · rw [classV, classR_1 hg]
    refine run ?_
    exact fin rfl
  · refine run ?_
    refine call (den_ClassOn l f d hl hf hg) ?_
    refine run ?_
    exact fin rfl

/-! the example of the chapter -/
def exN1 : Note := ⟨[97, 117, 100, 105, 116, 101, 100], 20, 25, 26⟩
def exN2 : Note := ⟨[97, 117, 100, 105, 116, 101, 100], 22, 22, 40⟩
def exF : Fil := ⟨1, 1, 5, 30, [49], [84], 0, [exN1, exN2]⟩
def exP : List Plan := [⟨1, 0, 50, [⟨[49], [84]⟩], []⟩]
theorem exF_fit : exF.Fit := by
  refine ⟨by decide, by decide, by decide, fun n hn => ?_⟩
  simp only [exF, List.mem_cons, List.mem_nil_iff, or_false] at hn
  rcases hn with rfl | rfl <;> (show _ ≤ _; decide)
theorem exP_fit : Fits exP := by
  refine ⟨by decide, fun p hp => ?_⟩
  simp only [exP, List.mem_cons, List.mem_nil_iff, or_false] at hp
  subst hp
  refine ⟨by decide, by decide, fun c hc => ?_, fun c hc => ?_⟩
  · simp only [List.mem_cons, List.mem_nil_iff, or_false] at hc
    subst hc
    exact ⟨by decide, by decide⟩
  · simp at hc
theorem den_example8 : Den Tryz.prog T 35 [] (.agg exF.cs) := by
  refine den_of_body follows (fun args w => Tryz.call35 args w) Tryz.func35 rfl 7 rfl ?_
  have z : 2 * 4 ≤ 16777216 := by decide
  refine runW z ?_
  exact finC1 (.refl _)
set_option maxRecDepth 100000 in
theorem den_awake8 (L : LibC T) : Den Tryz.prog T 10 [] (vb true) := by
  have hf := exF_fit
  have c1 : Den Tryz.prog T 12 [.agg exF.cs, .str [97, 117, 100, 105, 116, 101, 100], vi 41] (.tup [datg 20 25, vb true]) := by
    have := den_Trigger (T := T) exF [97, 117, 100, 105, 116, 101, 100] 41 hf
    rwa [trigV, show trig exF [97, 117, 100, 105, 116, 101, 100] 41 = some (20, 25) by decide +kernel] at this
  have c2 : Den Tryz.prog T 12 [.agg exF.cs, .str [99, 108, 111, 115, 101, 100], vi 30] (.tup [datg 30 30, vb true]) := by
    have := den_Trigger (T := T) exF [99, 108, 111, 115, 101, 100] 30 hf
    rwa [trigV, show trig exF [99, 108, 111, 115, 101, 100] 30 = some (30, 30) by decide +kernel] at this
  have c3 : Den Tryz.prog T 12 [.agg exF.cs, .str [99, 108, 111, 115, 101, 100], vi 29] (.tup [datg 0 0, vb false]) := by
    have := den_Trigger (T := T) exF [99, 108, 111, 115, 101, 100] 29 hf
    rwa [trigV, show trig exF [99, 108, 111, 115, 101, 100] 29 = none by decide +kernel] at this
  have c4 : Den Tryz.prog T 20 [plans exP, .agg exF.cs, vi 9] (.tup [.str [49], vi 0]) := by
    have := den_Class L exP exF 9 exP_fit hf
    rwa [classV, show classR exP exF 9 = ([49], 0) by decide +kernel] at this
  have c5 : Den Tryz.prog T 15 [.agg exF.cs, vi 26] (ntss [exN1]) := by
    have := den_KnownL (T := T) exF 26 hf
    rwa [show known exF 26 = [exN1] by decide +kernel] at this
  have c6 : Den Tryz.prog T 17 [.agg exF.cs, vi 5] (vi 1) := by
    have := den_State (T := T) exF 5
    rwa [show state exF 5 = 1 by decide +kernel] at this
  have c0 := den_example8 (T := T)
  have c4' : Den Tryz.prog T 20 [.slice 5 [[vi 1, vi 0, vi 50, clss [⟨[49], [84]⟩], .val (.slice none 0 0)]], .agg exF.cs, vi 9] (.tup [.str [49], vi 0]) := by
    refine c4.wk (.cons ?_ (.cons (.refl _) (.cons (.refl _) .nil)))
    refine Wk.slice rfl (by intro e he; simp [exP] at he; subst he; rfl) (by intro e he c hc; simp [exP] at he; subst he; simp at hc; rcases hc with rfl | rfl | rfl | rfl | rfl <;> rfl) ?_
    intro i j e u v c h1 h2 h3 h4
    rcases i with _ | i
    · simp only [exP, List.map_cons, List.getElem?_cons_zero, Option.some.injEq] at h1 h2
      subst h1 h2
      rcases j with _ | _ | _ | _ | _ | j <;> simp at h3 h4 <;> subst h3 h4 <;> first | exact .refl _ | exact .nil 2
    · simp [exP] at h2
  generalize exF = f at c0 c1 c2 c3 c4' c5 c6
  refine den_of_body follows (fun args w => Tryz.call10 args w) Tryz.func10 rfl 73 rfl ?_
  refine run ?_
  refine call c0 ?_
  refine run ?_
  refine call c1 ?_
  refine run ?_
  refine call c2 ?_
  refine run ?_
  refine call c3 ?_
  refine run ?_
  refine call c4' ?_
  refine run ?_
  refine call c5 ?_
  refine run ?_
  refine call c6 ?_
  refine run ?_
  exact fin rfl
end Go.Arc
