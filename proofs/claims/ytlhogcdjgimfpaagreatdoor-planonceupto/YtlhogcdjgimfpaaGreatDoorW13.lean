/-
  Contracts of functions of the program, each by a walk through its code, for all arguments within the bounds that the statements name.
-/
import Derived.Test.YtlhogcdjgimfpaaGreatDoorW12
import Derived.Test.YtlhogcdjgimfpaaGreatDoorPl1
namespace Go.Arc
open Go.Ab Go.RowKit Go.Proofs
variable {T : Lay}

/-! the example of the chapter -/
def exL : List Plan := [⟨1, 0, 100, [⟨[49], [84]⟩, ⟨[49, 46, 49], [84]⟩, ⟨[49, 46, 50], [84]⟩, ⟨[50], [84]⟩], []⟩,
  ⟨2, 100, 1048576, [⟨[49], [84]⟩, ⟨[49, 46, 50], [84]⟩, ⟨[50], [84]⟩, ⟨[51], [84]⟩], [⟨[50], [51]⟩]⟩]
theorem exFits : Fits exL := by
  refine ⟨by decide, ?_⟩
  intro p hp
  simp only [exL, List.mem_cons, List.mem_nil_iff, or_false] at hp
  rcases hp with rfl | rfl <;> (refine ⟨by decide, by decide, ?_, ?_⟩ <;> (intro c hc; simp only [List.mem_cons, List.mem_nil_iff, or_false] at hc))
  · rcases hc with rfl | rfl | rfl | rfl <;> exact ⟨by decide, by decide⟩
  · rcases hc with rfl | rfl | rfl | rfl <;> exact ⟨by decide, by decide⟩
  · subst hc; exact ⟨by decide, by decide⟩

theorem den_example1 (l : List Str) (hl : l.length ≤ 1048576) : Den Tryz.prog T 59 [strs l] (clss (l.map fun c => ⟨c, [84]⟩)) := by
  refine den_of_body follows (fun args w => Tryz.call59 args w) Tryz.func59 rfl 19 rfl ?_
  refine run ?_
  refine loop ⟨[3, 6, 7, 8], [], [3], [(3, 47, 2)]⟩ (fun y : Nat × List Cls => y.1 ≤ l.length ∧ y.2 = (l.take y.1).map fun c => ⟨c, [84]⟩) (fun y => l.length - y.1)
    (fun y => ⟨19, [(3, .v (clss y.2)), (6, .v (strs l)), (7, .v (vi l.length)), (8, .v (vi y.1))], [], [(47, [3])]⟩) (0, []) ⟨by simp, by simp⟩ ?_
  rintro ⟨k, out⟩ ⟨hk, hall⟩
  simp only at hk hall
  have hol : out.length = k := by rw [hall]; simp; omega
  by_cases hlt : k < l.length
  · obtain ⟨x, hx, hd, hm⟩ := drop_at hlt
    have hap : out.map Cls.cs ++ [[V.str x, V.str [84]]] = (out ++ [(⟨x, [84]⟩ : Cls)]).map Cls.cs := by simp
    refine runW (And.intro hx hap) ?_
    refine round (k + 1, out ++ [(⟨x, [84]⟩ : Cls)]) ⟨by simp only; omega, ?_⟩ (by simp only; omega)
    simp only
    obtain ⟨hlt', rfl⟩ := List.getElem?_eq_some_iff.1 hx
    rw [List.take_succ_eq_append_getElem hlt', hall, List.map_append]; rfl
  · have ho : out = l.map fun c => ⟨c, [84]⟩ := by rw [hall, List.take_of_length_le (by omega)]
    subst ho
    refine run ?_
    exact fin rfl

theorem wk_movs (l : List Mov) (v : V) (h : v = movs l ∨ (v = .val (.slice none 0 0) ∧ l = [])) : Wk v (movs l) := by
  rcases h with rfl | ⟨rfl, rfl⟩
  · exact .refl _
  · exact .nil 2
theorem den_example : Den Tryz.prog T 33 [] (plans exL) := by
  refine den_of_body follows (fun args w => Tryz.call33 args w) Tryz.func33 rfl 15 rfl ?_
  refine run ?_
  refine call (den_example1 [[49], [49, 46, 49], [49, 46, 50], [50]] (by decide)) ?_
  refine run ?_
  refine call (den_example1 [[49], [49, 46, 50], [50], [51]] (by decide)) ?_
  refine run ?_
  refine finW ?_
  refine Wk.slice rfl (by intro e he; simp [exL] at he; rcases he with rfl | rfl <;> rfl) (by intro e he c hc; simp [exL] at he; rcases he with rfl | rfl <;> (simp at hc; rcases hc with rfl | rfl | rfl | rfl | rfl <;> rfl)) ?_
  intro i j e u v c h1 h2 h3 h4
  rcases i with _ | _ | i
  · simp only [exL, List.map_cons, List.getElem?_cons_zero, Option.some.injEq] at h1 h2
    subst h1 h2
    rcases j with _ | _ | _ | _ | _ | j <;> simp at h3 h4 <;> subst h3 h4 <;> first | exact .refl _ | exact .nil 2
  · simp only [exL, List.map_cons, List.getElem?_cons_succ, List.getElem?_cons_zero, Option.some.injEq] at h1 h2
    subst h1 h2
    rcases j with _ | _ | _ | _ | _ | j <;> simp at h3 h4 <;> subst h3 h4 <;> first | exact .refl _ | exact .nil 2
  · simp [exL] at h2

theorem den_awake (L : LibC T) : Den Tryz.prog T 10 [] (vb true) := by
  have hf := exFits
  have c1 : Den Tryz.prog T 12 [plans exL] (.tup [vi (-1), vi 0]) := by
    have := den_CheckL L exL hf
    rwa [checkV, show check exL = (-1, 0) by decide +kernel] at this
  have c2 : Den Tryz.prog T 16 [plans exL, vi 1, vi 2, .str [49, 46, 49]] (.tup [.str [49], vi 0]) := by
    have := den_FollowL L exL 1 2 [49, 46, 49] hf (by decide)
    rwa [followV, show followR exL 1 2 [49, 46, 49] = ([49], 0) by decide +kernel] at this
  have c3 : Den Tryz.prog T 16 [plans exL, vi 1, vi 2, .str [50]] (.tup [.str [51], vi 0]) := by
    have := den_FollowL L exL 1 2 [50] hf (by decide)
    rwa [followV, show followR exL 1 2 [50] = ([51], 0) by decide +kernel] at this
  have c4 : Den Tryz.prog T 18 [plans exL, vi 1, vi 2, .str [49]] (.tup [strs [[49], [49, 46, 49]], vi 0]) := by
    have := den_Sources L exL 1 2 [49] hf (by decide)
    rwa [sourcesV, show sourcesL exL 1 2 [49] = [[49], [49, 46, 49]] by decide +kernel, show sourcesE exL 1 2 [49] = 0 by decide +kernel] at this
  have c5 : Den Tryz.prog T 14 [plans exL, vi 100] (vi 1) := by
    have := den_AtL L exL 100 hf
    rwa [show atL exL 100 = 1 by decide +kernel] at this
  have c0 := den_example (T := T)
  generalize exL = l at hf c0 c1 c2 c3 c4 c5
  refine den_of_body follows (fun args w => Tryz.call10 args w) Tryz.func10 rfl 67 rfl ?_
  refine run ?_
  refine call c0 ?_
  refine run ?_
  refine call c1 ?_
  refine run ?_
  refine call c2 ?_
  refine run ?_
  refine call c3 ?_
  refine run ?_
  refine call c4 ?_
  refine run ?_
  refine call (den_eqStr [[49], [49, 46, 49]] [[49], [49, 46, 49]] (by decide) (by decide)) ?_
  refine run ?_
  refine call c5 ?_
  refine run ?_
  exact fin rfl

theorem den_PlanChecks (L : LibC T) (l : List Plan) (d : Int) (hl : Fits l) : Den Tryz.prog T 3 [plans l, vi d] (vb true) := by
  refine den_of_body follows (fun args w => Tryz.call3 args w) Tryz.func3 rfl 41 rfl ?_
  refine run ?_
  refine call (den_awake L) ?_
  refine run ?_
  refine call (den_Few l hl) ?_
  cases few l
  · refine run ?_
    exact fin rfl
  · refine run ?_
    refine call (den_CheckL L l hl) ?_
    refine run ?_
    refine call (den_CheckRef l hl) ?_
    refine run ?_
    refine call (den_AtL L l d hl) ?_
    refine run ?_
    refine call (den_AtRef l d hl) ?_
    refine run ?_
    exact fin rfl

theorem pl_fit {l : List Plan} (hl : Fits l) (i : Nat) : (pl l i).Fit := by
  unfold pl
  rw [List.getD_eq_getElem?_getD]
  cases h : l[i]? with
  | none => exact ⟨by decide, by decide, by simp [dflt], by simp [dflt]⟩
  | some p => exact hl.2 p (List.mem_of_getElem? h)
theorem den_PlanFollows (L : LibC T) (l : List Plan) (f t : Int) (s : Str) (hl : Fits l) (hs : s.length ≤ 1048576) : Den Tryz.prog T 4 [plans l, vi f, vi t, .str s] (vb true) := by
  refine den_of_body follows (fun args w => Tryz.call4 args w) Tryz.func4 rfl 77 rfl ?_
  refine run ?_
  refine call (den_awake L) ?_
  refine run ?_
  refine call (den_Few l hl) ?_
  cases few l
  · refine run ?_
    exact fin rfl
  by_cases h100 : 100 < s.length
  · refine run ?_
    exact fin rfl
  refine run ?_
  refine call (den_FollowL L l f t s hl hs) ?_
  refine run ?_
  refine call (den_FollowRef l f t s hl hs) ?_
  refine run ?_
  refine call (den_Sources L l f t s hl hs) ?_
  refine run ?_
  refine call (den_SourcesRef l f t s hl hs) ?_
  refine run ?_
  have hsl : (sourcesL l f t s).length ≤ 1048576 := by
    unfold sourcesL
    split
    · simp
    · refine Nat.le_trans (List.length_filter_le _ _) ?_
      rw [List.length_map]
      exact (pl_fit hl _).1
  refine call (den_same _ _ hsl hsl) ?_
  refine run ?_
  exact fin rfl

theorem den_PlanNexts (L : LibC T) (old new : Plan) (s : Str) (ho : old.Fit) (hn : new.Fit) (hs : s.length ≤ 1048576) : Den Tryz.prog T 9 [.agg old.cs, .agg new.cs, .str s] (vb true) := by
  refine den_of_body follows (fun args w => Tryz.call9 args w) Tryz.func9 rfl 66 rfl ?_
  refine run ?_
  refine call (den_awake L) ?_
  refine run ?_
  refine call (den_FewPlan old ho) ?_
  cases fewP old
  · refine run ?_
    exact fin rfl
  refine run ?_
  refine call (den_FewPlan new hn) ?_
  cases fewP new
  · refine run ?_
    exact fin rfl
  by_cases h100 : 100 < s.length
  · refine run ?_
    exact fin rfl
  have hcl : ((old.cls.map (·.code)).filter (isChild s)).length ≤ 1048576 := Nat.le_trans (List.length_filter_le _ _) (by simpa using ho.1)
  refine run ?_
  refine call (den_Next L old new s ho hn hs) ?_
  have hx : ∃ x b, nextV old new s = .tup [.str x, vb b] := by
    cases h : next old new s with
    | none => exact ⟨_, _, nextV_n h⟩
    | some x => exact ⟨_, _, nextV_s h⟩
  obtain ⟨x, b, e⟩ := hx
  rw [e]
  refine run ?_
  refine call (den_NextRef old new s ho hn hs) ?_
  rw [e]
  refine run ?_
  refine call (den_Has old s ho.1) ?_
  refine run ?_
  refine call (den_hasRef old s ho.1) ?_
  refine run ?_
  refine call (den_Children L old s ho) ?_
  refine run ?_
  refine call (den_ChildrenRef old s ho) ?_
  refine run ?_
  refine call (den_same _ _ hcl hcl) ?_
  refine run ?_
  exact fin rfl
end Go.Arc
