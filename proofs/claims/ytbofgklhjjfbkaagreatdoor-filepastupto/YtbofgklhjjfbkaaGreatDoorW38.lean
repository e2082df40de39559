/-
  Contracts of functions of the program, each by a walk through its code, for all arguments within the bounds that the statements name.
-/
import Derived.Test.YtbofgklhjjfbkaaGreatDoorW37
import Derived.Test.YtbofgklhjjfbkaaGreatDoorW20
namespace Go.Arc
open Go.Ab Go.RowKit Go.Proofs
variable {T : Lay}

theorem mem_set_fit {l : List Fil} {i : Nat} {g : Fil} (hl : FitsF l) (hg : g.Fit) : FitsF (l.set i g) := by
  refine ⟨by rw [List.length_set]; exact hl.1, fun x hx => ?_⟩
  rcases List.mem_or_eq_of_mem_set hx with h | h
  · exact hl.2 x h
  · rw [h]; exact hg
theorem addE_len {f : Fil} {n : Note} (h : addE f n = 0) : f.nts.length < 16 := by
  unfold addE at h
  split at h
  · cases h
  · omega
theorem trigV_n {f : Fil} {s : Str} {d : Int} (h : trig f s d = none) : trigV f s d = .tup [datg 0 0, vb false] := by unfold trigV; rw [h]
theorem trigV_s {f : Fil} {s : Str} {d : Int} {x : Int × Int} (h : trig f s d = some x) : trigV f s d = .tup [datg x.1 x.2, vb true] := by unfold trigV; rw [h]
set_option maxRecDepth 100000 in
set_option maxHeartbeats 4000000 in
theorem den_FilePast (L : LibC T) (os : List Ofc) (ps : List Plan) (l : List Fil) (id day : Int) (n : Note) (nm : Str) (bf : Int) (ho : FitsO os) (hp : Fits ps) (hl : FitsF l) (hn : n.Fit) :
    Den Tryz.prog T 9 [ofcs os, plans ps, fils l, vi id, vi day, .agg n.cs, .str nm, vi bf] (vb true) := by
  have hl0 := hl.1
  refine den_of_body follows (fun args w => Tryz.call9 args w) Tryz.func9 rfl 207 rfl ?_
  refine run ?_
  refine call (den_awake8 L) ?_
  refine run ?_
  refine call (den_FewO os ho) ?_
  cases fewO os
  · refine run ?_
    exact fin rfl
  refine run ?_
  refine call (den_Few ps hp) ?_
  cases few ps
  · refine run ?_
    exact fin rfl
  refine run ?_
  refine call (den_FewF l hl) ?_
  cases fewF l
  · refine run ?_
    exact fin rfl
  refine run ?_
  refine call (den_CheckF L os ps l ho hp hl) ?_
  by_cases g1 : ¬ (checkF os ps l).2 = 0
  · refine run ?_
    exact fin rfl
  have hz : (checkF os ps l).2 = 0 := Decidable.not_not.1 g1
  refine run ?_
  refine call (den_FindF l id hl0) ?_
  rcases findF_cases l id with h7 | ⟨i, f, hi, hil, hf, hfm⟩
  · refine run ?_
    refine call (den_Add_7 l id n hl h7) ?_
    refine run ?_
    refine call (den_Close_7 l id day hl h7) ?_
    refine run ?_
    exact fin rfl
  rw [hi]
  have hfit := hl.2 f hfm
  have hnl : f.nts.length ≤ 1048576 := hfit.2.2.1
  have cA := den_Add (T := T) L l id n hl hn hi hf
  have cS := den_Close (T := T) l id day hl hi hf
  have hsf : (shutF f day).Fit := hfit
  have hbF := mem_set_fit (i := i) hl hsf
  have hbi : (l.set i (shutF f day))[i]? = some (shutF f day) := by simp [hil]
  have hbl : (l.set i (shutF f day)).length = l.length := List.length_set
  have hcb := fun h => check_shut (d := day) hf hz h
  have hai : (l.set i (moreN f n))[i]? = some (moreN f n) := by simp [hil]
  have hal : (l.set i (moreN f n)).length = l.length := List.length_set
  have hca := fun h => check_more (n := n) hf hz h
  have hml : (moreN f n).nts.length = f.nts.length + 1 := by simp [moreN]
  have hmf : addE f n = 0 → (moreN f n).Fit := fun h => ⟨hfit.1, hfit.2.1, by rw [hml]; have := addE_len h; omega, fun x hx => by
    rcases List.mem_append.1 hx with hx | hx
    · exact hfit.2.2.2 x hx
    · simp at hx; rw [hx]; exact hn⟩
  obtain ⟨a, ea⟩ : ∃ a, l.set i (moreN f n) = a := ⟨_, rfl⟩
  obtain ⟨b, eb⟩ : ∃ b, l.set i (shutF f day) = b := ⟨_, rfl⟩
  have haF : addE f n = 0 → FitsF a := fun h => by rw [← ea]; exact mem_set_fit hl (hmf h)
  simp only [ea] at hai hal hca
  simp only [eb] at hbi hbl hcb hbF
  by_cases hA : addE f n = 0
  · by_cases hS : shutE f day = 0
    · rw [addV_0 hA, ea] at cA
      rw [shutV_0 hS, eb] at cS
      refine run ?_
      refine call cA ?_
      refine run ?_
      refine call cS ?_
      refine runW hf ?_
      refine call (den_Trigger f nm bf hfit) ?_
      cases ht : trig f nm bf with
      | none =>
        rw [trigV_n ht]
        refine run ?_
        refine call (den_CheckF L os ps a ho hp (haF hA)) ?_
        rw [hca hA]
        refine runW (And.intro hai (And.intro hf (And.intro hal hml))) ?_
        refine call (den_Trigger (moreN f n) nm bf (hmf hA)) ?_
        by_cases hb1 : bf < n.rcd
        · rw [trigV_n ((trig_more nm hb1).trans ht)]
          refine run ?_
          refine call (den_CheckF L os ps b ho hp hbF) ?_
          rw [hcb hS]
          refine runW (And.intro hbi (And.intro hf hbl)) ?_
          refine call (den_State (shutF f day) day) ?_
          rw [state_shut hS]
          refine runW (And.intro hbi (And.intro hf hbl)) ?_
          refine call (den_Trigger (shutF f day) nm bf hsf) ?_
          by_cases hb2 : bf < day
          · rw [trigV_n ((trig_shut nm hb2 hS).trans ht)]
            refine run ?_
            exact fin rfl
          · cases hts : trig (shutF f day) nm bf with
            | none =>
              rw [trigV_n hts]
              refine run ?_
              exact fin rfl
            | some z =>
              rw [trigV_s hts]
              refine run ?_
              exact fin rfl
        · cases htm : trig (moreN f n) nm bf with
          | none =>
            rw [trigV_n htm]
            refine run ?_
            refine call (den_CheckF L os ps b ho hp hbF) ?_
            rw [hcb hS]
            refine runW (And.intro hbi (And.intro hf hbl)) ?_
            refine call (den_State (shutF f day) day) ?_
            rw [state_shut hS]
            refine runW (And.intro hbi (And.intro hf hbl)) ?_
            refine call (den_Trigger (shutF f day) nm bf hsf) ?_
            by_cases hb2 : bf < day
            · rw [trigV_n ((trig_shut nm hb2 hS).trans ht)]
              refine run ?_
              exact fin rfl
            · cases hts : trig (shutF f day) nm bf with
              | none =>
                rw [trigV_n hts]
                refine run ?_
                exact fin rfl
              | some z =>
                rw [trigV_s hts]
                refine run ?_
                exact fin rfl
          | some y =>
            rw [trigV_s htm]
            refine run ?_
            refine call (den_CheckF L os ps b ho hp hbF) ?_
            rw [hcb hS]
            refine runW (And.intro hbi (And.intro hf hbl)) ?_
            refine call (den_State (shutF f day) day) ?_
            rw [state_shut hS]
            refine runW (And.intro hbi (And.intro hf hbl)) ?_
            refine call (den_Trigger (shutF f day) nm bf hsf) ?_
            by_cases hb2 : bf < day
            · rw [trigV_n ((trig_shut nm hb2 hS).trans ht)]
              refine run ?_
              exact fin rfl
            · cases hts : trig (shutF f day) nm bf with
              | none =>
                rw [trigV_n hts]
                refine run ?_
                exact fin rfl
              | some z =>
                rw [trigV_s hts]
                refine run ?_
                exact fin rfl
      | some x =>
        rw [trigV_s ht]
        refine run ?_
        refine call (den_CheckF L os ps a ho hp (haF hA)) ?_
        rw [hca hA]
        refine runW (And.intro hai (And.intro hf (And.intro hal hml))) ?_
        refine call (den_Trigger (moreN f n) nm bf (hmf hA)) ?_
        by_cases hb1 : bf < n.rcd
        · rw [trigV_s ((trig_more nm hb1).trans ht)]
          refine run ?_
          refine call (den_CheckF L os ps b ho hp hbF) ?_
          rw [hcb hS]
          refine runW (And.intro hbi (And.intro hf hbl)) ?_
          refine call (den_State (shutF f day) day) ?_
          rw [state_shut hS]
          refine runW (And.intro hbi (And.intro hf hbl)) ?_
          refine call (den_Trigger (shutF f day) nm bf hsf) ?_
          by_cases hb2 : bf < day
          · rw [trigV_s ((trig_shut nm hb2 hS).trans ht)]
            refine run ?_
            exact fin rfl
          · cases hts : trig (shutF f day) nm bf with
            | none =>
              rw [trigV_n hts]
              refine run ?_
              exact fin rfl
            | some z =>
              rw [trigV_s hts]
              refine run ?_
              exact fin rfl
        · cases htm : trig (moreN f n) nm bf with
          | none =>
            rw [trigV_n htm]
            refine run ?_
            refine call (den_CheckF L os ps b ho hp hbF) ?_
            rw [hcb hS]
            refine runW (And.intro hbi (And.intro hf hbl)) ?_
            refine call (den_State (shutF f day) day) ?_
            rw [state_shut hS]
            refine runW (And.intro hbi (And.intro hf hbl)) ?_
            refine call (den_Trigger (shutF f day) nm bf hsf) ?_
            by_cases hb2 : bf < day
            · rw [trigV_s ((trig_shut nm hb2 hS).trans ht)]
              refine run ?_
              exact fin rfl
            · cases hts : trig (shutF f day) nm bf with
              | none =>
                rw [trigV_n hts]
                refine run ?_
                exact fin rfl
              | some z =>
                rw [trigV_s hts]
                refine run ?_
                exact fin rfl
          | some y =>
            rw [trigV_s htm]
            refine run ?_
            refine call (den_CheckF L os ps b ho hp hbF) ?_
            rw [hcb hS]
            refine runW (And.intro hbi (And.intro hf hbl)) ?_
            refine call (den_State (shutF f day) day) ?_
            rw [state_shut hS]
            refine runW (And.intro hbi (And.intro hf hbl)) ?_
            refine call (den_Trigger (shutF f day) nm bf hsf) ?_
            by_cases hb2 : bf < day
            · rw [trigV_s ((trig_shut nm hb2 hS).trans ht)]
              refine run ?_
              exact fin rfl
            · cases hts : trig (shutF f day) nm bf with
              | none =>
                rw [trigV_n hts]
                refine run ?_
                exact fin rfl
              | some z =>
                rw [trigV_s hts]
                refine run ?_
                exact fin rfl
    · rw [addV_0 hA, ea] at cA
      rw [shutV_e rfl hS] at cS
      refine run ?_
      refine call cA ?_
      refine run ?_
      refine call cS ?_
      refine runW hf ?_
      refine call (den_Trigger f nm bf hfit) ?_
      cases ht : trig f nm bf with
      | none =>
        rw [trigV_n ht]
        refine run ?_
        refine call (den_CheckF L os ps a ho hp (haF hA)) ?_
        rw [hca hA]
        refine runW (And.intro hai (And.intro hf (And.intro hal hml))) ?_
        refine call (den_Trigger (moreN f n) nm bf (hmf hA)) ?_
        by_cases hb1 : bf < n.rcd
        · rw [trigV_n ((trig_more nm hb1).trans ht)]
          refine run ?_
          exact fin rfl
        · cases htm : trig (moreN f n) nm bf with
          | none =>
            rw [trigV_n htm]
            refine run ?_
            exact fin rfl
          | some y =>
            rw [trigV_s htm]
            refine run ?_
            exact fin rfl
      | some x =>
        rw [trigV_s ht]
        refine run ?_
        refine call (den_CheckF L os ps a ho hp (haF hA)) ?_
        rw [hca hA]
        refine runW (And.intro hai (And.intro hf (And.intro hal hml))) ?_
        refine call (den_Trigger (moreN f n) nm bf (hmf hA)) ?_
        by_cases hb1 : bf < n.rcd
        · rw [trigV_s ((trig_more nm hb1).trans ht)]
          refine run ?_
          exact fin rfl
        · cases htm : trig (moreN f n) nm bf with
          | none =>
            rw [trigV_n htm]
            refine run ?_
            exact fin rfl
          | some y =>
            rw [trigV_s htm]
            refine run ?_
            exact fin rfl
  · by_cases hS : shutE f day = 0
    · rw [addV_e rfl hA] at cA
      rw [shutV_0 hS, eb] at cS
      refine run ?_
      refine call cA ?_
      refine run ?_
      refine call cS ?_
      refine runW hf ?_
      refine call (den_Trigger f nm bf hfit) ?_
      cases ht : trig f nm bf with
      | none =>
        rw [trigV_n ht]
        refine run ?_
        refine call (den_CheckF L os ps b ho hp hbF) ?_
        rw [hcb hS]
        refine runW (And.intro hbi (And.intro hf hbl)) ?_
        refine call (den_State (shutF f day) day) ?_
        rw [state_shut hS]
        refine runW (And.intro hbi (And.intro hf hbl)) ?_
        refine call (den_Trigger (shutF f day) nm bf hsf) ?_
        by_cases hb2 : bf < day
        · rw [trigV_n ((trig_shut nm hb2 hS).trans ht)]
          refine run ?_
          exact fin rfl
        · cases hts : trig (shutF f day) nm bf with
          | none =>
            rw [trigV_n hts]
            refine run ?_
            exact fin rfl
          | some z =>
            rw [trigV_s hts]
            refine run ?_
            exact fin rfl
      | some x =>
        rw [trigV_s ht]
        refine run ?_
        refine call (den_CheckF L os ps b ho hp hbF) ?_
        rw [hcb hS]
        refine runW (And.intro hbi (And.intro hf hbl)) ?_
        refine call (den_State (shutF f day) day) ?_
        rw [state_shut hS]
        refine runW (And.intro hbi (And.intro hf hbl)) ?_
        refine call (den_Trigger (shutF f day) nm bf hsf) ?_
        by_cases hb2 : bf < day
        · rw [trigV_s ((trig_shut nm hb2 hS).trans ht)]
          refine run ?_
          exact fin rfl
        · cases hts : trig (shutF f day) nm bf with
          | none =>
            rw [trigV_n hts]
            refine run ?_
            exact fin rfl
          | some z =>
            rw [trigV_s hts]
            refine run ?_
            exact fin rfl
    · rw [addV_e rfl hA] at cA
      rw [shutV_e rfl hS] at cS
      refine run ?_
      refine call cA ?_
      refine run ?_
      refine call cS ?_
      refine runW hf ?_
      refine call (den_Trigger f nm bf hfit) ?_
      cases ht : trig f nm bf with
      | none =>
        rw [trigV_n ht]
        refine run ?_
        exact fin rfl
      | some x =>
        rw [trigV_s ht]
        refine run ?_
        exact fin rfl
end Go.Arc
