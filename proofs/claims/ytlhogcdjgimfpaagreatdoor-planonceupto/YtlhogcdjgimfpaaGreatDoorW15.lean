/-
  Contracts of functions of the program, each by a walk through its code, for all arguments within the bounds that the statements name.
-/
import Derived.Test.YtlhogcdjgimfpaaGreatDoorW14
import Derived.Test.YtlhogcdjgimfpaaGreatDoorPl2
namespace Go.Arc
open Go.Ab Go.RowKit Go.Proofs
variable {T : Lay}

instance : TZV Tryz.prog 9 (.string ⟨#[]⟩) := ⟨by kernel_rfl⟩
theorem ents_len (es : List (Str × Str)) : (ents es).length = es.length := by simp [ents]
theorem sources_ok {l : List Plan} {f t : Int} {c : Cls} (hv : versErr l f t = 0) (hc : c ∈ (pl l (t - 1).toNat).cls) : sourcesV l f t c.code = .tup [strs (sourcesL l f t c.code), vi 0] := by
  simp only [sourcesV, sourcesE_0 hv (has_iff.2 ⟨c, hc, rfl⟩)]
theorem noted_end {l : List Plan} {f t : Int} {cs : List Cls} {k : Nat} (h : ¬ k < cs.length) : noted l f t (cs.take k) = noted l f t cs := by rw [List.take_of_length_le (by omega)]
theorem bigL (l : List Plan) (f t : Int) (c : Str) (hl : Fits l) : (sourcesL l f t c).length ≤ 1048576 := by
  unfold sourcesL
  split
  · simp
  · refine Nat.le_trans (List.length_filter_le _ _) ?_
    rw [List.length_map]
    exact (pl_fit hl _).1

set_option maxRecDepth 100000 in
set_option maxHeartbeats 4000000 in
theorem den_PlanOnce (L : LibC T) (l : List Plan) (f t : Int) (hl : Fits l) : Den Tryz.prog T 6 [plans l, vi f, vi t] (vb true) := by
  have hl0 := hl.1
  refine den_of_body follows (fun args w => Tryz.call6 args w) Tryz.func6 rfl 129 rfl ?_
  refine run ?_
  refine call (den_awake L) ?_
  refine run ?_
  refine call (den_CheckL L l hl) ?_
  refine run ?_
  refine call (den_Few l hl) ?_
  cases few l
  · refine run ?_
    exact fin rfl
  by_cases hc : (check l).2 = 0
  · have hg := (goodL_iff l).2 hc
    by_cases h1 : f < 1
    · refine run ?_
      exact fin rfl
    by_cases h2 : t < f
    · refine run ?_
      exact fin rfl
    by_cases h3 : l.length < t
    · refine run ?_
      exact fin rfl
    have hv : versErr l f t = 0 := versErr_0 hg (by omega)
    obtain ⟨f, rfl⟩ := nat_of (show 1 ≤ f by omega)
    obtain ⟨t, rfl⟩ := nat_of (show 1 ≤ t by omega)
    obtain ⟨p, hp, -, hm⟩ := drop_at (l := l) (k := f) (by omega)
    obtain ⟨q, hq, -, hmq⟩ := drop_at (l := l) (k := t) (by omega)
    have ef : (f : Int) + 1 - 1 = f := Int.add_sub_cancel _ _
    have et : (t : Int) + 1 - 1 = t := Int.add_sub_cancel _ _
    have hpl : pl l ((f : Int) + 1 - 1).toNat = p := by rw [ef, Int.toNat_natCast, pl_at hp]
    have hql : pl l ((t : Int) + 1 - 1).toNat = q := by rw [et, Int.toNat_natCast, pl_at hq]
    have nF : (p.cls.map (·.code)).Nodup := by rw [← pl_at hp]; exact good_nodup hg (by omega)
    have nG : (q.cls.map (·.code)).Nodup := by rw [← pl_at hq]; exact good_nodup hg (by omega)
    have hpf := hl.2 p hm
    have hqf := hl.2 q hmq
    have hp1 := hpf.1
    have hq1 := hqf.1
    have hlen := noted_len hv (by rw [hpl]; exact nF) (by rw [hql]; exact nG)
    rw [hpl, hql] at hlen
    refine runW (And.intro hq et) ?_
    refine loop ⟨[0, 1, 2, 9, 55, 56, 57], [49], [], []⟩ (fun k : Nat => k ≤ q.cls.length) (fun k => q.cls.length - k)
      (fun k => ⟨129, [(0, .v (plans l)), (1, .v (vi ((f : Int) + 1))), (2, .v (vi ((t : Int) + 1))), (9, .m 49), (55, .v (clss q.cls)), (56, .v (vi q.cls.length)), (57, .v (vi k))],
        [(49, .map (ents (noted l ((f : Int) + 1) ((t : Int) + 1) (q.cls.take k))))], []⟩) 0 (by omega) ?_
    intro k hk
    by_cases hlt : k < q.cls.length
    · obtain ⟨c, hcx, -, hmc⟩ := drop_at hlt
      have hcl := (hqf.2.2.1 c hmc).1
      have hso := sources_ok hv (show c ∈ (pl l ((t : Int) + 1 - 1).toNat).cls by rw [hql]; exact hmc)
      have hsl := bigL l ((f : Int) + 1) ((t : Int) + 1) c.code hl
      refine runW hcx ?_
      refine call (den_Sources L l ((f : Int) + 1) ((t : Int) + 1) c.code hl hcl) ?_
      rw [hso]
      refine run ?_
      have hno := fun j x (hx : (sourcesL l ((f : Int) + 1) ((t : Int) + 1) c.code)[j]? = some x) => not_noted (k := k) nG (by rw [hpl]; exact nF) hcx hx
      have hsucc := noted_succ (l := l) (f := (f : Int) + 1) (t := (t : Int) + 1) hcx
      generalize hS : sourcesL l ((f : Int) + 1) ((t : Int) + 1) c.code = S at hsl hno hsucc
      generalize noted l ((f : Int) + 1) ((t : Int) + 1) (q.cls.take k) = E at hno hsucc
      refine loop ⟨[0, 1, 2, 9, 11, 55, 56, 57, 72, 73, 74], [49, 11], [], []⟩ (fun j : Nat => j ≤ S.length) (fun j => S.length - j)
        (fun j => ⟨129, [(0, .v (plans l)), (1, .v (vi ((f : Int) + 1))), (2, .v (vi ((t : Int) + 1))), (9, .m 49), (11, .p 11 0), (55, .v (clss q.cls)), (56, .v (vi q.cls.length)), (57, .v (vi k)), (72, .v (strs S)), (73, .v (vi S.length)), (74, .v (vi j))],
          [(49, .map (ents (E ++ (S.take j).map fun x => (x, c.code)))), (11, .var c.cs)], []⟩) 0 (by omega) ?_ ?_
      · intro j hj
        by_cases hlt' : j < S.length
        · obtain ⟨x, hx, -, -⟩ := drop_at hlt'
          have hl1 := hno j x hx
          have hf := find_ents x (E ++ (S.take j).map fun x => (x, c.code))
          rw [hl1] at hf
          have hu := upsert_ents (v := c.code) hl1
          have htk : S.take (j + 1) = S.take j ++ [x] := by
            obtain ⟨hlt', rfl⟩ := List.getElem?_eq_some_iff.1 hx
            exact List.take_succ_eq_append_getElem hlt'
          refine runW (And.intro hx (And.intro hf hu)) ?_
          refine round (j + 1) (by omega) (by omega) ?_
          rw [htk, List.map_append, ← List.append_assoc]; rfl
        · refine run ?_
          refine round (k + 1) (by omega) (by omega) ?_
          rw [hsucc, List.take_of_length_le (show S.length ≤ j by omega)]; rfl
      · simp only [List.take_zero, List.map_nil, List.append_nil]; rfl
    · rw [noted_end hlt]
      have hall := fun x hx => noted_all hv (x := x) hx
      rw [hpl, hql] at hall
      have hnd := nodup_noted (t := (t : Int) + 1) (l := l) (f := (f : Int) + 1) (by rw [hpl]; exact nF) nG
      generalize noted l ((f : Int) + 1) ((t : Int) + 1) q.cls = E at hall hlen hnd
      refine runW (And.intro hp ef) ?_
      refine loop ⟨[0, 1, 2, 9, 93, 94, 95], [49], [], []⟩ (fun k : Nat => k ≤ p.cls.length) (fun k => p.cls.length - k)
        (fun k => ⟨129, [(0, .v (plans l)), (1, .v (vi ((f : Int) + 1))), (2, .v (vi ((t : Int) + 1))), (9, .m 49), (93, .v (clss p.cls)), (94, .v (vi p.cls.length)), (95, .v (vi k))], [(49, .map (ents E))], []⟩) 0 (by omega) ?_
      intro k hk
      by_cases hlt : k < p.cls.length
      · obtain ⟨c, hcx, -, hmc⟩ := drop_at hlt
        have hcl := (hpf.2.2.1 c hmc).1
        have hhas : has p c.code = true := has_iff.2 ⟨c, hmc, rfl⟩
        have hfv : followV l ((f : Int) + 1) ((t : Int) + 1) c.code = .tup [.str (walkI l ((f : Int) + 1) ((t : Int) + 1) c.code), vi 0] := by
          simp only [followV, followR_0 hv (show has (pl l ((f : Int) + 1 - 1).toNat) c.code = true by rw [hpl]; exact hhas)]
        have hf := find_ents c.code E
        rw [lookup_mem hnd (hall c.code hhas)] at hf
        refine runW hcx ?_
        refine call (den_FollowL L l ((f : Int) + 1) ((t : Int) + 1) c.code hl hcl) ?_
        rw [hfv]
        refine runW hf ?_
        exact round (k + 1) (by omega) (by omega)
      · have he := ents_len E
        rw [hlen] at he
        refine runW (And.intro he (And.intro hp ef)) ?_
        exact fin rfl
  · refine run ?_
    exact fin rfl
end Go.Arc
