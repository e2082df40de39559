/-
  Contracts of functions of the program, each by a walk through its code, for all arguments within the bounds that the statements name.
-/
import Derived.Test.YteedjclogdckhaaGreatDoorW41
import Derived.Test.YteedjclogdckhaaGreatDoorW35
namespace Go.Arc
open Go.Ab Go.RowKit Go.Proofs
variable {T : Lay}

/-! what a hold covers -/
theorem covers_out {os : List Ofc} {ps : List Plan} {h : Hld} {f : Fil} {d : Int} (hi : inS h.frm h.til d = false) : covers os ps h f d = false := by simp [covers, hi]
theorem covers_in {os : List Ofc} {ps : List Plan} {h : Hld} {f : Fil} {d : Int} (hi : inS h.frm h.til d = true) : covers os ps h f d = kindB os ps h f d := by simp [covers, hi]
theorem kindB_1 {os : List Ofc} {ps : List Plan} {h : Hld} {f : Fil} {d : Int} (hk : h.kind = 1) : kindB os ps h f d = decide (h.obj = f.id) := by simp [kindB, hk]
theorem kindB_2 {os : List Ofc} {ps : List Plan} {h : Hld} {f : Fil} {d : Int} (hk : h.kind = 2) : kindB os ps h f d = (chain os f.ofc d).any (fun y => decide (h.obj = y)) := by simp [kindB, hk]
theorem kindB_3 {os : List Ofc} {ps : List Plan} {h : Hld} {f : Fil} {d : Int} (hk : h.kind = 3) : kindB os ps h f d = (decide ((classR ps f d).2 = 0) && within (classR ps f d).1 h.cls) := by simp [kindB, hk]
theorem kindB_0 {os : List Ofc} {ps : List Plan} {h : Hld} {f : Fil} {d : Int} (h1 : h.kind ≠ 1) (h2 : h.kind ≠ 2) (h3 : h.kind ≠ 3) : kindB os ps h f d = false := by simp [kindB, h1, h2, h3]
theorem chain_len (os : List Ofc) (n d : Int) : (chain os n d).length ≤ 1048578 := by
  unfold chain
  split
  · simp
  · split
    · simp
    · exact chainF_len os d 1048577 _
theorem classR_len {l : List Plan} (hl : Fits l) {f : Fil} (hf : f.Fit) (d : Int) : (classR l f d).1.length ≤ 1048576 := by
  unfold classR
  split
  · simp
  · split
    · simp
    · split
      · simp
      · exact walkN_len hl _ _ _ hf.1
theorem den_hasInt2 (l : List Int) (x : Int) (hl : l.length ≤ 1048578) : Den Tryz.prog T 17 [ints l, vi x] (vb (l.any fun y => decide (x = y))) := by
  have h0 : Den Tryz.prog T 53 [ints l, vi x] (vi (ix (fun y => decide (x = y)) l)) := by
    refine den_of_body follows (fun args w => Tryz.call53 args w) Tryz.func53 rfl 19 rfl ?_
    refine run ?_
    refine loop ⟨[0, 1, 7, 8], [], [], []⟩ (fun k : Nat => k ≤ l.length ∧ ∀ n ∈ l.take k, decide (x = n) = false) (fun k => l.length - k)
      (fun k => ⟨19, [(0, .v (ints l)), (1, .v (vi x)), (7, .v (vi l.length)), (8, .v (vi k))], [], []⟩) 0 ⟨by omega, by simp⟩ ?_
    rintro k ⟨hk, hall⟩
    by_cases hlt : k < l.length
    · obtain ⟨y, hy, -, -⟩ := drop_at hlt
      by_cases hxy : x = y
      · refine runW hy ?_
        exact fin (vi_eq (ix_at (p := fun n => decide (x = n)) hall hy (by simp [hxy])))
      · refine runW hy ?_
        exact round (k + 1) ⟨by omega, take_snoc (q := fun n : Int => decide (x = n) = false) hall hy (by simp [hxy])⟩ (by omega)
    · refine run ?_
      exact fin (vi_eq (ix_none (p := fun n => decide (x = n)) hall hlt))
  refine den_of_body follows (fun args w => Tryz.call17 args w) Tryz.func17 rfl 9 rfl ?_
  refine run ?_
  refine call h0 ?_
  refine run ?_
  exact fin (vb_eq (ix_ge _ l))

theorem den_Cov1 (h : Hld) (f : Fil) : Den Tryz.prog T 39 [.row h.cs, .row f.cs] (vb (decide (h.obj = f.id))) := by
  refine den_of_body follows (fun args w => Tryz.call39 args w) Tryz.func39 rfl 8 rfl ?_
  refine run ?_
  exact fin rfl
theorem den_Cov2 (L : LibC T) (os : List Ofc) (h : Hld) (f : Fil) (d : Int) (ho : FitsO os) : Den Tryz.prog T 40 [.row [ofcs os], .row f.cs, .row [vi d], .row h.cs] (vb ((chain os f.ofc d).any fun y => decide (h.obj = y))) := by
  refine den_of_body follows (fun args w => Tryz.call40 args w) Tryz.func40 rfl 13 rfl ?_
  refine run ?_
  refine call (den_Chain L os f.ofc d ho).den ?_
  refine run ?_
  refine call (den_hasInt2 _ h.obj (chain_len os f.ofc d)) ?_
  refine run ?_
  exact fin rfl
theorem den_Cov3 (L : LibC T) (ps : List Plan) (h : Hld) (f : Fil) (d : Int) (hp : Fits ps) (hf : f.Fit) (hh : h.Fit) : Den Tryz.prog T 42 [.row [plans ps], .row f.cs, .row [vi d], .row h.cs] (vb (decide ((classR ps f d).2 = 0) && within (classR ps f d).1 h.cls)) := by
  have hcl := classR_len hp hf d
  refine den_of_body follows (fun args w => Tryz.call42 args w) Tryz.func42 rfl 22 rfl ?_
  refine run ?_
  refine call (den_Class L ps f d hp hf) ?_
  by_cases hz : (classR ps f d).2 = 0
  · refine run ?_
    refine call (den_Within L _ h.cls hcl hh.1) ?_
    refine run ?_
    refine fin (vb_eq ?_)
    first | rfl | (simp [hz]; done) | trace_state
  · refine run ?_
    refine fin (vb_eq ?_)
    first | rfl | (simp [hz]; done) | trace_state

set_option maxRecDepth 100000 in
theorem den_Covers (L : LibC T) (os : List Ofc) (ps : List Plan) (h : Hld) (f : Fil) (d : Int) (ho : FitsO os) (hp : Fits ps) (hh : h.Fit) (hf : f.Fit) :
    Den Tryz.prog T 12 [ofcs os, plans ps, .agg h.cs, .agg f.cs, vi d] (vb (covers os ps h f d)) := by
  refine den_of_body follows (fun args w => Tryz.call12 args w) Tryz.func12 rfl 43 rfl ?_
  by_cases h1 : d < h.frm
  · rw [covers_out (by simp [inS]; omega)]
    refine run ?_
    exact fin rfl
  by_cases h2 : h.til ≤ d
  · rw [covers_out (by simp [inS]; omega)]
    refine run ?_
    exact fin rfl
  rw [covers_in (by simp [inS]; omega)]
  by_cases k0 : h.kind ≤ 0
  · rw [kindB_0 (by omega) (by omega) (by omega)]
    refine run ?_
    exact fin rfl
  by_cases k4 : 4 ≤ h.kind
  · rw [kindB_0 (by omega) (by omega) (by omega)]
    refine run ?_
    exact fin rfl
  by_cases k1 : h.kind = 1
  · rw [kindB_1 k1]
    refine runW k1 ?_
    refine call (den_Cov1 h f) ?_
    refine run ?_
    exact fin rfl
  by_cases k2 : h.kind = 2
  · rw [kindB_2 k2]
    refine runW k2 ?_
    refine call (den_Cov2 L os h f d ho) ?_
    refine run ?_
    exact fin rfl
  have k3 : h.kind = 3 := by omega
  rw [kindB_3 k3]
  refine runW k3 ?_
  refine call (den_Cov3 L ps h f d hp hf hh) ?_
  refine run ?_
  exact fin rfl

theorem den_CoversRef (os : List Ofc) (ps : List Plan) (h : Hld) (f : Fil) (d : Int) (ho : FitsO os) (hp : Fits ps) (hh : h.Fit) (hf : f.Fit) :
    Den Tryz.prog T 13 [ofcs os, plans ps, .agg h.cs, .agg f.cs, vi d] (vb (covers os ps h f d)) := by
  have hcl := classR_len hp hf d
  refine den_of_body follows (fun args w => Tryz.call13 args w) Tryz.func13 rfl 72 rfl ?_
  refine run ?_
  refine call (den_In04 h.frm h.til d) ?_
  cases hin : inS h.frm h.til d
  · rw [covers_out hin]
    refine run ?_
    exact fin rfl
  rw [covers_in hin]
  by_cases k1 : h.kind = 1
  · rw [kindB_1 k1]
    refine run ?_
    exact fin rfl
  by_cases k2 : h.kind = 2
  · rw [kindB_2 k2]
    refine run ?_
    refine callO (den_ChainRef os f.ofc d ho) ?_
    have hcn := chain_len os f.ofc d
    generalize chain os f.ofc d = C at hcn
    refine run ?_
    refine loop ⟨[7, 11, 12], [7], [], []⟩ (fun k : Nat => k ≤ C.length ∧ ∀ y ∈ C.take k, decide (h.obj = y) = false) (fun k => C.length - k)
      (fun k => ⟨72, [(7, .p 7 0), (11, .v (ints C)), (12, .v (vi k))], [(7, .var h.cs)], []⟩) 0 ⟨by omega, by simp⟩ ?_
    rintro k ⟨hk, hall⟩
    by_cases hlt : k < C.length
    · obtain ⟨y, hy, -, -⟩ := drop_at hlt
      by_cases hxy : y = h.obj
      · rw [any_at hy (by simp [hxy])]
        refine runW hy ?_
        exact fin rfl
      · refine runW hy ?_
        exact round (k + 1) ⟨by omega, take_snoc (q := fun y : Int => decide (h.obj = y) = false) hall hy (by simp; exact fun e => hxy e.symm)⟩ (by omega)
    · rw [any_end hall hlt]
      refine run ?_
      exact fin rfl
  by_cases k3 : h.kind = 3
  · rw [kindB_3 k3]
    refine run ?_
    refine call (den_GoodL ps hp) ?_
    cases hg : goodL ps
    · rw [classR_1 hg]
      refine run ?_
      exact fin rfl
    · refine run ?_
      refine call (den_ClassOn ps f d hp hf hg) ?_
      by_cases hz : (classR ps f d).2 = 0
      · refine run ?_
        refine call (den_WithinRef _ h.cls hcl hh.1) ?_
        refine run ?_
        refine fin (vb_eq ?_)
        first | rfl | (simp [hz]; done) | trace_state
      · refine run ?_
        refine fin (vb_eq ?_)
        first | rfl | (simp [hz]; done) | trace_state
  · rw [kindB_0 k1 k2 k3]
    refine run ?_
    exact fin rfl
end Go.Arc
