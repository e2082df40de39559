/-
  Contracts of functions of the program, each by a walk through its code, for all arguments within the bounds that the statements name.
-/
import Derived.Test.YteedjclogdckhaaGreatDoorW42
namespace Go.Arc
open Go.Ab Go.RowKit Go.Proofs
variable {T : Lay}

/-! what holds a file, what a hold covers -/
theorem hold_snoc (os : List Ofc) (ps : List Plan) (f : Fil) (d : Int) {l : List Hld} {k : Nat} {h : Hld} (hk : l[k]? = some h) :
    holding os ps (l.take (k + 1)) f d = holding os ps (l.take k) f d ++ (if covers os ps h f d = true then [h.id] else []) := by
  unfold holding
  rw [List.take_add_one, hk]
  simp only [Option.toList_some, List.filter_append, List.map_append, List.filter_cons, List.filter_nil]
  split <;> rfl
theorem cov_snoc (os : List Ofc) (ps : List Plan) (h : Hld) (d : Int) {l : List Fil} {k : Nat} {f : Fil} (hk : l[k]? = some f) :
    covered os ps h (l.take (k + 1)) d = covered os ps h (l.take k) d ++ (if covers os ps h f d = true then [f.id] else []) := by
  unfold covered
  rw [List.take_add_one, hk]
  simp only [Option.toList_some, List.filter_append, List.map_append, List.filter_cons, List.filter_nil]
  split <;> rfl
theorem hold_len (os : List Ofc) (ps : List Plan) (l : List Hld) (f : Fil) (d : Int) : (holding os ps l f d).length ≤ l.length := by
  unfold holding; rw [List.length_map]; exact List.length_filter_le _ _
theorem cov_len (os : List Ofc) (ps : List Plan) (h : Hld) (l : List Fil) (d : Int) : (covered os ps h l d).length ≤ l.length := by
  unfold covered; rw [List.length_map]; exact List.length_filter_le _ _

theorem den_Holding (L : LibC T) (os : List Ofc) (ps : List Plan) (l : List Hld) (f : Fil) (d : Int) (ho : FitsO os) (hp : Fits ps) (hl : FitsH l) (hf : f.Fit) :
    DenO Tryz.prog T 18 [ofcs os, plans ps, hlds l, .agg f.cs, vi d] 3 (ints (holding os ps l f d)) := by
  have hl0 := hl.1
  refine denO_of_body follows (fun args w => Tryz.call18 args w) Tryz.func18 rfl 33 rfl ?_
  refine run ?_
  refine loop ⟨[0, 1, 4, 8, 11, 14, 15, 16], [8], [11], [(11, 3, 1)]⟩ (fun y : Nat × List Int => y.1 ≤ l.length ∧ y.2.length ≤ y.1 ∧ y.2 = holding os ps (l.take y.1) f d) (fun y => l.length - y.1)
    (fun y => ⟨33, [(0, .v (ofcs os)), (1, .v (plans ps)), (4, .v (vi d)), (8, .p 8 0), (11, .v (ints y.2)), (14, .v (hlds l)), (15, .v (vi l.length)), (16, .v (vi y.1))], [(8, .var f.cs)], [(3, [11])]⟩) (0, []) ⟨by omega, by simp, by simp [holding]⟩ ?_
  rintro ⟨k, out⟩ ⟨hk, hlen, ho'⟩
  simp only at hk hlen ho'
  by_cases hlt : k < l.length
  · obtain ⟨h, hh, -, hm⟩ := drop_at hlt
    have hsn := hold_snoc os ps f d hh
    rw [← ho'] at hsn
    refine runW hh ?_
    refine call (den_Covers L os ps h f d ho hp (hl.2 h hm) hf) ?_
    cases hc : covers os ps h f d
    · rw [hc] at hsn
      refine run ?_
      exact round (k + 1, out) ⟨by simp only; omega, by simp only; omega, by simp only; rw [hsn]; simp⟩ (by simp only; omega)
    · rw [hc] at hsn
      have hap : out.map Cint ++ [[V.val (.int .i64 h.id)]] = (out ++ [h.id]).map Cint := by simp
      refine runW hap ?_
      exact round (k + 1, out ++ [h.id]) ⟨by simp only; omega, by simp; omega, by simp only; rw [hsn]; simp⟩ (by simp only; omega)
  · refine run ?_
    refine finO (.of ?_)
    rw [ho', List.take_of_length_le (by omega)]
theorem den_Covered (L : LibC T) (os : List Ofc) (ps : List Plan) (h : Hld) (l : List Fil) (d : Int) (ho : FitsO os) (hp : Fits ps) (hh : h.Fit) (hl : FitsF l) :
    DenO Tryz.prog T 16 [ofcs os, plans ps, .agg h.cs, fils l, vi d] 3 (ints (covered os ps h l d)) := by
  have hl0 := hl.1
  refine denO_of_body follows (fun args w => Tryz.call16 args w) Tryz.func16 rfl 33 rfl ?_
  refine run ?_
  refine loop ⟨[0, 1, 4, 7, 11, 14, 15, 16], [7], [11], [(11, 3, 1)]⟩ (fun y : Nat × List Int => y.1 ≤ l.length ∧ y.2.length ≤ y.1 ∧ y.2 = covered os ps h (l.take y.1) d) (fun y => l.length - y.1)
    (fun y => ⟨33, [(0, .v (ofcs os)), (1, .v (plans ps)), (4, .v (vi d)), (7, .p 7 0), (11, .v (ints y.2)), (14, .v (fils l)), (15, .v (vi l.length)), (16, .v (vi y.1))], [(7, .var h.cs)], [(3, [11])]⟩) (0, []) ⟨by omega, by simp, by simp [covered]⟩ ?_
  rintro ⟨k, out⟩ ⟨hk, hlen, ho'⟩
  simp only at hk hlen ho'
  by_cases hlt : k < l.length
  · obtain ⟨f, hf, -, hm⟩ := drop_at hlt
    have hsn := cov_snoc os ps h d hf
    rw [← ho'] at hsn
    refine runW hf ?_
    refine call (den_Covers L os ps h f d ho hp hh (hl.2 f hm)) ?_
    cases hc : covers os ps h f d
    · rw [hc] at hsn
      refine run ?_
      exact round (k + 1, out) ⟨by simp only; omega, by simp only; omega, by simp only; rw [hsn]; simp⟩ (by simp only; omega)
    · rw [hc] at hsn
      have hap : out.map Cint ++ [[V.val (.int .i64 f.id)]] = (out ++ [f.id]).map Cint := by simp
      refine runW hap ?_
      exact round (k + 1, out ++ [f.id]) ⟨by simp only; omega, by simp; omega, by simp only; rw [hsn]; simp⟩ (by simp only; omega)
  · refine run ?_
    refine finO (.of ?_)
    rw [ho', List.take_of_length_le (by omega)]
theorem den_HoldingRef (os : List Ofc) (ps : List Plan) (l : List Hld) (f : Fil) (d : Int) (ho : FitsO os) (hp : Fits ps) (hl : FitsH l) (hf : f.Fit) :
    DenO Tryz.prog T 23 [ofcs os, plans ps, hlds l, .agg f.cs, vi d] 3 (ints (holding os ps l f d)) := by
  have hl0 := hl.1
  refine denO_of_body follows (fun args w => Tryz.call23 args w) Tryz.func23 rfl 38 rfl ?_
  refine run ?_
  refine loop ⟨[0, 1, 2, 4, 8, 11, 12], [8], [11], []⟩ (fun y : Nat × List Int => y.1 ≤ l.length ∧ y.2.length ≤ y.1 ∧ y.2 = holding os ps (l.take y.1) f d) (fun y => l.length - y.1)
    (fun y => ⟨38, [(0, .v (ofcs os)), (1, .v (plans ps)), (2, .v (hlds l)), (4, .v (vi d)), (8, .p 8 0), (11, .v (ints y.2)), (12, .v (vi y.1))], [(8, .var f.cs)], [(3, [11])]⟩) (0, []) ⟨by omega, by simp, by simp [holding]⟩ ?_
  rintro ⟨k, out⟩ ⟨hk, hlen, ho'⟩
  simp only at hk hlen ho'
  by_cases hlt : k < l.length
  · obtain ⟨h, hh, -, hm⟩ := drop_at hlt
    have hsn := hold_snoc os ps f d hh
    rw [← ho'] at hsn
    refine runW hh ?_
    refine call (den_CoversRef os ps h f d ho hp (hl.2 h hm) hf) ?_
    cases hc : covers os ps h f d
    · rw [hc] at hsn
      refine run ?_
      exact round (k + 1, out) ⟨by simp only; omega, by simp only; omega, by simp only; rw [hsn]; simp⟩ (by simp only; omega)
    · rw [hc] at hsn
      have hap : out.map Cint ++ [[V.val (.int .i64 h.id)]] = (out ++ [h.id]).map Cint := by simp
      refine runW (And.intro hh hap) ?_
      exact round (k + 1, out ++ [h.id]) ⟨by simp only; omega, by simp; omega, by simp only; rw [hsn]; simp⟩ (by simp only; omega)
  · refine run ?_
    refine finO (.of ?_)
    rw [ho', List.take_of_length_le (by omega)]
theorem den_CoveredRef (os : List Ofc) (ps : List Plan) (h : Hld) (l : List Fil) (d : Int) (ho : FitsO os) (hp : Fits ps) (hh : h.Fit) (hl : FitsF l) :
    DenO Tryz.prog T 24 [ofcs os, plans ps, .agg h.cs, fils l, vi d] 3 (ints (covered os ps h l d)) := by
  have hl0 := hl.1
  refine denO_of_body follows (fun args w => Tryz.call24 args w) Tryz.func24 rfl 38 rfl ?_
  refine run ?_
  refine loop ⟨[0, 1, 3, 4, 7, 11, 12], [7], [11], []⟩ (fun y : Nat × List Int => y.1 ≤ l.length ∧ y.2.length ≤ y.1 ∧ y.2 = covered os ps h (l.take y.1) d) (fun y => l.length - y.1)
    (fun y => ⟨38, [(0, .v (ofcs os)), (1, .v (plans ps)), (3, .v (fils l)), (4, .v (vi d)), (7, .p 7 0), (11, .v (ints y.2)), (12, .v (vi y.1))], [(7, .var h.cs)], [(3, [11])]⟩) (0, []) ⟨by omega, by simp, by simp [covered]⟩ ?_
  rintro ⟨k, out⟩ ⟨hk, hlen, ho'⟩
  simp only at hk hlen ho'
  by_cases hlt : k < l.length
  · obtain ⟨f, hf, -, hm⟩ := drop_at hlt
    have hsn := cov_snoc os ps h d hf
    rw [← ho'] at hsn
    refine runW hf ?_
    refine call (den_CoversRef os ps h f d ho hp hh (hl.2 f hm)) ?_
    cases hc : covers os ps h f d
    · rw [hc] at hsn
      refine run ?_
      exact round (k + 1, out) ⟨by simp only; omega, by simp only; omega, by simp only; rw [hsn]; simp⟩ (by simp only; omega)
    · rw [hc] at hsn
      have hap : out.map Cint ++ [[V.val (.int .i64 f.id)]] = (out ++ [f.id]).map Cint := by simp
      refine runW (And.intro hf hap) ?_
      exact round (k + 1, out ++ [f.id]) ⟨by simp only; omega, by simp; omega, by simp only; rw [hsn]; simp⟩ (by simp only; omega)
  · refine run ?_
    refine finO (.of ?_)
    rw [ho', List.take_of_length_le (by omega)]

theorem den_eqInts (a b : List Int) (ha : a.length ≤ 1048576) : Den Tryz.prog T 19 [ints a, ints b] (vb (decide (a = b))) := by
  refine den_of_body follows (fun args w => Tryz.call19 args w) Tryz.func19 rfl 26 rfl ?_
  by_cases hl : a.length = b.length
  · refine run ?_
    refine loop ⟨[0, 1, 12, 13], [], [], []⟩ (fun k : Nat => k ≤ a.length ∧ (a = b ↔ a.drop k = b.drop k)) (fun k => a.length - k)
      (fun k => ⟨26, [(0, .v (ints a)), (1, .v (ints b)), (12, .v (vi a.length)), (13, .v (vi k))], [], []⟩) 0 ⟨by omega, by simp⟩ ?_
    rintro k ⟨hk, hall⟩
    by_cases hlt : k < a.length
    · obtain ⟨x, hx, hd, -⟩ := drop_at hlt
      obtain ⟨y, hy, he, -⟩ := drop_at (l := b) (k := k) (by omega)
      by_cases hxy : x = y
      · subst hxy
        refine runW (And.intro hx hy) ?_
        exact round (k + 1) ⟨by omega, by rw [hall, eq_drop hd he]; simp⟩ (by omega)
      · refine runW (And.intro hx hy) ?_
        refine fin (vb_eq ?_)
        symm
        rw [decide_eq_false_iff_not, hall, eq_drop hd he]
        simp [hxy]
    · refine run ?_
      refine fin (vb_eq ?_)
      symm; rw [decide_eq_true_iff, hall, drop_end hlt, drop_end (l := b) (by omega)]
  · refine run ?_
    refine fin (vb_eq ?_)
    symm; rw [decide_eq_false_iff_not]; intro h; exact hl (by rw [h])
theorem den_sameInts (a b : List Int) (ha : a.length ≤ 1048576) : Den Tryz.prog T 22 [ints a, ints b] (vb (decide (a = b))) := by
  refine den_of_body follows (fun args w => Tryz.call22 args w) Tryz.func22 rfl 26 rfl ?_
  by_cases hl : a.length = b.length
  · refine run ?_
    refine loop ⟨[0, 1, 5], [], [], []⟩ (fun k : Nat => k ≤ a.length ∧ (a = b ↔ a.drop k = b.drop k)) (fun k => a.length - k)
      (fun k => ⟨26, [(0, .v (ints a)), (1, .v (ints b)), (5, .v (vi k))], [], []⟩) 0 ⟨by omega, by simp⟩ ?_
    rintro k ⟨hk, hall⟩
    by_cases hlt : k < a.length
    · obtain ⟨x, hx, hd, -⟩ := drop_at hlt
      obtain ⟨y, hy, he, -⟩ := drop_at (l := b) (k := k) (by omega)
      by_cases hxy : x = y
      · subst hxy
        refine runW (And.intro hx hy) ?_
        exact round (k + 1) ⟨by omega, by rw [hall, eq_drop hd he]; simp⟩ (by omega)
      · refine runW (And.intro hx hy) ?_
        refine fin (vb_eq ?_)
        symm
        rw [decide_eq_false_iff_not, hall, eq_drop hd he]
        simp [hxy]
    · refine run ?_
      refine fin (vb_eq ?_)
      symm; rw [decide_eq_true_iff, hall, drop_end hlt, drop_end (l := b) (by omega)]
  · refine run ?_
    refine fin (vb_eq ?_)
    symm; rw [decide_eq_false_iff_not]; intro h; exact hl (by rw [h])

/-! few -/
def fewH1 (h : Hld) : Bool := !(decide (100 < h.cls.length) || decide (100 < h.why.length))
def fewH (l : List Hld) : Bool := !((decide (12 < l.length) && decide (l.length ≤ 64)) || decide (69 < l.length)) && l.all fewH1
theorem den_FewH2 (l : List Hld) (hl0 : l.length ≤ 2097152) (hl : ∀ h ∈ l, h.Fit) : Den Tryz.prog T 25 [hlds l] (vb (fewH l)) := by
  refine den_of_body follows (fun args w => Tryz.call25 args w) Tryz.func25 rfl 39 rfl ?_
  by_cases g : (12 < l.length ∧ l.length ≤ 64) ∨ 69 < l.length
  · have hf : fewH l = false := by
      rcases g with ⟨g1, g2⟩ | g
      · simp [fewH, g1, g2]
      · simp [fewH, g]
    rw [hf]
    by_cases a1 : l.length ≤ 64
    · have a2 : 12 < l.length := by omega
      refine run ?_
      exact fin rfl
    · have a2 : 12 < l.length := by omega
      have a3 : 69 < l.length := by omega
      refine run ?_
      exact fin rfl
  · have hq : fewH l = l.all fewH1 := by
      have e1 : (decide (12 < l.length) && decide (l.length ≤ 64)) = false := by
        cases e : decide (12 < l.length)
        · rfl
        · have : 12 < l.length := by simpa using e
          simp; omega
      have e2 : decide (69 < l.length) = false := by simp; omega
      simp only [fewH, e1, e2, Bool.or_false, Bool.not_false, Bool.true_and]
    have go : ∀ Q : Prop, (12 < l.length → ¬ l.length ≤ 64 → Q) → (¬ 12 < l.length → Q) → Q := fun Q a b => by
      by_cases a1 : 12 < l.length
      · exact a a1 (by omega)
      · exact b a1
    rw [hq]
    have a3 : ¬ 69 < l.length := by omega
    refine go _ (fun a1 a2 => ?_) (fun a1 => ?_) <;>
    · refine run ?_
      refine loop ⟨[0, 3], [], [], []⟩ (fun k : Nat => k ≤ l.length ∧ ∀ p ∈ l.take k, fewH1 p = true) (fun k => l.length - k)
        (fun k => ⟨39, [(0, .v (hlds l)), (3, .v (vi k))], [], []⟩) 0 ⟨by omega, by simp⟩ ?_
      rintro k ⟨hk, hall⟩
      by_cases hlt : k < l.length
      · obtain ⟨x, hx, hd, hm⟩ := drop_at hlt
        obtain ⟨f1, f2⟩ := hl x hm
        by_cases g1 : 100 < x.cls.length
        · refine runW hx ?_
          refine fin (vb_eq ?_)
          rw [all_at hx (by simp [fewH1, g1])]
        by_cases g2 : 100 < x.why.length
        · refine runW hx ?_
          refine fin (vb_eq ?_)
          rw [all_at hx (by simp [fewH1, g2])]
        refine runW hx ?_
        exact round (k + 1) ⟨by omega, take_snoc (q := fun p : Hld => fewH1 p = true) hall hx (by simp [fewH1, g1, g2])⟩ (by omega)
      · refine run ?_
        refine fin (vb_eq ?_)
        rw [all_end hall hlt]
theorem den_FewH (l : List Hld) (hl : FitsH l) : Den Tryz.prog T 25 [hlds l] (vb (fewH l)) := den_FewH2 l (Nat.le_trans hl.1 (by decide)) hl.2
def few10 (os : List Ofc) (ps : List Plan) (l : List Hld) (fs : List Fil) : Bool := fewO os && few ps && fewH l && fewF fs
theorem den_few102 (os : List Ofc) (ps : List Plan) (l : List Hld) (fs : List Fil) (ho : FitsO os) (hp : Fits ps) (hl0 : l.length ≤ 2097152) (hl : ∀ h ∈ l, h.Fit) (hf0 : fs.length ≤ 2097152) (hf : ∀ f ∈ fs, f.Fit) :
    Den Tryz.prog T 11 [ofcs os, plans ps, hlds l, fils fs] (vb (few10 os ps l fs)) := by
  refine den_of_body follows (fun args w => Tryz.call11 args w) Tryz.func11 rfl 23 rfl ?_
  unfold few10
  refine run ?_
  refine call (den_FewO os ho) ?_
  cases fewO os
  · refine run ?_
    exact fin rfl
  refine run ?_
  refine call (den_Few ps hp) ?_
  cases few ps
  · refine run ?_
    exact fin rfl
  refine run ?_
  refine call (den_FewH2 l hl0 hl) ?_
  cases fewH l
  · refine run ?_
    exact fin rfl
  refine run ?_
  refine call (den_FewF2 fs hf0 hf) ?_
  refine run ?_
  exact fin rfl
theorem den_few10 (os : List Ofc) (ps : List Plan) (l : List Hld) (fs : List Fil) (ho : FitsO os) (hp : Fits ps) (hl : FitsH l) (hf : FitsF fs) :
    Den Tryz.prog T 11 [ofcs os, plans ps, hlds l, fils fs] (vb (few10 os ps l fs)) := den_few102 os ps l fs ho hp (Nat.le_trans hl.1 (by decide)) hl.2 (Nat.le_trans hf.1 (by decide)) hf.2
theorem fitH1 {h : Hld} (hh : h.Fit) : FitsH [h] := ⟨by simp, fun x hx => by simp at hx; subst hx; exact hh⟩
end Go.Arc
