/-
  Contracts of functions of the program, each by a walk through its code, for all arguments within the bounds that the statements name.
-/
import Derived.Test.YteedjclogdckhaaGreatDoorPl10
import Derived.Test.YteedjclogdckhaaGreatDoorW32
import Derived.Test.YteedjclogdckhaaGreatDoorW20
namespace Go.Arc
open Go.Ab Go.RowKit Go.Proofs
variable {T : Lay}

/-! chains of offices -/
theorem inS_two (f u d : Int) : inS f u d = (decide (f ≤ d) && decide (d < u)) := by simp [inS]
theorem den_inO (o : Ofc) (d : Int) : Den Tryz.prog T 67 [.agg o.cs, vi d] (vb (inS o.frm o.til d)) := by
  refine den_of_body follows (fun args w => Tryz.call67 args w) Tryz.func67 rfl 17 rfl ?_
  rw [inS_two]
  by_cases h1 : o.frm ≤ d
  · refine run ?_
    exact fin (vb_eq (by first | rfl | simp [h1]))
  · refine run ?_
    exact fin (vb_eq (by first | rfl | simp [h1]))
abbrev knownV (l : List Ofc) (n : Int) : V := if goodO l = true ∧ (lookO l n).isSome = true then .tup [mapO (idxO l), vb true] else .tup [.val (.map none), vb false]
theorem den_known (L : LibC T) (l : List Ofc) (n : Int) (hl : FitsO l) : Den Tryz.prog T 68 [ofcs l, vi n] (knownV l n) := by
  have hl0 := hl.1
  refine den_of_body follows (fun args w => Tryz.call68 args w) Tryz.func68 rfl 23 rfl ?_
  refine run ?_
  refine call (den_CheckO L l hl) ?_
  by_cases g1 : (checkO l).2 = 0
  · have go : goodO l = true := by simp [goodO, g1]
    refine run ?_
    refine call (den_FindO l n hl0) ?_
    rcases findO_look l n with ⟨h1, h2⟩ | ⟨i, q, h1, h2, h3⟩
    · rw [knownV, if_neg (by simp [h2])]
      refine run ?_
      exact fin rfl
    · rw [knownV, if_pos ⟨go, by simp [h3]⟩, h1]
      refine run ?_
      refine call (den_index l hl0) ?_
      refine run ?_
      exact fin rfl
  · have go : goodO l = false := by simp [goodO, g1]
    rw [knownV, if_neg (by simp [go])]
    refine run ?_
    exact fin rfl

theorem den_Chain (L : LibC T) (l : List Ofc) (n d : Int) (hl : FitsO l) : DenO Tryz.prog T 41 [ofcs l, vi n, vi d] 3 (ints (chain l n d)) := by
  have hl0 := hl.1
  refine denO_of_body follows (fun args w => Tryz.call41 args w) Tryz.func41 rfl 44 rfl ?_
  refine run ?_
  refine call (den_known L l n hl) ?_
  by_cases hk : goodO l = true ∧ (lookO l n).isSome = true
  · obtain ⟨hg, hs⟩ := hk
    rw [knownV, if_pos ⟨hg, hs⟩]
    obtain ⟨o0, ho0⟩ := Option.isSome_iff_exists.1 hs
    rw [chain_some hg ho0]
    have hz := zip_fst_snd (entsO (idxO l))
    have hf0 := find_entsO n (idxO l)
    rw [look_idx, ho0] at hf0
    refine runW (And.intro hz (And.intro hf0 (And.intro okVal_O ofVal_O))) ?_
    have hg0 := goodO_look hg ho0
    refine loop ⟨[2, 7, 9, 10], [10], [9], [(9, 3, 1)]⟩ (fun y : Nat × List Int × Ofc => (∃ k, lookO l k = some y.2.2) ∧ y.2.1.length + y.1 = 1048577 ∧ 1048577 ≤ (y.1 : Int) + y.2.2.frm ∧ y.2.1 ++ chainF l d y.1 y.2.2 = chainF l d 1048577 o0) (fun y => y.1)
      (fun y => ⟨44, [(2, .v (vi d)), (7, .v (mapO (idxO l))), (9, .v (ints y.2.1)), (10, .p 10 0)], [(10, .var y.2.2.cs)], [(3, [9])]⟩) (1048577, [], o0) ⟨⟨n, ho0⟩, by simp, by simp only; omega, by simp⟩ ?_
    rintro ⟨m, out, o⟩ ⟨⟨k, hko⟩, hlen, hm, hch⟩
    simp only at hko hlen hm hch
    obtain ⟨q1, q2, q3, q4⟩ := goodO_look hg hko
    have hap : out.map Cint ++ [[V.val (.int .i64 o.id)]] = (out ++ [o.id]).map Cint := by simp
    refine runW hap ?_
    refine call (den_inO o d) ?_
    cases hin : inS o.frm o.til d
    · obtain ⟨nx, hnx⟩ : ∃ nx, o.nxt = nx := ⟨_, rfl⟩
      cases nx with
      | nil =>
        rw [chainF_end m (nextO_nil hnx)] at hch
        refine runW hnx ?_
        refine finO (.of ?_)
        rw [← hch]
      | cons x r =>
        obtain ⟨q, hq, hqf⟩ := q4 x (by rw [hnx]; simp)
        have hno : nextO l d o = some q := by rw [nextO_cons hin hnx]; exact hq
        obtain ⟨m', rfl⟩ : ∃ m', m = m' + 1 := ⟨m - 1, by omega⟩
        rw [chainF_next m' hno] at hch
        have hf := find_entsO x (idxO l)
        rw [look_idx, hq] at hf
        refine runW (And.intro hnx (And.intro hz (And.intro hf (And.intro okVal_O ofVal_O)))) ?_
        refine round (m', out ++ [o.id], q) ⟨⟨x, hq⟩, by simp only [List.length_append, List.length_cons, List.length_nil]; omega, by simp only; omega, ?_⟩ (by simp only; omega)
        simp only; rw [← hch]; simp
    · rw [chainF_end m (nextO_in hin)] at hch
      refine run ?_
      refine finO (.of ?_)
      rw [← hch]
  · rw [knownV, if_neg hk]
    have hc : chain l n d = [] := by
      cases hg : goodO l
      · exact chain_bad hg
      · cases hs : lookO l n with
        | none => exact chain_none hs
        | some q => exact absurd ⟨hg, by simp [hs]⟩ hk
    rw [hc]
    refine run ?_
    exact finO (.nil 1)

theorem den_ChainRef (l : List Ofc) (n d : Int) (hl : FitsO l) : DenO Tryz.prog T 46 [ofcs l, vi n, vi d] 3 (ints (chain l n d)) := by
  have hl0 := hl.1
  refine denO_of_body follows (fun args w => Tryz.call46 args w) Tryz.func46 rfl 55 rfl ?_
  refine run ?_
  refine call (den_FindORef l n hl0) ?_
  refine run ?_
  refine call (den_GoodORef l hl) ?_
  cases hg : goodO l
  · rw [chain_bad hg]
    refine run ?_
    exact finO (.refl _)
  rcases findO_look l n with ⟨h1, h2⟩ | ⟨i0, o0, h1, h2, ho0⟩
  · rw [chain_none h2]
    refine run ?_
    exact finO (.refl _)
  rw [chain_some hg ho0, h1]
  have hg0 := goodO_look hg ho0
  refine run ?_
  refine loop ⟨[0, 2, 7, 8], [], [7], []⟩ (fun y : Nat × List Int × Nat × Ofc => (∃ k, lookO l k = some y.2.2.2) ∧ l[y.2.2.1]? = some y.2.2.2 ∧ y.2.1.length + y.1 = 1048577 ∧ 1048577 ≤ (y.1 : Int) + y.2.2.2.frm ∧ y.2.1 ++ chainF l d y.1 y.2.2.2 = chainF l d 1048577 o0) (fun y => y.1)
    (fun y => ⟨55, [(0, .v (ofcs l)), (2, .v (vi d)), (7, .v (ints y.2.1)), (8, .v (vi y.2.2.1))], [], [(3, [7])]⟩) (1048577, [], i0, o0) ⟨⟨n, ho0⟩, h2, by simp, by simp only; omega, by simp⟩ ?_
  rintro ⟨m, out, i, o⟩ ⟨⟨k, hko⟩, hio, hlen, hm, hch⟩
  simp only at hko hio hlen hm hch
  obtain ⟨q1, q2, q3, q4⟩ := goodO_look hg hko
  have hap : out.map Cint ++ [[V.val (.int .i64 o.id)]] = (out ++ [o.id]).map Cint := by simp
  refine runW (And.intro hio hap) ?_
  refine call (den_In04 o.frm o.til d) ?_
  cases hin : inS o.frm o.til d
  · obtain ⟨nx, hnx⟩ : ∃ nx, o.nxt = nx := ⟨_, rfl⟩
    cases nx with
    | nil =>
      rw [chainF_end m (nextO_nil hnx)] at hch
      refine runW (And.intro hio hnx) ?_
      refine finO (.of ?_)
      rw [← hch]
    | cons x r =>
      obtain ⟨q, hq, hqf⟩ := q4 x (by rw [hnx]; simp)
      have hno : nextO l d o = some q := by rw [nextO_cons hin hnx]; exact hq
      obtain ⟨m', rfl⟩ : ∃ m', m = m' + 1 := ⟨m - 1, by omega⟩
      rw [chainF_next m' hno] at hch
      rcases findO_look l x with ⟨g1, g2⟩ | ⟨j, q', g1, g2, g3⟩
      · rw [g2] at hq; cases hq
      · rw [g3] at hq; cases hq
        refine runW (And.intro hio hnx) ?_
        refine call (den_FindORef l x hl0) ?_
        rw [g1]
        refine run ?_
        refine round (m', out ++ [o.id], j, q) ⟨⟨x, g3⟩, g2, by simp only [List.length_append, List.length_cons, List.length_nil]; omega, by simp only; omega, ?_⟩ (by simp only; omega)
        simp only; rw [← hch]; simp
  · rw [chainF_end m (nextO_in hin)] at hch
    refine run ?_
    refine finO (.of ?_)
    rw [← hch]
end Go.Arc
