/-
  Contracts of functions of the program, each by a walk through its code, for all arguments within the bounds that the statements name.
-/
import Derived.Test.YtbofgklhjjfbkaaGreatDoorW31
import Derived.Test.YtbofgklhjjfbkaaGreatDoorW12
import Derived.Test.YtbofgklhjjfbkaaGreatDoorSp9
namespace Go.Arc
open Go.Ab Go.RowKit Go.Proofs
variable {T : Lay}

theorem badO_iff (o : Ofc) : badO o ↔ (o.id < 1 ∨ 1073741824 < o.id ∨ goodS o.frm o.til = false ∨ 8 < o.nxt.length) := Iff.rfl

theorem den_faultORef (l : List Ofc) (i : Nat) (hl : FitsO l) (hi : i < l.length) : Den Tryz.prog T 109 [ofcs l, vi i] (vi (faultO l i)) := by
  obtain ⟨hl0, hf⟩ := hl
  obtain ⟨o, ho, -, hm⟩ := drop_at hi
  obtain ⟨h1, h2⟩ := id (hf o hm)
  refine den_of_body follows (fun args w => Tryz.call109 args w) Tryz.func109 rfl 50 rfl ?_
  by_cases b1 : o.id < 1
  · rw [faultO_2 ho (.inl b1)]
    refine runW ho ?_
    exact fin rfl
  by_cases b2 : 1073741824 < o.id
  · rw [faultO_2 ho (.inr (.inl b2))]
    refine runW ho ?_
    exact fin rfl
  refine runW ho ?_
  refine call (den_Good04 o.frm o.til) ?_
  cases hg : goodS o.frm o.til
  · rw [faultO_2 ho (.inr (.inr (.inl hg)))]
    refine run ?_
    exact fin rfl
  by_cases b4 : 8 < o.nxt.length
  · rw [faultO_2 ho (.inr (.inr (.inr b4)))]
    refine run ?_
    exact fin rfl
  have hb : ¬ badO o := fun h => by
    rcases h with h | h | h | h
    · exact b1 h
    · exact b2 h
    · rw [hg] at h; cases h
    · exact b4 h
  refine run ?_
  refine call (den_NameRef o.name h1) ?_
  cases hn : name o.name
  · rw [faultO_4 ho hb hn]
    refine run ?_
    exact fin rfl
  by_cases h0 : i = 0
  · subst h0
    rw [faultO_s0 ho hb hn]
    refine run ?_
    refine call (den_succRef l o hl0 (hf o hm)) ?_
    refine run ?_
    exact fin rfl
  · obtain ⟨q, hq, -, -⟩ := drop_at (l := l) (k := i - 1) (by omega)
    by_cases hle : o.id ≤ q.id
    · rw [faultO_5 ho hb hn h0 hq hle]
      refine runW hq ?_
      exact fin rfl
    · rw [faultO_s ho hb hn h0 hq hle]
      refine runW hq ?_
      refine call (den_succRef l o hl0 (hf o hm)) ?_
      refine run ?_
      exact fin rfl
theorem den_CheckORef (l : List Ofc) (hl : FitsO l) : Den Tryz.prog T 82 [ofcs l] (chkV (checkO l)) := by
  have hl0 := hl.1
  refine den_of_body follows (fun args w => Tryz.call82 args w) Tryz.func82 rfl 22 rfl ?_
  by_cases h16 : 32 < l.length
  · refine run ?_
    refine fin ?_
    simp only [chkV, checkO, chk_many h16]
  refine run ?_
  refine loop ⟨[0, 4], [], [], []⟩ (fun k : Nat => k ≤ l.length ∧ ∀ i, i < k → faultO l i = 0) (fun k => l.length - k)
    (fun k => ⟨22, [(0, .v (ofcs l)), (4, .v (vi k))], [], []⟩) 0 ⟨by omega, by omega⟩ ?_
  rintro k ⟨hk, hall⟩
  by_cases hlt : k < l.length
  · refine run ?_
    refine call (den_faultORef l k hl hlt) ?_
    by_cases hz : faultO l k = 0
    · refine run ?_
      refine round (k + 1) ⟨by omega, fun i hi => ?_⟩ (by omega)
      by_cases e : i = k
      · rw [e]; exact hz
      · exact hall i (by omega)
    · refine run ?_
      refine fin ?_
      simp only [chkV, checkO, chk_bad h16 hlt hall hz]
  · refine run ?_
    refine fin ?_
    simp only [chkV, checkO, chk_ok h16 fun i hi => hall i (by omega)]
theorem den_GoodORef (l : List Ofc) (hl : FitsO l) : Den Tryz.prog T 60 [ofcs l] (vb (goodO l)) := by
  refine den_of_body follows (fun args w => Tryz.call60 args w) Tryz.func60 rfl 12 rfl ?_
  refine run ?_
  refine call (den_CheckORef l hl) ?_
  refine run ?_
  exact fin (vb_eq rfl)

set_option maxRecDepth 100000 in
theorem den_CheckO (L : LibC T) (l : List Ofc) (hl : FitsO l) : Den Tryz.prog T 58 [ofcs l] (chkV (checkO l)) := by
  have hl0 := hl.1
  refine den_of_body follows (fun args w => Tryz.call58 args w) Tryz.func58 rfl 71 rfl ?_
  by_cases h16 : 32 < l.length
  · refine run ?_
    refine fin ?_
    simp only [chkV, checkO, chk_many h16]
  refine run ?_
  refine call (den_index l hl0) ?_
  refine run ?_
  refine loop ⟨[0, 4, 13, 14, 15], [], [], []⟩ (fun k : Nat => k ≤ l.length ∧ ∀ i, i < k → faultO l i = 0) (fun k => l.length - k)
    (fun k => ⟨71, [(0, .v (ofcs l)), (4, .v (mapO (idxO l))), (13, .v (ofcs l)), (14, .v (vi l.length)), (15, .v (vi k))], [], []⟩) 0 ⟨by omega, by omega⟩ ?_
  rintro k ⟨hk, hall⟩
  by_cases hlt : k < l.length
  · obtain ⟨o, ho, -, hm⟩ := drop_at hlt
    have hof := hl.2 o hm
    obtain ⟨h1, h2⟩ := id hof
    have out : ∀ e : Int, faultO l k = e → e ≠ 0 → chkV (checkO l) = .tup [vi k, vi e] := fun e he hne => by
      rw [checkO, chk_bad h16 hlt hall (by rw [he]; exact hne), he]
    by_cases b1 : o.id < 1
    · rw [out 2 (faultO_2 ho (.inl b1)) (by decide)]
      refine runW ho ?_
      exact fin rfl
    by_cases b2 : 1073741824 < o.id
    · rw [out 2 (faultO_2 ho (.inr (.inl b2))) (by decide)]
      refine runW ho ?_
      exact fin rfl
    refine runW ho ?_
    refine call (den_validO o.frm o.til) ?_
    cases hg : goodS o.frm o.til
    · rw [out 2 (faultO_2 ho (.inr (.inr (.inl hg)))) (by decide)]
      refine run ?_
      exact fin rfl
    by_cases b4 : 8 < o.nxt.length
    · rw [out 2 (faultO_2 ho (.inr (.inr (.inr b4)))) (by decide)]
      refine run ?_
      exact fin rfl
    have hb : ¬ badO o := fun h => by
      rcases h with h | h | h | h
      · exact b1 h
      · exact b2 h
      · rw [hg] at h; cases h
      · exact b4 h
    refine run ?_
    refine call (den_Name L o.name h1) ?_
    cases hn : name o.name
    · rw [out 4 (faultO_4 ho hb hn) (by decide)]
      refine run ?_
      exact fin rfl
    have hsi := succ_idx l o
    by_cases h0 : k = 0
    · subst h0
      have hs := faultO_s0 ho hb hn
      refine run ?_
      refine call (den_next (idxO l) o hof) ?_
      rw [hsi, ← hs]
      by_cases hz : faultO l 0 = 0
      · refine run ?_
        refine round 1 ⟨by omega, fun i hi => ?_⟩ (by omega)
        rw [show i = 0 by omega]; exact hz
      · rw [out _ rfl hz]
        refine run ?_
        exact fin rfl
    · obtain ⟨q, hq, -, -⟩ := drop_at (l := l) (k := k - 1) (by omega)
      by_cases hle : o.id ≤ q.id
      · rw [out 5 (faultO_5 ho hb hn h0 hq hle) (by decide)]
        refine runW hq ?_
        exact fin rfl
      · have hs := faultO_s ho hb hn h0 hq hle
        refine runW hq ?_
        refine call (den_next (idxO l) o hof) ?_
        rw [hsi, ← hs]
        by_cases hz : faultO l k = 0
        · refine run ?_
          refine round (k + 1) ⟨by omega, fun i hi => ?_⟩ (by omega)
          by_cases e : i = k
          · rw [e]; exact hz
          · exact hall i (by omega)
        · rw [out _ rfl hz]
          refine run ?_
          exact fin rfl
  · refine run ?_
    refine fin ?_
    simp only [chkV, checkO, chk_ok h16 fun i hi => hall i (by omega)]

/-! how much the statements speak of -/
def fewO1 (o : Ofc) : Bool := !(decide (10 < o.nxt.length) || decide (100 < o.name.length))
def fewO (l : List Ofc) : Bool := !((decide (12 < l.length) && decide (l.length ≤ 32)) || decide (37 < l.length)) && l.all fewO1
theorem den_FewO (l : List Ofc) (hl : FitsO l) : Den Tryz.prog T 28 [ofcs l] (vb (fewO l)) := by
  have hl0 := hl.1
  refine den_of_body follows (fun args w => Tryz.call28 args w) Tryz.func28 rfl 39 rfl ?_
  by_cases g : (12 < l.length ∧ l.length ≤ 32) ∨ 37 < l.length
  · have hf : fewO l = false := by
      rcases g with ⟨g1, g2⟩ | g
      · simp [fewO, g1, g2]
      · simp [fewO, g]
    rw [hf]
    by_cases a1 : l.length ≤ 32
    · have a2 : 12 < l.length := by omega
      refine run ?_
      exact fin rfl
    · have a2 : 12 < l.length := by omega
      have a3 : 37 < l.length := by omega
      refine run ?_
      exact fin rfl
  · have hq : fewO l = l.all fewO1 := by
      have e1 : (decide (12 < l.length) && decide (l.length ≤ 32)) = false := by
        cases e : decide (12 < l.length)
        · rfl
        · have : 12 < l.length := by simpa using e
          simp; omega
      have e2 : decide (37 < l.length) = false := by simp; omega
      simp only [fewO, e1, e2, Bool.or_false, Bool.not_false, Bool.true_and]
    have go : ∀ Q : Prop, (12 < l.length → ¬ l.length ≤ 32 → Q) → (¬ 12 < l.length → Q) → Q := fun Q a b => by
      by_cases a1 : 12 < l.length
      · exact a a1 (by omega)
      · exact b a1
    rw [hq]
    have a3 : ¬ 37 < l.length := by omega
    refine go _ (fun a1 a2 => ?_) (fun a1 => ?_) <;>
    · refine run ?_
      refine loop ⟨[0, 3], [], [], []⟩ (fun k : Nat => k ≤ l.length ∧ ∀ p ∈ l.take k, fewO1 p = true) (fun k => l.length - k)
        (fun k => ⟨39, [(0, .v (ofcs l)), (3, .v (vi k))], [], []⟩) 0 ⟨by omega, by simp⟩ ?_
      rintro k ⟨hk, hall⟩
      by_cases hlt : k < l.length
      · obtain ⟨x, hx, hd, hm⟩ := drop_at hlt
        obtain ⟨f1, f2⟩ := hl.2 x hm
        by_cases g1 : 10 < x.nxt.length
        · refine runW hx ?_
          refine fin (vb_eq ?_)
          rw [all_at hx (by simp [fewO1, g1])]
        by_cases g2 : 100 < x.name.length
        · refine runW hx ?_
          refine fin (vb_eq ?_)
          rw [all_at hx (by simp [fewO1, g2])]
        refine runW hx ?_
        exact round (k + 1) ⟨by omega, take_snoc (q := fun p : Ofc => fewO1 p = true) hall hx (by simp [fewO1, g1, g2])⟩ (by omega)
      · refine run ?_
        refine fin (vb_eq ?_)
        rw [all_end hall hlt]
end Go.Arc
