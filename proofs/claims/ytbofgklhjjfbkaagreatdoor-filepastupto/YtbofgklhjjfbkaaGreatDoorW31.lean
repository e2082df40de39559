/-
  Contracts of functions of the program, each by a walk through its code, for all arguments within the bounds that the statements name.
-/
import Derived.Test.YtbofgklhjjfbkaaGreatDoorW30
import Derived.Test.YtbofgklhjjfbkaaGreatDoorW3
import Derived.Test.YtbofgklhjjfbkaaGreatDoorW7
namespace Go.Arc
open Go.Ab Go.RowKit Go.Proofs
variable {T : Lay}

theorem den_next1 (es : List Ofc) (o : Ofc) (n : Int) (h : (lookO es n).isSome = true) : Den Tryz.prog T 103 [vi n, .row [mapO es], .row o.cs] (vb (!decide (frmO es n = o.til))) := by
  have hz := zip_fst_snd (entsO es)
  have hf := find_entsO n es
  cases e : lookO es n with
  | none => rw [e] at h; cases h
  | some x =>
    rw [e] at hf
    have hfr : frmO es n = x.frm := by unfold frmO; rw [e]
    rw [hfr]
    refine den_of_body follows (fun args w => Tryz.call103 args w) Tryz.func103 rfl 14 rfl ?_
    refine runW (And.intro hz (And.intro hf (And.intro okVal_O ofVal_O))) ?_
    exact fin rfl

theorem den_next (es : List Ofc) (o : Ofc) (ho : o.Fit) : Den Tryz.prog T 79 [mapO es, .agg o.cs] (vi (succErr es o)) := by
  have hn := ho.2
  have hz := zip_fst_snd (entsO es)
  refine den_of_body follows (fun args w => Tryz.call79 args w) Tryz.func79 rfl 46 rfl ?_
  refine run ?_
  refine loop ⟨[2, 3, 12, 13, 14], [2, 3], [], []⟩ (fun k : Nat => k ≤ o.nxt.length ∧ ∀ i, i < k → dupAt o.nxt i = false) (fun k => o.nxt.length - k)
    (fun k => ⟨46, [(2, .p 2 0), (3, .p 3 0), (12, .v (ints o.nxt)), (13, .v (vi o.nxt.length)), (14, .v (vi k))], [(2, .var [mapO es]), (3, .var o.cs)], []⟩) 0 ⟨by omega, by omega⟩ ?_
  rintro k ⟨hk, hall⟩
  by_cases hlt : k < o.nxt.length
  · obtain ⟨x, hx, -, -⟩ := drop_at hlt
    have htk : ((o.nxt.map Cint).take k).drop 0 = (o.nxt.take k).map Cint := by simp
    refine runW (And.intro hx htk) ?_
    refine call (den_hasInt (o.nxt.take k) x (by simp; omega)) ?_
    cases hd : (o.nxt.take k).any fun y => decide (x = y)
    · refine run ?_
      refine round (k + 1) ⟨by omega, fun i hi => ?_⟩ (by omega)
      by_cases e : i = k
      · rw [e]; exact dupAt_f hx hd
      · exact hall i (by omega)
    · have hs : succErr es o = 6 := by unfold succErr; rw [if_pos (dups_at hx hd)]
      rw [hs]
      refine run ?_
      exact fin rfl
  · have hd : dups o.nxt = false := dups_end fun i hi => hall i (by omega)
    refine run ?_
    refine loop ⟨[2, 3, 27, 28, 29], [2, 3], [], []⟩ (fun k : Nat => k ≤ o.nxt.length ∧ ∀ n ∈ o.nxt.take k, (lookO es n).isNone = false) (fun k => o.nxt.length - k)
      (fun k => ⟨46, [(2, .p 2 0), (3, .p 3 0), (27, .v (ints o.nxt)), (28, .v (vi o.nxt.length)), (29, .v (vi k))], [(2, .var [mapO es]), (3, .var o.cs)], []⟩) 0 ⟨by omega, by simp⟩ ?_
    rintro k ⟨hk, hall⟩
    by_cases hlt : k < o.nxt.length
    · obtain ⟨x, hx, -, -⟩ := drop_at hlt
      have hf := find_entsO x es
      cases e : lookO es x with
      | none =>
        rw [e] at hf
        have hs : succErr es o = 7 := by
          unfold succErr
          rw [if_neg (by simp [hd]), if_pos (any_at hx (by simp [e]))]
        rw [hs]
        refine runW (And.intro hx (And.intro hz (And.intro hf (And.intro okVal_O ofVal_O)))) ?_
        exact fin rfl
      | some y =>
        rw [e] at hf
        refine runW (And.intro hx (And.intro hz (And.intro hf (And.intro okVal_O ofVal_O)))) ?_
        exact round (k + 1) ⟨by omega, take_snoc (q := fun n : Int => (lookO es n).isNone = false) hall hx (by simp [e])⟩ (by omega)
    · have h7 : (o.nxt.any fun n => (lookO es n).isNone) = false := any_end hall hlt
      refine run ?_
      refine call (den_anyInt o.nxt _ _ (fun n => !decide (frmO es n = o.til)) hn fun n hm => den_next1 es o n ?_) ?_
      · have := List.any_eq_false.1 h7 n hm
        cases e : lookO es n <;> simp [e] at this ⊢
      · have hs : succErr es o = if (o.nxt.any fun n => !decide (frmO es n = o.til)) = true then 10 else 0 := by
          unfold succErr
          rw [if_neg (by simp [hd]), if_neg (by simp only [h7]; exact Bool.noConfusion)]
        rw [hs]
        cases o.nxt.any fun n => !decide (frmO es n = o.til)
        · refine run ?_
          exact fin rfl
        · refine run ?_
          exact fin rfl

theorem den_succRef (l : List Ofc) (o : Ofc) (hl : l.length ≤ 1048576) (ho : o.Fit) : Den Tryz.prog T 134 [ofcs l, .agg o.cs] (vi (succErr l o)) := by
  have hn := ho.2
  refine den_of_body follows (fun args w => Tryz.call134 args w) Tryz.func134 rfl 70 rfl ?_
  refine run ?_
  refine loop ⟨[0, 3, 5], [3], [], []⟩ (fun k : Nat => k ≤ o.nxt.length ∧ ∀ i, i < k → dupAt o.nxt i = false) (fun k => o.nxt.length - k)
    (fun k => ⟨70, [(0, .v (ofcs l)), (3, .p 3 0), (5, .v (vi k))], [(3, .var o.cs)], []⟩) 0 ⟨by omega, by omega⟩ ?_
  rintro k ⟨hk, hall⟩
  by_cases hlt : k < o.nxt.length
  · obtain ⟨x, hx, -, -⟩ := drop_at hlt
    refine run ?_
    refine loop ⟨[0, 3, 5, 6], [3], [], []⟩ (fun j : Nat => j ≤ k ∧ ∀ y ∈ o.nxt.take j, decide (x = y) = false) (fun j => k - j)
      (fun j => ⟨70, [(0, .v (ofcs l)), (3, .p 3 0), (5, .v (vi k)), (6, .v (vi j))], [(3, .var o.cs)], []⟩) 0 ⟨by omega, by simp⟩ ?_
    rintro j ⟨hj, hin⟩
    by_cases hjk : j < k
    · obtain ⟨y, hy, -, -⟩ := drop_at (l := o.nxt) (k := j) (by omega)
      by_cases hxy : x = y
      · subst hxy
        have hmem : (o.nxt.take k).any (fun y => decide (x = y)) = true := any_at (k := j) (by rw [List.getElem?_take, if_pos hjk]; exact hy) (by simp)
        have hs : succErr l o = 6 := by unfold succErr; rw [if_pos (dups_at hx hmem)]
        rw [hs]
        refine runW (And.intro hx hy) ?_
        exact fin rfl
      · have hyx : ¬ y = x := fun e => hxy e.symm
        refine runW (And.intro hx hy) ?_
        exact round (j + 1) ⟨by omega, take_snoc (q := fun y : Int => decide (x = y) = false) hin hy (by simp [hxy])⟩ (by omega)
    · have hd : (o.nxt.take k).any (fun y => decide (x = y)) = false := by
        have : j = k := by omega
        subst this
        rw [List.any_eq_false]; intro y hy; simp [hin y hy]
      refine run ?_
      refine round (k + 1) ⟨by omega, fun i hi => ?_⟩ (by omega)
      by_cases e : i = k
      · rw [e]; exact dupAt_f hx hd
      · exact hall i (by omega)
  · have hd : dups o.nxt = false := dups_end fun i hi => hall i (by omega)
    refine run ?_
    refine loop ⟨[0, 3, 7], [3], [], []⟩ (fun k : Nat => k ≤ o.nxt.length ∧ ∀ n ∈ o.nxt.take k, (lookO l n).isNone = false) (fun k => o.nxt.length - k)
      (fun k => ⟨70, [(0, .v (ofcs l)), (3, .p 3 0), (7, .v (vi k))], [(3, .var o.cs)], []⟩) 0 ⟨by omega, by simp⟩ ?_
    rintro k ⟨hk, hall⟩
    by_cases hlt : k < o.nxt.length
    · obtain ⟨x, hx, -, -⟩ := drop_at hlt
      refine runW hx ?_
      refine call (den_FindORef l x hl) ?_
      rcases findO_look l x with ⟨h1, h2⟩ | ⟨i, q, h1, h2, h3⟩
      · have hs : succErr l o = 7 := by
          unfold succErr
          rw [if_neg (by simp [hd]), if_pos (any_at hx (by simp [h2]))]
        rw [hs]
        refine run ?_
        exact fin rfl
      · rw [h1]
        refine run ?_
        exact round (k + 1) ⟨by omega, take_snoc (q := fun n : Int => (lookO l n).isNone = false) hall hx (by simp [h3])⟩ (by omega)
    · have h7 : (o.nxt.any fun n => (lookO l n).isNone) = false := any_end hall hlt
      have hs : succErr l o = if (o.nxt.any fun n => !decide (frmO l n = o.til)) = true then 10 else 0 := by
        unfold succErr
        rw [if_neg (by simp [hd]), if_neg (by simp only [h7]; exact Bool.noConfusion)]
      rw [hs]
      refine run ?_
      refine loop ⟨[0, 3, 8], [3], [], []⟩ (fun k : Nat => k ≤ o.nxt.length ∧ ∀ n ∈ o.nxt.take k, (!decide (frmO l n = o.til)) = false) (fun k => o.nxt.length - k)
        (fun k => ⟨70, [(0, .v (ofcs l)), (3, .p 3 0), (8, .v (vi k))], [(3, .var o.cs)], []⟩) 0 ⟨by omega, by simp⟩ ?_
      rintro k ⟨hk, hall2⟩
      by_cases hlt : k < o.nxt.length
      · obtain ⟨x, hx, -, hm⟩ := drop_at hlt
        have hx7 := List.any_eq_false.1 h7 x hm
        refine runW hx ?_
        refine call (den_FindORef l x hl) ?_
        rcases findO_look l x with ⟨h1, h2⟩ | ⟨i, q, h1, h2, h3⟩
        · simp [h2] at hx7
        · have hfr : frmO l x = q.frm := by unfold frmO; rw [h3]
          rw [h1]
          by_cases he : q.frm = o.til
          · refine runW h2 ?_
            exact round (k + 1) ⟨by omega, take_snoc (q := fun n : Int => (!decide (frmO l n = o.til)) = false) hall2 hx (by simp [hfr, he])⟩ (by omega)
          · rw [if_pos (any_at hx (by simp [hfr, he]))]
            refine runW h2 ?_
            exact fin rfl
      · rw [if_neg (by rw [any_end hall2 hlt]; exact Bool.noConfusion)]
        refine run ?_
        exact fin rfl
end Go.Arc
