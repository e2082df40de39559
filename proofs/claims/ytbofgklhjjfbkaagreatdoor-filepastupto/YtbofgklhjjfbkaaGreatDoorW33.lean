/-
  Contracts of functions of the program, each by a walk through its code, for all arguments within the bounds that the statements name.
-/
import Derived.Test.YtbofgklhjjfbkaaGreatDoorW32
import Derived.Test.YtbofgklhjjfbkaaGreatDoorW21
namespace Go.Arc
open Go.Ab Go.RowKit Go.Proofs
variable {T : Lay}

theorem den_isDayF (d f : Int) : Den Tryz.prog T 67 [vi d, vi f] (vb (dayB d f)) := by
  refine den_of_body follows (fun args w => Tryz.call67 args w) Tryz.func67 rfl 12 rfl ?_
  unfold dayB
  by_cases h1 : f ≤ d <;> by_cases h2 : d ≤ 1048575 <;> (refine run ?_; refine fin (vb_eq ?_); simp; try omega)
theorem den_withinF (n a b : Int) : Den Tryz.prog T 83 [vi n, vi a, vi b] (vb (decide (a ≤ n ∧ n ≤ b))) := by
  refine den_of_body follows (fun args w => Tryz.call83 args w) Tryz.func83 rfl 15 rfl ?_
  by_cases h1 : a ≤ n <;> by_cases h2 : n ≤ b <;> (refine run ?_; refine fin (vb_eq ?_); simp; try omega)
theorem den_free (L : LibC T) (s : Str) (hs : s.length ≤ 1048576) : Den Tryz.prog T 64 [.str s] (vb (freeN s)) := by
  refine den_of_body follows (fun args w => Tryz.call64 args w) Tryz.func64 rfl 13 rfl ?_
  refine run ?_
  refine call (den_Name L s hs) ?_
  cases hn : name s
  · refine run ?_
    refine fin (vb_eq ?_); simp [freeN, hn]
  · cases h1 : s == [111, 112, 101, 110, 101, 100]
    · refine runW h1 ?_
      refine fin (vb_eq ?_); simp [freeN, hn, h1]
    · refine runW h1 ?_
      refine fin (vb_eq ?_); simp [freeN, hn, h1]
theorem den_event (s : Str) (hs : s.length ≤ 1048576) : Den Tryz.prog T 110 [.str s] (vb (freeN s)) := by
  refine den_of_body follows (fun args w => Tryz.call110 args w) Tryz.func110 rfl 13 rfl ?_
  refine run ?_
  refine call (den_NameRef s hs) ?_
  cases hn : name s
  · refine run ?_
    refine fin (vb_eq ?_); simp [freeN, hn]
  · cases h1 : s == [111, 112, 101, 110, 101, 100]
    · refine runW h1 ?_
      refine fin (vb_eq ?_); simp [freeN, hn, h1]
    · refine runW h1 ?_
      refine fin (vb_eq ?_); simp [freeN, hn, h1]
theorem den_datCheck (a b : Int) : Den Tryz.prog T 88 [datg a b] (vi (if goodD a b = true then 0 else 1)) := by
  refine den_of_body follows (fun args w => Tryz.call88 args w) Tryz.func88 rfl 18 rfl ?_
  by_cases h1 : a < 0
  · have hg : goodD a b = false := by simp [goodD]; omega
    rw [hg]
    refine run ?_
    exact fin rfl
  by_cases h2 : b < a
  · have hg : goodD a b = false := by simp [goodD]; omega
    rw [hg]
    refine run ?_
    exact fin rfl
  by_cases h3 : 1048575 < b
  · have hg : goodD a b = false := by simp [goodD]; omega
    rw [hg]
    refine run ?_
    exact fin rfl
  · have hg : goodD a b = true := by simp [goodD]; omega
    rw [hg]
    refine run ?_
    exact fin rfl
theorem den_datGood (a b : Int) : Den Tryz.prog T 111 [datg a b] (vb (goodD a b)) := by
  refine den_of_body follows (fun args w => Tryz.call111 args w) Tryz.func111 rfl 18 rfl ?_
  unfold goodD
  by_cases h1 : 0 ≤ a <;> by_cases h2 : a ≤ b <;> by_cases h3 : b ≤ 1048575 <;> (refine run ?_; refine fin (vb_eq ?_); simp; try omega)
theorem den_right (f : Fil) (n : Note) : Den Tryz.prog T 65 [.agg f.cs, .agg n.cs] (vb (rightN f n)) := by
  refine den_of_body follows (fun args w => Tryz.call65 args w) Tryz.func65 rfl 16 rfl ?_
  refine run ?_
  refine call (den_datCheck n.fst n.lst) ?_
  unfold rightN
  cases goodD n.fst n.lst
  · refine run ?_
    exact fin rfl
  · refine run ?_
    refine call (den_isDayF n.rcd f.opn) ?_
    refine run ?_
    exact fin rfl
theorem den_notes1 (L : LibC T) (n : Note) (hn : n.Fit) : Den Tryz.prog T 105 [.agg n.cs] (vb (!freeN n.name)) := by
  refine den_of_body follows (fun args w => Tryz.call105 args w) Tryz.func105 rfl 7 rfl ?_
  refine run ?_
  refine call (den_free L n.name hn) ?_
  refine run ?_
  exact fin rfl
theorem den_notes2 (f : Fil) (n : Note) : Den Tryz.prog T 106 [.agg n.cs, .row f.cs] (vb (!rightN f n)) := by
  refine den_of_body follows (fun args w => Tryz.call106 args w) Tryz.func106 rfl 8 rfl ?_
  refine run ?_
  refine call (den_right f n) ?_
  refine run ?_
  exact fin rfl
theorem den_notes3 (a b : Note) : Den Tryz.prog T 108 [.agg a.cs, .agg b.cs] (vi (cmpI a.rcd b.rcd)) := by
  refine den_of_body follows (fun args w => Tryz.call108 args w) Tryz.func108 rfl 10 rfl ?_
  refine run ?_
  refine call (den_cmpInt a.rcd b.rcd) ?_
  refine run ?_
  exact fin rfl
theorem cmpI_lt (a b : Int) : cmpI a b < 0 ↔ a < b := by
  unfold cmpI
  split
  · constructor <;> intro <;> omega
  · split <;> (constructor <;> intro <;> omega)
theorem den_sortedNote (l : List Note) (f : FuncId) (hl : l.length ≤ 1048576) (hp : ∀ a b : Note, Den Tryz.prog T f [.agg a.cs, .agg b.cs] (vi (cmpI a.rcd b.rcd))) :
   Den Tryz.prog T 107 [ntss l, .func f []] (vb (!unsorted l)) := by
  refine den_of_body follows (fun args w => Tryz.call107 args w) Tryz.func107 rfl 25 rfl ?_
  refine run ?_
  refine loop ⟨[0, 1, 5], [], [], []⟩ (fun i : Int => -1 ≤ i ∧ i + 1 ≤ l.length ∧ ∀ j : Nat, i < j → j < l.length → early l j = false) (fun i => (i + 1).toNat)
    (fun i => ⟨25, [(0, .v (ntss l)), (1, .v (.func f [])), (5, .v (vi i))], [], []⟩) ((l.length : Int) - 1) ⟨by omega, by omega, fun j h1 h2 => by omega⟩ ?_
  rintro i ⟨h1, h2, hall⟩
  by_cases hpos : 0 < i
  · obtain ⟨k, rfl⟩ : ∃ k : Nat, i = k := ⟨i.toNat, by omega⟩
    obtain ⟨y, hy, -, -⟩ := drop_at (l := l) (k := k) (by omega)
    obtain ⟨x, hx, -, -⟩ := drop_at (l := l) (k := k - 1) (by omega)
    have he := early_s (show k ≠ 0 by omega) hx hy
    refine runW (And.intro hx hy) ?_
    refine call (hp y x) ?_
    by_cases hlt : y.rcd < x.rcd
    · have hc := (cmpI_lt y.rcd x.rcd).2 hlt
      rw [unsorted_at (show k < l.length by omega) (by rw [he]; simp [hlt])]
      refine run ?_
      exact fin rfl
    · have hc : ¬ cmpI y.rcd x.rcd < 0 := fun h => hlt ((cmpI_lt _ _).1 h)
      refine run ?_
      refine round ((k : Int) - 1) ⟨by omega, by omega, fun j g1 g2 => ?_⟩ (by omega)
      by_cases e : j = k
      · rw [e, he]; simp [hlt]
      · exact hall j (by omega) g2
  · rw [unsorted_end fun j hj => by
      by_cases h0 : j = 0
      · rw [h0]; exact early_0 l
      · exact hall j (by omega) hj]
    refine run ?_
    exact fin rfl

theorem den_notes (L : LibC T) (f : Fil) (hf : f.Fit) : Den Tryz.prog T 81 [.agg f.cs] (vi (notesErr f)) := by
  have hn := hf.2.2.1
  refine den_of_body follows (fun args w => Tryz.call81 args w) Tryz.func81 rfl 22 rfl ?_
  by_cases h16 : 16 < f.nts.length
  · rw [notesErr_8 h16]
    refine run ?_
    exact fin rfl
  refine run ?_
  refine call (den_anyNote f.nts _ _ (fun n => !freeN n.name) hn fun n hm => den_notes1 L n (hf.2.2.2 n hm)) ?_
  cases h4 : f.nts.any fun n => !freeN n.name
  · refine run ?_
    refine call (den_anyNote f.nts _ _ (fun n => !rightN f n) hn fun n _ => den_notes2 f n) ?_
    cases h2 : f.nts.any fun n => !rightN f n
    · rw [notesErr_s h16 h4 h2]
      refine run ?_
      refine call (den_sortedNote f.nts _ hn fun a b => den_notes3 a b) ?_
      cases unsorted f.nts
      · refine run ?_
        exact fin rfl
      · refine run ?_
        exact fin rfl
    · rw [notesErr_2 h16 h4 h2]
      refine run ?_
      exact fin rfl
  · rw [notesErr_4 h16 h4]
    refine run ?_
    exact fin rfl

set_option maxHeartbeats 1000000 in
theorem den_notesRef (f : Fil) (hf : f.Fit) : Den Tryz.prog T 87 [.agg f.cs] (vi (notesErr f)) := by
  have hn := hf.2.2.1
  refine den_of_body follows (fun args w => Tryz.call87 args w) Tryz.func87 rfl 73 rfl ?_
  by_cases h16 : 16 < f.nts.length
  · rw [notesErr_8 h16]
    refine run ?_
    exact fin rfl
  refine run ?_
  refine loop ⟨[1, 3], [1], [], []⟩ (fun k : Nat => k ≤ f.nts.length ∧ ∀ n ∈ f.nts.take k, (!freeN n.name) = false) (fun k => f.nts.length - k)
    (fun k => ⟨73, [(1, .p 1 0), (3, .v (vi k))], [(1, .var f.cs)], []⟩) 0 ⟨by omega, by simp⟩ ?_
  rintro k ⟨hk, hall⟩
  by_cases hlt : k < f.nts.length
  · obtain ⟨x, hx, -, hm⟩ := drop_at hlt
    refine runW hx ?_
    refine call (den_event x.name (hf.2.2.2 x hm)) ?_
    cases hfr : freeN x.name
    · rw [notesErr_4 h16 (any_at hx (by simp [hfr]))]
      refine run ?_
      exact fin rfl
    · refine run ?_
      exact round (k + 1) ⟨by omega, take_snoc (q := fun n : Note => (!freeN n.name) = false) hall hx (by simp [hfr])⟩ (by omega)
  · have h4 : (f.nts.any fun n => !freeN n.name) = false := any_end hall hlt
    refine run ?_
    refine loop ⟨[1, 4], [1], [], []⟩ (fun k : Nat => k ≤ f.nts.length ∧ ∀ n ∈ f.nts.take k, (!rightN f n) = false) (fun k => f.nts.length - k)
      (fun k => ⟨73, [(1, .p 1 0), (4, .v (vi k))], [(1, .var f.cs)], []⟩) 0 ⟨by omega, by simp⟩ ?_
    rintro k ⟨hk, hall⟩
    by_cases hlt : k < f.nts.length
    · obtain ⟨x, hx, -, hm⟩ := drop_at hlt
      refine runW hx ?_
      refine call (den_datGood x.fst x.lst) ?_
      cases hg : goodD x.fst x.lst
      · rw [notesErr_2 h16 h4 (any_at hx (by simp [rightN, hg]))]
        refine run ?_
        exact fin rfl
      · refine runW hx ?_
        refine call (den_withinF x.rcd f.opn 1048575) ?_
        have hr : rightN f x = decide (f.opn ≤ x.rcd ∧ x.rcd ≤ 1048575) := by simp [rightN, hg, dayB]
        cases hd : decide (f.opn ≤ x.rcd ∧ x.rcd ≤ 1048575)
        · rw [notesErr_2 h16 h4 (any_at hx (by rw [hr, hd]; rfl))]
          refine run ?_
          exact fin rfl
        · refine run ?_
          exact round (k + 1) ⟨by omega, take_snoc (q := fun n : Note => (!rightN f n) = false) hall hx (by rw [hr, hd]; rfl)⟩ (by omega)
    · have h2 : (f.nts.any fun n => !rightN f n) = false := any_end hall hlt
      rw [notesErr_s h16 h4 h2]
      refine run ?_
      refine loop ⟨[1, 5], [1], [], []⟩ (fun k : Nat => 1 ≤ k ∧ ∀ j, j < k → early f.nts j = false) (fun k => f.nts.length - k)
        (fun k => ⟨73, [(1, .p 1 0), (5, .v (vi k))], [(1, .var f.cs)], []⟩) 1 ⟨by omega, fun j hj => by rw [show j = 0 by omega]; exact early_0 _⟩ ?_
      rintro k ⟨hk, hall⟩
      by_cases hlt : k < f.nts.length
      · obtain ⟨y, hy, -, -⟩ := drop_at hlt
        obtain ⟨x, hx, -, -⟩ := drop_at (l := f.nts) (k := k - 1) (by omega)
        have he := early_s (show k ≠ 0 by omega) hx hy
        by_cases hc : y.rcd < x.rcd
        · rw [if_pos (unsorted_at hlt (by rw [he]; simp [hc]))]
          refine runW (And.intro hx hy) ?_
          exact fin rfl
        · refine runW (And.intro hx hy) ?_
          refine round (k + 1) ⟨by omega, fun j hj => ?_⟩ (by omega)
          by_cases e : j = k
          · rw [e, he]; simp [hc]
          · exact hall j (by omega)
      · rw [if_neg (by rw [unsorted_end fun j hj => hall j (by omega)]; exact Bool.noConfusion)]
        refine run ?_
        exact fin rfl

/-! finding -/
theorem den_ixFil (l : List Fil) (f : FuncId) (cap : List V) (p : Fil → Bool) (hl : l.length ≤ 1048576) (hp : ∀ e ∈ l, Den Tryz.prog T f (.agg e.cs :: cap) (vb (p e))) :
   Den Tryz.prog T 62 [fils l, .func f cap] (vi (ix p l)) := by
  refine den_of_body follows (fun args w => Tryz.call62 args w) Tryz.func62 rfl 19 rfl ?_
  refine run ?_
  refine loop ⟨[0, 1, 7, 8], [], [], []⟩ (fun k : Nat => k ≤ l.length ∧ ∀ e ∈ l.take k, p e = false) (fun k => l.length - k)
    (fun k => ⟨19, [(0, .v (fils l)), (1, .v (.func f cap)), (7, .v (vi l.length)), (8, .v (vi k))], [], []⟩) 0 ⟨by omega, by simp⟩ ?_
  rintro k ⟨hk, hall⟩
  by_cases hlt : k < l.length
  · obtain ⟨x, hx, -, hm⟩ := drop_at hlt
    refine runW hx ?_
    refine call (hp x hm) ?_
    cases hpc : p x
    · refine run ?_
      exact round (k + 1) ⟨by omega, take_snoc hall hx hpc⟩ (by omega)
    · refine run ?_
      exact fin (vi_eq (ix_at hall hx hpc))
  · refine run ?_
    exact fin (vi_eq (ix_none hall hlt))
theorem den_FindF1 (f : Fil) (n : Int) : Den Tryz.prog T 63 [.agg f.cs, .row [vi n]] (vb (isIdF n f)) := by
  refine den_of_body follows (fun args w => Tryz.call63 args w) Tryz.func63 rfl 8 rfl ?_
  refine run ?_
  exact fin rfl
theorem den_FindF (l : List Fil) (n : Int) (hl : l.length ≤ 1048576) : Den Tryz.prog T 31 [fils l, vi n] (vi (findF l n)) := by
  refine den_of_body follows (fun args w => Tryz.call31 args w) Tryz.func31 rfl 8 rfl ?_
  refine run ?_
  refine call (den_ixFil l _ _ (isIdF n) hl fun o _ => den_FindF1 o n) ?_
  refine run ?_
  exact fin rfl
theorem den_FindFRef (l : List Fil) (n : Int) (hl : l.length ≤ 1048576) : Den Tryz.prog T 32 [fils l, vi n] (vi (findF l n)) := by
  refine den_of_body follows (fun args w => Tryz.call32 args w) Tryz.func32 rfl 20 rfl ?_
  refine run ?_
  refine loop ⟨[0, 1, 5], [], [], []⟩ (fun k : Nat => k ≤ l.length ∧ ∀ o ∈ l.take k, isIdF n o = false) (fun k => l.length - k)
    (fun k => ⟨20, [(0, .v (fils l)), (1, .v (vi n)), (5, .v (vi k))], [], []⟩) 0 ⟨by omega, by simp⟩ ?_
  rintro k ⟨hk, hall⟩
  by_cases hlt : k < l.length
  · obtain ⟨x, hx, -, -⟩ := drop_at hlt
    by_cases hxn : x.id = n
    · refine runW hx ?_
      exact fin (vi_eq (ix_at (p := isIdF n) hall hx (by simp [isIdF, hxn])))
    · refine runW hx ?_
      exact round (k + 1) ⟨by omega, take_snoc (q := fun o : Fil => isIdF n o = false) hall hx (by simp [isIdF, hxn])⟩ (by omega)
  · refine run ?_
    exact fin (vi_eq (ix_none (p := isIdF n) hall hlt))
end Go.Arc
