/-
  Contracts of functions of the program, each by a walk through its code, for all arguments within the bounds that the statements name.
-/
import Derived.Test.YteedjclogdckhaaGreatDoorW17
namespace Go.Arc
open Go.Ab Go.RowKit Go.Proofs
variable {T : Lay}

theorem notes_nil {l : List Note} (h : l.map Note.cs = []) : l = [] := by simpa using h
theorem flat_cells (l : List Note) : (l.map Note.cs).flatten = cellsN l := rfl
theorem notnot (p : Note → Bool) : (fun e => !!p e) = p := by funext e; simp

theorem lenN4 (l : List Note) : ∀ e ∈ l.map Note.cs, e.length = 4 := by
  intro e he
  obtain ⟨n, -, rfl⟩ := List.mem_map.1 he
  rfl
theorem note_ne {x y : Note} (h : x ≠ y) : (x.name == y.name && (decide (x.fst = y.fst) && (decide (x.lst = y.lst) && decide (x.rcd = y.rcd)))) = false := by
  cases e : (x.name == y.name && (decide (x.fst = y.fst) && (decide (x.lst = y.lst) && decide (x.rcd = y.rcd))))
  · rfl
  · simp only [Bool.and_eq_true, decide_eq_true_eq, beq_iff_eq] at e
    obtain ⟨e1, e2, e3, e4⟩ := e
    cases x; cases y
    exact absurd (by simp_all) h
/-! how much the statements speak of -/
def fewN (n : Note) : Bool := !decide (100 < n.name.length)
def fewF1 (f : Fil) : Bool := !(decide (20 < f.nts.length) || (decide (100 < f.title.length) || decide (100 < f.cls.length))) && f.nts.all fewN
def fewF (l : List Fil) : Bool := !((decide (10 < l.length) && decide (l.length ≤ 256)) || decide (261 < l.length)) && l.all fewF1
set_option maxHeartbeats 1000000 in
theorem den_FewF2 (l : List Fil) (hl0 : l.length ≤ 2097152) (hl : ∀ f ∈ l, f.Fit) : Den Tryz.prog T 38 [fils l] (vb (fewF l)) := by
  refine den_of_body follows (fun args w => Tryz.call38 args w) Tryz.func38 rfl 70 rfl ?_
  by_cases g : (10 < l.length ∧ l.length ≤ 256) ∨ 261 < l.length
  · have hf : fewF l = false := by
      rcases g with ⟨g1, g2⟩ | g
      · simp [fewF, g1, g2]
      · simp [fewF, g]
    rw [hf]
    by_cases a1 : l.length ≤ 256
    · have a2 : 10 < l.length := by omega
      refine run ?_
      exact fin rfl
    · have a2 : 10 < l.length := by omega
      have a3 : 261 < l.length := by omega
      refine run ?_
      exact fin rfl
  · have hq : fewF l = l.all fewF1 := by
      have e1 : (decide (10 < l.length) && decide (l.length ≤ 256)) = false := by
        cases e : decide (10 < l.length)
        · rfl
        · have : 10 < l.length := by simpa using e
          simp; omega
      have e2 : decide (261 < l.length) = false := by simp; omega
      simp only [fewF, e1, e2, Bool.or_false, Bool.not_false, Bool.true_and]
    have go : ∀ Q : Prop, (10 < l.length → ¬ l.length ≤ 256 → Q) → (¬ 10 < l.length → Q) → Q := fun Q a b => by
      by_cases a1 : 10 < l.length
      · exact a a1 (by omega)
      · exact b a1
    rw [hq]
    have a3 : ¬ 261 < l.length := by omega
    refine go _ (fun a1 a2 => ?_) (fun a1 => ?_) <;>
    · refine run ?_
      refine loop ⟨[0, 3], [], [], []⟩ (fun k : Nat => k ≤ l.length ∧ ∀ p ∈ l.take k, fewF1 p = true) (fun k => l.length - k)
        (fun k => ⟨70, [(0, .v (fils l)), (3, .v (vi k))], [], []⟩) 0 ⟨by omega, by simp⟩ ?_
      rintro k ⟨hk, hall⟩
      by_cases hlt : k < l.length
      · obtain ⟨x, hx, hd, hm⟩ := drop_at hlt
        obtain ⟨f1, f2, f3, f4⟩ := hl x hm
        by_cases g1 : 20 < x.nts.length
        · refine runW hx ?_
          refine fin (vb_eq ?_)
          rw [all_at hx (by simp [fewF1, g1])]
        by_cases g2 : 100 < x.title.length
        · refine runW hx ?_
          refine fin (vb_eq ?_)
          rw [all_at hx (by simp [fewF1, g2])]
        by_cases g3 : 100 < x.cls.length
        · refine runW hx ?_
          refine fin (vb_eq ?_)
          rw [all_at hx (by simp [fewF1, g3])]
        have hfx : fewF1 x = x.nts.all fewN := by simp [fewF1, g1, g2, g3]
        refine runW hx ?_
        refine loop ⟨[0, 3, 4], [], [], []⟩ (fun j : Nat => j ≤ x.nts.length ∧ ∀ p ∈ x.nts.take j, fewN p = true) (fun j => x.nts.length - j)
          (fun j => ⟨70, [(0, .v (fils l)), (3, .v (vi k)), (4, .v (vi j))], [], []⟩) 0 ⟨by omega, by simp⟩ ?_
        rintro j ⟨hj, hallj⟩
        by_cases hlt' : j < x.nts.length
        · obtain ⟨n, hn, hdn, hmn⟩ := drop_at hlt'
          have hn1 : n.name.length ≤ 1048576 := f4 n hmn
          by_cases g4 : 100 < n.name.length
          · refine runW (And.intro hx hn) ?_
            refine fin (vb_eq ?_)
            rw [all_at hx (by rw [hfx]; exact all_at hn (by simp [fewN, g4]))]
          · refine runW (And.intro hx hn) ?_
            exact round (j + 1) ⟨by omega, take_snoc (q := fun p : Note => fewN p = true) hallj hn (by simp [fewN, g4])⟩ (by omega)
        · have hfx' : fewF1 x = true := by rw [hfx]; exact all_end hallj hlt'
          refine runW hx ?_
          exact round (k + 1) ⟨by omega, take_snoc (q := fun p : Fil => fewF1 p = true) hall hx hfx'⟩ (by omega)
      · refine run ?_
        refine fin (vb_eq ?_)
        rw [all_end hall hlt]
theorem den_FewF (l : List Fil) (hl : FitsF l) : Den Tryz.prog T 38 [fils l] (vb (fewF l)) := den_FewF2 l (Nat.le_trans hl.1 (by decide)) hl.2
end Go.Arc
