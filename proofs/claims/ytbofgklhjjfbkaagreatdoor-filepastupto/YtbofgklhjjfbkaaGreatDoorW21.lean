/-
  Contracts of functions of the program, each by a walk through its code, for all arguments within the bounds that the statements name.
-/
import Derived.Test.YtbofgklhjjfbkaaGreatDoorW20
namespace Go.Arc
open Go.Ab Go.RowKit Go.Proofs
variable {T : Lay}

theorem fit1 {f : Fil} (hf : f.Fit) : FitsF [f] := ⟨by simp, fun g hg => by simp only [List.mem_cons, List.mem_nil_iff, or_false] at hg; subst hg; exact hf⟩

set_option maxRecDepth 100000 in
theorem den_FileTriggers (L : LibC T) (f : Fil) (s : Str) (d : Int) (hf : f.Fit) (hs : s.length ≤ 1048576) : Den Tryz.prog T 3 [.agg f.cs, .str s, vi d] (vb true) := by
  have hkl : (known f d).length ≤ 1048576 := Nat.le_trans (List.length_filter_le _ _) hf.2.2.1
  refine den_of_body follows (fun args w => Tryz.call3 args w) Tryz.func3 rfl 62 rfl ?_
  refine run ?_
  refine call (den_awake8 L) ?_
  refine run ?_
  refine call (den_FewF [f] (fit1 hf)) ?_
  cases fewF [f]
  · refine run ?_
    exact fin rfl
  by_cases h100 : 100 < s.length
  · refine run ?_
    exact fin rfl
  refine run ?_
  refine call (den_Trigger f s d hf) ?_
  obtain ⟨x, y, z, e⟩ := trigV_cases f s d
  rw [e]
  refine run ?_
  refine call (den_TriggerRef f s d hf) ?_
  rw [e]
  refine run ?_
  refine call (den_KnownL f d hf) ?_
  refine run ?_
  refine call (den_KnownRef f d hf).den ?_
  refine run ?_
  refine call (den_SameNotes _ _ hkl hkl) ?_
  refine run ?_
  refine call (den_State f d) ?_
  refine run ?_
  refine call (den_StateRef f d) ?_
  refine run ?_
  exact fin rfl

theorem den_FileClasses (L : LibC T) (l : List Plan) (f : Fil) (d : Int) (hl : Fits l) (hf : f.Fit) : Den Tryz.prog T 4 [plans l, .agg f.cs, vi d] (vb true) := by
  refine den_of_body follows (fun args w => Tryz.call4 args w) Tryz.func4 rfl 44 rfl ?_
  refine run ?_
  refine call (den_awake8 L) ?_
  refine run ?_
  refine call (den_Few l hl) ?_
  cases few l
  · refine run ?_
    exact fin rfl
  refine run ?_
  refine call (den_FewF [f] (fit1 hf)) ?_
  cases fewF [f]
  · refine run ?_
    exact fin rfl
  refine run ?_
  refine call (den_Class L l f d hl hf) ?_
  refine run ?_
  refine call (den_ClassRef l f d hl hf) ?_
  refine run ?_
  exact fin rfl

theorem own_iff {f : Fil} {s : Str} {d : Int} {n : Note} : n ∈ own f s d ↔ n ∈ f.nts ∧ isKnown d n = true ∧ named s n = true := by
  simp only [own, known, List.mem_filter, and_assoc]
def latest (s : Str) (d : Int) (m n : Note) : Bool := named s n && (isKnown d n && (decide (n.fst = m.fst) && decide (n.lst = m.lst)))

set_option maxRecDepth 100000 in
theorem den_FileLatest (L : LibC T) (f : Fil) (s : Str) (d : Int) (hf : f.Fit) (_hs : s.length ≤ 1048576) : Den Tryz.prog T 5 [.agg f.cs, .str s, vi d] (vb true) := by
  have hn0 := hf.2.2.1
  refine den_of_body follows (fun args w => Tryz.call5 args w) Tryz.func5 rfl 79 rfl ?_
  refine run ?_
  refine call (den_awake8 L) ?_
  refine run ?_
  refine call (den_FewF [f] (fit1 hf)) ?_
  cases fewF [f]
  · refine run ?_
    exact fin rfl
  cases h1 : s == [111, 112, 101, 110, 101, 100]
  · cases h2 : s == [99, 108, 111, 115, 101, 100]
    · have ht := trig_note (f := f) (d := d) h1 h2
      refine runW (And.intro h1 h2) ?_
      refine call (den_Trigger f s d hf) ?_
      cases hb : best f s d with
      | none =>
        have hno : ∀ n ∈ f.nts, isKnown d n = true → named s n = true → False := fun n h3 h4 h5 => by
          have := bestN_none hb
          have hm : n ∈ own f s d := own_iff.2 ⟨h3, h4, h5⟩
          rw [this] at hm; cases hm
        rw [trigV, ht, hb]
        refine run ?_
        refine loop ⟨[1, 2, 7, 8, 9, 34, 35, 36], [7], [], []⟩ (fun k : Nat => k ≤ f.nts.length) (fun k => f.nts.length - k)
          (fun k => ⟨79, [(1, .v (.str s)), (2, .v (vi d)), (7, .p 7 0), (8, .v (vb false)), (9, .v (vb false)), (34, .v (ntss f.nts)), (35, .v (vi f.nts.length)), (36, .v (vi k))], [(7, .var [vi 0, vi 0])], []⟩) 0 (by simp) ?_
        intro k hk
        by_cases hlt : k < f.nts.length
        · obtain ⟨x, hx, -, hm⟩ := drop_at hlt
          cases g1 : x.name == s
          · refine runW (And.intro hx g1) ?_
            exact round (k + 1) (by omega) (by omega)
          · by_cases g2 : x.rcd ≤ d
            · exact (hno x hm (by simp [isKnown, g2]) g1).elim
            · refine runW (And.intro hx g1) ?_
              exact round (k + 1) (by omega) (by omega)
        · refine run ?_
          exact fin rfl
      | some m =>
        have hm : m ∈ own f s d := (bestN_mem hb).resolve_left (by simp)
        have hge := (bestN_ge hb).2
        rw [trigV, ht, hb]
        refine run ?_
        refine loop ⟨[1, 2, 7, 8, 9, 34, 35, 36], [7], [], []⟩ (fun y : Nat × Bool => y.1 ≤ f.nts.length ∧ y.2 = (f.nts.take y.1).any (latest s d m)) (fun y => f.nts.length - y.1)
          (fun y => ⟨79, [(1, .v (.str s)), (2, .v (vi d)), (7, .p 7 0), (8, .v (vb true)), (9, .v (vb y.2)), (34, .v (ntss f.nts)), (35, .v (vi f.nts.length)), (36, .v (vi y.1))], [(7, .var [vi m.fst, vi m.lst])], []⟩) (0, false) ⟨by simp, by simp⟩ ?_
        rintro ⟨k, b⟩ ⟨hk, hall⟩
        simp only at hk hall
        by_cases hlt : k < f.nts.length
        · obtain ⟨x, hx, -, hmx⟩ := drop_at hlt
          have hsucc : (f.nts.take (k + 1)).any (latest s d m) = (b || latest s d m x) := by
            obtain ⟨hlt', rfl⟩ := List.getElem?_eq_some_iff.1 hx
            rw [List.take_succ_eq_append_getElem hlt', List.any_append, ← hall]; simp
          cases g1 : x.name == s
          · have hq : latest s d m x = false := by simp [latest, named, g1]
            refine runW (And.intro hx g1) ?_
            exact round (k + 1, b) ⟨by simp only; omega, by simp only; rw [hsucc, hq]; simp⟩ (by simp only; omega)
          · by_cases g2 : x.rcd ≤ d
            · have hxm := hge x (own_iff.2 ⟨hmx, by simp [isKnown, g2], g1⟩)
              have hq : latest s d m x = (decide (x.fst = m.fst) && decide (x.lst = m.lst)) := by simp [latest, named, isKnown, g1, g2]
              cases b
              · refine runW (And.intro hx g1) ?_
                exact round (k + 1, decide (x.fst = m.fst) && decide (x.lst = m.lst)) ⟨by simp only; omega, by simp only; rw [hsucc, hq]; simp⟩ (by simp only; omega)
              · refine runW (And.intro hx g1) ?_
                exact round (k + 1, true) ⟨by simp only; omega, by simp only; rw [hsucc]; simp⟩ (by simp only; omega)
            · have hq : latest s d m x = false := by simp [latest, isKnown, g2]
              refine runW (And.intro hx g1) ?_
              exact round (k + 1, b) ⟨by simp only; omega, by simp only; rw [hsucc, hq]; simp⟩ (by simp only; omega)
        · obtain ⟨m1, m2, m3⟩ := own_iff.1 hm
          have hb : b = true := by
            rw [hall, List.take_of_length_le (by omega), List.any_eq_true]
            exact ⟨m, m1, by simp [latest, m2, m3]⟩
          subst hb
          refine run ?_
          exact fin rfl
    · refine runW (And.intro h1 h2) ?_
      exact fin rfl
  · refine runW h1 ?_
    exact fin rfl
end Go.Arc
