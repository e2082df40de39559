/-
  Contracts of functions of the program, each by a walk through its code, for all arguments within the bounds that the statements name.
-/
import Derived.Test.YtbofgklhjjfbkaaGreatDoorW21
import Derived.Test.YtbofgklhjjfbkaaGreatDoorBaC
namespace Go.Arc
open Go.Ab Go.RowKit Go.Proofs
variable {T : Lay}

theorem den_ixIsNote (l : List Note) (x : Note) (hl : l.length ≤ 1048576) : Den Tryz.prog T 57 [ntss l, .agg x.cs] (vi (ix (fun n => decide (x = n)) l)) := by
  refine den_of_body follows (fun args w => Tryz.call57 args w) Tryz.func57 rfl 19 rfl ?_
  refine run ?_
  refine loop ⟨[0, 3, 7, 8], [3], [], []⟩ (fun k : Nat => k ≤ l.length ∧ ∀ n ∈ l.take k, decide (x = n) = false) (fun k => l.length - k)
    (fun k => ⟨19, [(0, .v (ntss l)), (3, .p 3 0), (7, .v (vi l.length)), (8, .v (vi k))], [(3, .var x.cs)], []⟩) 0 ⟨by omega, by simp⟩ ?_
  rintro k ⟨hk, hall⟩
  by_cases hlt : k < l.length
  · obtain ⟨y, hy, -, -⟩ := drop_at hlt
    by_cases hxy : x = y
    · subst hxy
      refine runW hy ?_
      exact fin (vi_eq (ix_at (p := fun n => decide (x = n)) hall hy (by simp)))
    · have hne := note_ne hxy
      refine runW (And.intro hy hne) ?_
      exact round (k + 1) ⟨by omega, take_snoc (q := fun n : Note => decide (x = n) = false) hall hy (by simp [hxy])⟩ (by omega)
  · refine run ?_
    exact fin (vi_eq (ix_none (p := fun n => decide (x = n)) hall hlt))
theorem den_hasNote (l : List Note) (x : Note) (hl : l.length ≤ 1048576) : Den Tryz.prog T 27 [ntss l, .agg x.cs] (vb (l.any fun n => decide (x = n))) := by
  refine den_of_body follows (fun args w => Tryz.call27 args w) Tryz.func27 rfl 9 rfl ?_
  refine run ?_
  refine call (den_ixIsNote l x hl) ?_
  refine run ?_
  exact fin (vb_eq (ix_ge _ l))
theorem den_Learns1 (l : List Note) (x : Note) (hl : l.length ≤ 1048576) : Den Tryz.prog T 26 [.agg x.cs, .row [ntss l]] (vb (!l.any fun n => decide (x = n))) := by
  refine den_of_body follows (fun args w => Tryz.call26 args w) Tryz.func26 rfl 8 rfl ?_
  refine run ?_
  refine call (den_hasNote l x hl) ?_
  refine run ?_
  exact fin rfl

set_option maxRecDepth 100000 in
theorem den_FileLearns (L : LibC T) (f : Fil) (s : Str) (d m : Int) (hf : f.Fit) (hm : 0 ≤ m ∧ m < 65536) : Den Tryz.prog T 7 [.agg f.cs, .str s, vi d, .val (.int .u16 m)] (vb true) := by
  have hn0 := hf.2.2.1
  refine den_of_body follows (fun args w => Tryz.call7 args w) Tryz.func7 rfl 91 rfl ?_
  refine runD ?_
  refine call (den_awake8 L) ?_
  refine runD ?_
  refine call (den_FewF [f] (fit1 hf)) ?_
  cases fewF [f]
  · refine runD ?_
    exact fin rfl
  by_cases g1 : 1048575 < d
  · refine runD ?_
    exact fin rfl
  by_cases g2 : d < -1048575
  · refine runD ?_
    exact fin rfl
  have hk1 : (known f d).length ≤ f.nts.length := List.length_filter_le _ _
  have hk2 : (known f (d + m)).length ≤ f.nts.length := List.length_filter_le _ _
  have hle := known_len (f := f) (show d ≤ d + m by omega)
  have hany : ((known f d).any fun x => !(known f (d + m)).any fun n => decide (x = n)) = false := by
    rw [List.any_eq_false]
    intro x hx
    have := known_sub (show d ≤ d + m by omega) hx
    simp only [Bool.not_eq_true', Bool.not_eq_false]
    exact List.any_eq_true.2 ⟨x, this, by simp⟩
  have htr := fun x => trig_later (f := f) (s := s) (show d ≤ d + m by omega) (x := x)
  have hst := state_later (f := f) (show d ≤ d + m by omega)
  refine runD ?_
  refine call (den_KnownL f d hf) ?_
  refine runD ?_
  refine call (den_KnownL f (d + m) hf) ?_
  generalize known f d = A at hk1 hle hany
  generalize known f (d + m) = B at hk2 hle hany
  refine runD ?_
  refine call (den_anyNote A _ _ (fun x => !B.any fun n => decide (x = n)) (by omega) fun x _ => den_Learns1 B x (by omega)) ?_
  rw [hany]
  refine runD ?_
  refine call (den_Trigger f s d hf) ?_
  cases e1 : trig f s d with
  | none =>
    obtain ⟨x, y, z, e⟩ := trigV_cases f s (d + m)
    rw [trigV, e1]
    refine runD ?_
    refine call (den_Trigger f s (d + m) hf) ?_
    rw [e]
    refine runD ?_
    refine call (den_State f d) ?_
    refine runD ?_
    refine call (den_State f (d + m)) ?_
    refine runD ?_
    exact fin rfl
  | some p =>
    obtain ⟨q, e2, hq⟩ := htr p e1
    rw [trigV, e1]
    refine runD ?_
    refine call (den_Trigger f s (d + m) hf) ?_
    rw [trigV, e2]
    refine runD ?_
    refine call (den_State f d) ?_
    refine runD ?_
    refine call (den_State f (d + m)) ?_
    refine runD ?_
    exact fin rfl

end Go.Arc
