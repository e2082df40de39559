/-
  Contracts of functions of the program, each by a walk through its code, for all arguments within the bounds that the statements name.
-/
import Derived.Test.YteedjclogdckhaaGreatDoorW34
namespace Go.Arc
open Go.Ab Go.RowKit Go.Proofs
variable {T : Lay}

theorem dayB_eq (d f : Int) : decide (f ≤ d ∧ d ≤ 1048575) = dayB d f := rfl
theorem checkF_1 {os : List Ofc} {ps : List Plan} {l : List Fil} (h : goodO os = false ∨ goodL ps = false) : checkF os ps l = (-1, 1) := by unfold checkF; rw [if_pos h]
theorem checkF_c {os : List Ofc} {ps : List Plan} {l : List Fil} (h : goodO os = true) (h' : goodL ps = true) : checkF os ps l = chk 256 l.length (faultF os ps l) := by unfold checkF; rw [if_neg (by simp [h, h'])]
end Go.Arc
