/-
  Contracts of functions of the program, each by a walk through its code, for all arguments within the bounds that the statements name.
-/
import Derived.Test.YteedjclogdckhaaGreatDoorW32
import Derived.Test.YteedjclogdckhaaGreatDoorW21
namespace Go.Arc
open Go.Ab Go.RowKit Go.Proofs
variable {T : Lay}

theorem cmpI_lt (a b : Int) : cmpI a b < 0 ↔ a < b := by
  unfold cmpI
  split
  · constructor <;> intro <;> omega
  · split <;> (constructor <;> intro <;> omega)
/-! finding -/
end Go.Arc
