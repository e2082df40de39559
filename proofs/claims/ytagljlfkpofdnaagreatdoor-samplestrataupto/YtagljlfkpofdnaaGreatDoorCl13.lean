/-
 What an appraisal reads as.
-/
import Derived.Test.YtagljlfkpofdnaaGreatDoorCl11
import Derived.Test.YtagljlfkpofdnaaGreatDoorBaU
namespace Go.Arc
open Go.Ab Go.RowKit Go.Proofs Go.ChangeShapes Go.WideShapes Go.ChangeAt
open Go.Proofs.YtagljlfkpofdnaaGreatDoor.Rows (uptoBulk uptoBulkAll)
variable {H : Type} {enc : TypeId × Value -> H} {W : World}
end Go.Arc
