/-
 What steps of explanations read as.
-/
import Derived.Test.YtcmpmdgdchmojaaGreatDoorCl11
namespace Go.Arc
open Go.Ab Go.RowKit Go.Proofs Go.ChangeShapes Go.WideShapes Go.ChangeAt
open Go.Proofs.YtcmpmdgdchmojaaGreatDoor.Rows (uptoBulk uptoBulkAll)
variable {H : Type} {enc : TypeId × Value -> H} {W : World}
end Go.Arc
