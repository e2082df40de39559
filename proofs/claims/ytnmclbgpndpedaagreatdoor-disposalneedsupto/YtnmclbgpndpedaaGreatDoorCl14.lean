/-
 What proposals,approvals and certificates read as.
-/
import Derived.Test.YtnmclbgpndpedaaGreatDoorCl11
namespace Go.Arc
open Go.Ab Go.RowKit Go.Proofs Go.ChangeShapes Go.WideShapes Go.ChangeAt
open Go.Proofs.YtnmclbgpndpedaaGreatDoor.Rows (uptoBulk uptoBulkAll)
variable {H : Type} {enc : TypeId × Value -> H} {W : World}
end Go.Arc
