/-
 What arguments of chapter 08 read as.
-/
import Derived.Test.YtfbbflhnhmphiaaGreatDoorCl0
namespace Go.Arc
open Go.Ab Go.RowKit Go.Proofs Go.ChangeShapes Go.WideShapes Go.ChangeAt Tryz
open Go.Proofs.YtfbbflhnhmphiaaGreatDoor.Rows (uptoBulk uptoBulkAll)
variable {H : Type}{enc : TypeId × Value -> H}{W : World}
theorem qpq:prog.cellsOf 3=1:=krq
theorem qir{m:Nat}{vs:List V}(h:fa prog m 3 vs):∃n:Int,vs=Cint n/\True:=by
 obtain⟨n,rfl,-⟩:=je2 Tryz.underlying3 h;exact⟨n,rfl,trivial⟩
end Go.Arc
