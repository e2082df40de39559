/- A part of this claim. -/
import Derived.Test.YtdljpbdmcgmalaaGreatDoorW12
import Derived.Test.YtdljpbdmcgmalaaGreatDoorPl1
set_option maxRecDepth 100000
namespace Go.Arc
open Go.Ab Go.RowKit Go.Proofs
variable {T : Lay}
theorem pl_fit {l:List Plan} (hl:Fits l) (i:Nat):(pl l i).Fit:=by
 unfold pl;rw[List.getD_eq_getElem?_getD];cases h:l[i]? with
 | none=>exact ⟨dc,dc,by simp[dflt],by simp[dflt]⟩
 | some p=>exact hl.2 p (List.mem_of_getElem? h)
end Go.Arc
