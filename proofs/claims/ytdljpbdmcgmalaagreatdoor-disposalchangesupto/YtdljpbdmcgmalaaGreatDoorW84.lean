/- A part of this claim. -/
import Derived.Test.YtdljpbdmcgmalaaGreatDoorBaY
set_option maxRecDepth 100000
namespace Go.Arc
open Go.Ab Go.RowKit Go.Proofs
variable {T : Lay}
end Go.Arc
