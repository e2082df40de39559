/- A part of this claim. -/
import Derived.Test.YtnmclbgpndpedaaGreatDoorW6
set_option maxRecDepth 100000
namespace Go.Arc
open Go.Ab Go.RowKit Go.Proofs
variable {T : Lay}
theorem printable_cons (c:UInt8) (r:Str):jcd (c::r)=(decide (32<=c.toNat) && decide (c.toNat<=126) && jcd r):=rfl
end Go.Arc
