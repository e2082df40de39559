/- A part of this claim. -/
import Derived.Test.YtcmpmdgdchmojaaGreatDoorW6
set_option maxRecDepth 100000
namespace Go.Arc
open Go.Ab Go.RowKit Go.Proofs
variable {T : Lay}
theorem printable_cons (c:UInt8) (r:Str):printable (c::r)=(decide (32≤c.toNat) && decide (c.toNat≤126) && printable r):=rfl
end Go.Arc
