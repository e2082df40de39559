/- A part of this claim. -/
import Derived.Test.YtagljlfkpofdnaaGreatDoorBaQ
set_option maxRecDepth 100000
namespace Go.Arc
open Go.Ab Go.RowKit Go.Proofs
variable {T : Lay}
def oT (B w:List Int) (k:Nat):List Int:=layF tr5 id (chiF B) k w
end Go.Arc
set_option maxRecDepth 100000
namespace Go.Arc
open Go.Ab Go.RowKit Go.Proofs
variable {T : Lay}
def fz (d:Str) (j:Nat):Str:=d++6::List.replicate j 0
end Go.Arc
