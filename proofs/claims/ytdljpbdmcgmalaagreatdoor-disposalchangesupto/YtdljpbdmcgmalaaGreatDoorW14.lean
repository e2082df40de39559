/- A part of this claim. -/
import Derived.Test.YtdljpbdmcgmalaaGreatDoorW13
set_option maxRecDepth 100000
namespace Go.Arc
open Go.Ab Go.RowKit Go.Proofs
variable {T : Lay}
theorem walkN_len {l:List Plan} (hl:Fits l):∀(n i:Nat) (s:Str),s.length<=1048576->(walkN l i n s).length<=1048576
 | 0,_,_,hs=>hs
 | n+1,i,_,hs=>walkN_len hl n (i+1) _ (nxt_len (pl_fit hl _) hs)
theorem atL_good {l:List Plan} (h:jbe l=true) (d:Int):atL l d=idx l d:=by simp[atL,h]
end Go.Arc
