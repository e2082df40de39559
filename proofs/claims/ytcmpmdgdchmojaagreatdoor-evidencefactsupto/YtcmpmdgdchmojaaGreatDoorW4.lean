/- A part of this claim. -/
import Derived.Test.YtcmpmdgdchmojaaGreatDoorW3
set_option maxRecDepth 100000
namespace Go.Arc
open Go.Ab Go.RowKit Go.Proofs
variable {T : Lay}
theorem parseV_none {s:Str} (h:numsOf (split [] s)=none):parseV s= .tup [.val (.slice none 0 0),vi 3]:=by simp[parseV,parse,h]
theorem parseV_long {s:Str} {l:List Nat} (h:numsOf (split [] s)=some l) (hl:6<l.length):parseV s= .tup [.val (.slice none 0 0),vi 3]:=by
 have:¬l.length≤6:=by omega
 simp[parseV,parse,h,this]
theorem parseV_ok {s:Str} {l:List Nat} (h:numsOf (split [] s)=some l) (hl:l.length≤6):parseV s= .tup [nats l,vi 0]:=by simp[parseV,parse,h,hl]
end Go.Arc
