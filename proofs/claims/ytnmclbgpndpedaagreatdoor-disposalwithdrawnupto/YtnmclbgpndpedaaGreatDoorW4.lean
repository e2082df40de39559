/- A part of this claim. -/
import Derived.Test.YtnmclbgpndpedaaGreatDoorW3
set_option maxRecDepth 100000
namespace Go.Arc
open Go.Ab Go.RowKit Go.Proofs
variable {T : Lay}
theorem jrh {s:Str} (h:jce (split [] s)=none):jhd s= .tup [.val (.slice none 0 0),vi 3]:=by simp[jhd,jan,h]
theorem parseV_long {s:Str} {l:List Nat} (h:jce (split [] s)=some l) (hl:6<l.length):jhd s= .tup [.val (.slice none 0 0),vi 3]:=by
 have:¬l.length<=6:=by omega
 simp[jhd,jan,h,this]
theorem parseV_ok {s:Str} {l:List Nat} (h:jce (split [] s)=some l) (hl:l.length<=6):jhd s= .tup [nats l,vi 0]:=by simp[jhd,jan,h,hl]
end Go.Arc
