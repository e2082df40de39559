/- A part of this claim. -/
import Derived.Test.YtnmclbgpndpedaaGreatDoorW3
set_option maxRecDepth 100000
namespace Go.Arc
open Go.Ab Go.RowKit Go.Proofs
variable {T : Lay}
theorem jr5 {s:Str} (h:jcc (split [] s)=none):jh4 s= .tup [.val (.slice none 0 0),vi 3]:=by simp[jh4,jan,h]
theorem parseV_long {s:Str} {l:List Nat} (h:jcc (split [] s)=some l) (hl:6<l.length):jh4 s= .tup [.val (.slice none 0 0),vi 3]:=by
 have:¬l.length<=6:=by omega
 simp[jh4,jan,h,this]
theorem parseV_ok {s:Str} {l:List Nat} (h:jcc (split [] s)=some l) (hl:l.length<=6):jh4 s= .tup [nats l,vi 0]:=by simp[jh4,jan,h,hl]
end Go.Arc
