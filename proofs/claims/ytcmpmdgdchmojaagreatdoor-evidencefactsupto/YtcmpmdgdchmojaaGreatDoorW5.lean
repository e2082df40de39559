/- A part of this claim. -/
import Derived.Test.YtcmpmdgdchmojaaGreatDoorW4
set_option maxRecDepth 100000
namespace Go.Arc
open Go.Ab Go.RowKit Go.Proofs
variable {T : Lay}
theorem parseV_n {s:Str} (h:parse s=none):parseV s= .tup [.val (.slice none 0 0),vi 3]:=by simp[parseV,h]
theorem parseV_s {s:Str} {l:List Nat} (h:parse s=some l):parseV s= .tup [nats l,vi 0]:=by simp[parseV,h]
def dots:List Nat→Str
 | []=>[]
 | n::r=>46::dec n++dots r
theorem fmt_dots:∀(l:List Nat) (n:Nat),fmt (n::l)=dec n++dots l
 | [],n=>by simp[fmt,dots]
 | m::r,n=>by
  simp only[fmt,dots]
  rw[fmt_dots r m]
  simp
theorem dec_len (n:Nat):(dec n).length≤3:=by unfold dec; split <;> (try split) <;> simp
end Go.Arc
