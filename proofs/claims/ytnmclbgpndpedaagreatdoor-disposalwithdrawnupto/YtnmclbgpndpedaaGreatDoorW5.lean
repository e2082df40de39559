/- A part of this claim. -/
import Derived.Test.YtnmclbgpndpedaaGreatDoorW4
set_option maxRecDepth 100000
namespace Go.Arc
open Go.Ab Go.RowKit Go.Proofs
variable {T : Lay}
theorem jft {s:Str} (h:jan s=none):jhd s= .tup [.val (.slice none 0 0),vi 3]:=by simp[jhd,h]
theorem jfs {s:Str} {l:List Nat} (h:jan s=some l):jhd s= .tup [nats l,vi 0]:=by simp[jhd,h]
def dots:List Nat->Str
 | []=>[]
 | n::r=>46::dec n++dots r
theorem jqq:∀(l:List Nat) (n:Nat),fmt (n::l)=dec n++dots l
 | [],n=>by simp[fmt,dots]
 | m::r,n=>by
  simp only[fmt,dots];rw[jqq r m];simp
theorem dec_len (n:Nat):(dec n).length<=3:=by unfold dec; split <;> (try split) <;> simp
end Go.Arc
