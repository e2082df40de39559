/- A part of this claim. -/
import Derived.Test.YtnmclbgpndpedaaGreatDoorW4
set_option maxRecDepth 100000
namespace Go.Arc
open Go.Ab Go.RowKit Go.Proofs
variable {T : Lay}
theorem jfl {s:Str} (h:jan s=none):jh4 s= .tup [.val (.slice none 0 0),vi 3]:=by simp[jh4,h]
theorem jfk {s:Str} {l:List Nat} (h:jan s=some l):jh4 s= .tup [nats l,vi 0]:=by simp[jh4,h]
def dots:List Nat->Str
 | []=>[]
 | n::r=>46::dec n++dots r
theorem jqe:∀(l:List Nat) (n:Nat),fmt (n::l)=dec n++dots l
 | [],n=>by simp[fmt,dots]
 | m::r,n=>by
  simp only[fmt,dots];rw[jqe r m];simp
theorem dec_len (n:Nat):(dec n).length<=3:=by unfold dec; split <;> (try split) <;> simp
end Go.Arc
