/- A part of this claim. -/
import Derived.Test.YtcmpmdgdchmojaaGreatDoorW4
set_option maxRecDepth 100000
namespace Go.Arc
open Go.Ab Go.RowKit Go.Proofs
variable {T : Lay}
theorem parseV_n {s:Str} (h:parse s=none):parseV s= .tup [.val (.slice none 0 0),vi 3]:=by simp[parseV,h]
theorem parseV_s {s:Str} {l:List Nat} (h:parse s=some l):parseV s= .tup [nats l,vi 0]:=by simp[parseV,h]
theorem den_GoodRef (s:Str) (hl:s.length≤1048576):Den Tryz.prog T 120 [.str s] (vb (parse s).isSome):=by
 refine den_of_body follows (fun args w=>Tryz.call120 args w) Tryz.func120 rfl 12 rfl ?_
 refine run ?_
 refine call (den_ParseRef s hl) ?_
 cases hp:parse s with
 | none=>rw[parseV_n hp]; refine run ?_; exact fin (vb_eq rfl)
 | some l=>rw[parseV_s hp]; refine run ?_; exact fin (vb_eq rfl)
theorem digs (n:Nat) (h:n<10):(48::(([49,50,51,52,53,54,55,56,57]:List UInt8).take n)).drop n=[UInt8.ofNat (48+n)]:=by
 have:∀n:Fin 10,(48::(([49,50,51,52,53,54,55,56,57]:List UInt8).take n.1)).drop n.1=[UInt8.ofNat (48+n.1)]:=by decide
 exact this ⟨n,h⟩
theorem den_Dec1 (n:Nat) (h:n<10):Den Tryz.prog T 117 [vi n] (.str [UInt8.ofNat (48+n)]):=by
 refine den_of_body follows (fun args w=>Tryz.call117 args w) Tryz.func117 rfl 19 rfl ?_
 refine run ?_
 refine fin ?_
 rw[digs n h]
def dots:List Nat→Str
 | []=>[]
 | n::r=>46::dec n++dots r
theorem fmt_dots:∀(l:List Nat) (n:Nat),fmt (n::l)=dec n++dots l
 | [],n=>by simp[fmt,dots]
 | m::r,n=>by
  simp only[fmt,dots]
  rw[fmt_dots r m]
  simp
theorem dec_len (n:Nat):(dec n).length≤3:=by unfold dec; split <;> (try split) <;> simp
end Go.Arc
