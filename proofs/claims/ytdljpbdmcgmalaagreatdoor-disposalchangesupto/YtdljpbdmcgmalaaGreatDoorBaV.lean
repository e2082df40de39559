/- A part of this claim. -/
import Derived.Test.YtdljpbdmcgmalaaGreatDoorBaZ
set_option maxRecDepth 100000
namespace Go.Arc
open Go.Ab Go.RowKit Go.Proofs Tryz
variable {T : Lay}
structure RightI (s:Stp):Prop where
 num:0<=s.num/\s.num<=1073741824
 k:1<=s.kind/\s.kind<=9
 k9:s.kind=9->s.num=1\/s.num=2
 k7:s.kind=7->s.num<=9/\(0<=s.fst/\s.fst<=1073741824)/\(s.fst=0->s.lst=0)
structure DifM (l x:List Stp) (m:Nat):Prop where
 le:m<=x.length
 le':m<=l.length
 eq:∀j,j<m->l[j]? = x[j]?
 ne:m<x.length->l[m]? ≠ x[m]? /\ diffS l x=m
 out:m=x.length->(m<l.length/\diffS l x=m)\/(m=l.length/\diffS l x= -1)
theorem den_DecN (n:Nat) (h:n<=1073741824):Den prog T 33 [vi n] (.str (Lib.decDigits n)):=by
 by_cases h1:n<10
 ·rw[Lib.decDigits,dif_pos h1];exact den_Dec1 n h1
 ·have ih:=den_DecN (n / 10) om;have hl:=decN_len (n:=n / 10) om;rw[Lib.decDigits,dif_neg h1];refine ja0 call33 func33 19 ?_;refine rc ih ?_;exact zdn
termination_by n
theorem jlh (n:Int) (h:0<=n/\n<=1073741824):Den prog T 33 [vi n] (.str (decS n)):=by
 obtain ⟨m,rfl⟩:∃m:Nat,n=m:=⟨n.toNat,om⟩;rw[decS_nn om,Int.toNat_natCast];exact den_DecN m om
end Go.Arc
