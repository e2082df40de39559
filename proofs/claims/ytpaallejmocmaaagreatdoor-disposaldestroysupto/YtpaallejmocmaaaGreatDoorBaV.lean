/- A part of this claim. -/
import Derived.Test.YtpaallejmocmaaaGreatDoorBaZ
set_option maxRecDepth 100000
namespace Go.Arc
open Go.Ab Go.RowKit Go.Proofs Tryz
variable {T : Lay}
structure RightI (s:Stp):Prop where
 num:0<=s.num/\s.num<=1073741824
 k:1<=s.kind/\s.kind<=9
 k9:s.kind=9->s.num=1\/s.num=2
 k7:s.kind=7->s.num<=9/\(0<=s.fst/\s.fst<=1073741824)/\(s.fst=0->s.lst=0)
structure DifM (l x:List Stp) (m:Nat):Prop where
 le:m<=x.length
 le':m<=l.length
 eq:∀j,j<m->l[j]?=x[j]?
 ne:m<x.length->l[m]? ≠ x[m]? /\ jra l x=m
 out:m=x.length->(m<l.length/\jra l x=m)\/(m=l.length/\jra l x= -1)
theorem jyz(n:Nat)(h:n<=1073741824):Den prog T 75 [vi n] (.str (Lib.decDigits n)):=by
 by_cases h1:n<10
 .rw[Lib.decDigits,dif_pos h1];exact jmu n h1
 have ih:=jyz (n / 10) omq;have hl:=qqm (n:=n / 10) omq;rw[Lib.decDigits,dif_neg h1];refine ab call75 func75 19 ?_;refine rc ih ?_;exact zdt
termination_by n
theorem je9(n:Int)(h:0<=n/\n<=1073741824):Den prog T 75 [vi n] (.str (decS n)):=by
 obtain⟨m,rfl⟩:∃m:Nat,n=m:=⟨n.toNat,omq⟩;rw[qbl omq,Int.toNat_natCast];exact jyz m omq
end Go.Arc
