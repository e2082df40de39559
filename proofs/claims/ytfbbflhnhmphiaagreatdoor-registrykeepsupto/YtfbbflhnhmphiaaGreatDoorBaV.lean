/- A part of this claim. -/
import Derived.Test.YtfbbflhnhmphiaaGreatDoorBaZ
set_option maxRecDepth 100000
namespace Go.Arc
open Go.Ab Go.RowKit Go.Proofs
variable {T : Lay}
structure RightI (s:Stp):Prop where
 num:0<=s.num/\s.num<=1073741824
 k:1<=s.kind/\s.kind<=9
 k9:s.kind=9->s.num=1\/s.num=2
 k7:s.kind=7->s.num<=9/\(0<=s.fst/\s.fst<=1073741824)/\(s.fst=0->s.lst=0)
structure DifM (l x:List Stp) (m:Nat):Prop where
 le:m<=x.length
 le':m<=l.length
 eq:∀j,j<m->l[j]?=x[j]?
 ne:m<x.length->l[m]? ≠ x[m]? /\ jsh l x=m
 out:m=x.length->(m<l.length/\jsh l x=m)\/(m=l.length/\jsh l x= -1)
end Go.Arc
