/- A part of this claim. -/
import Derived.Test.YtdljpbdmcgmalaaGreatDoorSp6
import Derived.Test.YtdljpbdmcgmalaaGreatDoorSp8
namespace Go.Arc
open Go.Ab
def jd7 (s:Str):Bool:=name s && (!(s == [111,112,101,110,101,100]) && !(s == [99,108,111,115,101,100]))
def jdd (a b:Int):Bool:=decide (0<=a/\a<=b/\b<=1048575)
def dayB (d f:Int):Bool:=decide (f<=d/\d<=1048575)
def jec (f:Fil) (n:Note):Bool:=jdd n.fst n.lst && dayB n.rcd f.opn
def early (l:List Note) (j:Nat):Bool:=match (if j=0 then none else l[j-1]?),l[j]? with
 | some x,some y=>decide (y.rcd<x.rcd)
 | _,_=>false
def jhs (l:List Note):Bool:=(List.range l.length).any (early l)
def jdy (f:Fil):Int:=
 if 16<f.nts.length then 8 else if (f.nts.any fun n=> !jd7 n.name)=true then 4 else if (f.nts.any fun n=> !jec f n)=true then 2 else if jhs f.nts=true then 5 else 0
def badF (f:Fil):Prop:=f.id<1\/1073741824<f.id\/dayB f.opn 0=false\/(dayB f.cld f.opn=false/\f.cld≠1048576)\/f.pts<0\/100<f.pts
instance (f:Fil):Decidable (badF f):=inferInstanceAs (Decidable (_\/_))
def jfl (os:List Ofc) (id d:Int):Bool:=match jaf os id with | some o=>inS o.frm o.til d | none=>false
def jgu (ps:List Plan) (f:Fil):Bool:=decide (idx ps f.opn<0) || !has (pl ps (idx ps f.opn).toNat) f.cls
def jek (l:List Fil) (i:Nat) (f:Fil):Bool:=match (if i=0 then none else l[i-1]?) with | some q=>decide (f.id<=q.id) | none=>false
def jdh (os:List Ofc) (ps:List Plan) (l:List Fil) (i:Nat):Int:=match l[i]? with
 | none=>0
 | some f=>if badF f then 2 else if jek l i f=true then 5 else if name f.title=false then 4 else if jfl os f.ofc f.opn=false then 7 else if jgu ps f=true then 24 else jdy f
def jei (os:List Ofc) (ps:List Plan) (l:List Fil):Int×Int:=if jca os=false\/jbe ps=false then (-1,1) else chk 256 l.length (jdh os ps l)
def jdl (n:Int) (f:Fil):Bool:=decide (f.id=n)
def jbp (l:List Fil) (n:Int):Int:=ix (jdl n) l
theorem early_s {l:List Note} {j:Nat} {x y:Note} (h0:j≠0) (hx:l[j-1]? = some x) (hy:l[j]? = some y):early l j=decide (y.rcd<x.rcd):=by
 unfold early; rw[if_neg h0,hx,hy]
theorem early_0 (l:List Note):early l 0=false:=by unfold early; rw[if_pos rfl]
theorem jr6 {l:List Note} {j:Nat} (hj:j<l.length) (h:early l j=true):jhs l=true:=by
 unfold jhs; rw[List.any_eq_true]; exact ⟨j,by simpa using hj,h⟩
theorem jqt {l:List Note} (h:∀j,j<l.length->early l j=false):jhs l=false:=by
 unfold jhs; rw[List.any_eq_false]; intro j hj; simp[h j zex]
theorem notesErr_8 {f:Fil} (h:16<f.nts.length):jdy f=8:=by unfold jdy; rw[if_pos h]
theorem notesErr_4 {f:Fil} (h:¬ 16<f.nts.length) (h4:(f.nts.any fun n=> !jd7 n.name)=true):jdy f=4:=by unfold jdy; rw[if_neg h,if_pos h4]
theorem jop {f:Fil} (h:¬ 16<f.nts.length) (h4:(f.nts.any fun n=> !jd7 n.name)=false) (h2:(f.nts.any fun n=> !jec f n)=true):jdy f=2:=by unfold jdy; rw[if_neg h,if_neg (by simp only[h4]; exact Bool.noConfusion),if_pos h2]
theorem notesErr_s {f:Fil} (h:¬ 16<f.nts.length) (h4:(f.nts.any fun n=> !jd7 n.name)=false) (h2:(f.nts.any fun n=> !jec f n)=false):jdy f=if jhs f.nts=true then 5 else 0:=by
 unfold jdy; rw[if_neg h,if_neg (by simp only[h4]; exact Bool.noConfusion),if_neg (by simp only[h2]; exact Bool.noConfusion)]
theorem jg0 {os:List Ofc} {ps:List Plan} {l:List Fil} {i:Nat} {f:Fil} (hf:l[i]? = some f) (h:badF f):jdh os ps l i=2:=by simp only[jdh,hf]; rw[if_pos h]
theorem faultF_r {os:List Ofc} {ps:List Plan} {l:List Fil} {i:Nat} {f:Fil} (hf:l[i]? = some f) (h:¬badF f):
  jdh os ps l i=if jek l i f=true then 5 else if name f.title=false then 4 else if jfl os f.ofc f.opn=false then 7 else if jgu ps f=true then 24 else jdy f:=by simp only[jdh,hf]; rw[if_neg h]
theorem prevF_0 (l:List Fil) (f:Fil):jek l 0 f=false:=by unfold jek; rw[if_pos rfl]
theorem prevF_s {l:List Fil} {i:Nat} {f q:Fil} (h0:i≠0) (hq:l[i-1]? = some q):jek l i f=decide (f.id<=q.id):=by unfold jek; rw[if_neg h0,hq]
theorem thereO_n {os:List Ofc} {id d:Int} (h:jaf os id=none):jfl os id d=false:=by unfold jfl; rw[h]
theorem thereO_s {os:List Ofc} {id d:Int} {o:Ofc} (h:jaf os id=some o):jfl os id d=inS o.frm o.til d:=by unfold jfl; rw[h]
end Go.Arc
