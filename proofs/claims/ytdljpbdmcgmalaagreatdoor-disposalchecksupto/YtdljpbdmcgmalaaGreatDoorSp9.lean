/- A part of this claim. -/
import Derived.Test.YtdljpbdmcgmalaaGreatDoorSp6
import Derived.Test.YtdljpbdmcgmalaaGreatDoorSp8
namespace Go.Arc
open Go.Ab
def jcf (s:Str):Bool:=name s && (!(s == [111,112,101,110,101,100]) && !(s == [99,108,111,115,101,100]))
def jce (a b:Int):Bool:=decide (0<=a/\a<=b/\b<=1048575)
def dayB (d f:Int):Bool:=decide (f<=d/\d<=1048575)
def jd6 (f:Fil) (n:Note):Bool:=jce n.fst n.lst && dayB n.rcd f.opn
def early (l:List Note) (j:Nat):Bool:=match (if j=0 then none else l[j-1]?),l[j]? with
 | some x,some y=>decide (y.rcd<x.rcd)
 | _,_=>false
def jgc (l:List Note):Bool:=(List.range l.length).any (early l)
def jde (f:Fil):Int:=
 if 16<f.nts.length then 8 else if (f.nts.any fun n=> !jcf n.name)=true then 4 else if (f.nts.any fun n=> !jd6 f n)=true then 2 else if jgc f.nts=true then 5 else 0
def badF (f:Fil):Prop:=f.id<1\/1073741824<f.id\/dayB f.opn 0=false\/(dayB f.cld f.opn=false/\f.cld≠1048576)\/f.pts<0\/100<f.pts
instance (f:Fil):Decidable (badF f):=inferInstanceAs (Decidable (_\/_))
def jf3 (os:List Ofc) (id d:Int):Bool:=match jab os id with | some o=>inS o.frm o.til d | none=>false
def jgk (ps:List Plan) (f:Fil):Bool:=decide (idx ps f.opn<0) || !has (pl ps (idx ps f.opn).toNat) f.cls
def je5 (l:List Fil) (i:Nat) (f:Fil):Bool:=match (if i=0 then none else l[i-1]?) with | some q=>decide (f.id<=q.id) | none=>false
def jd8 (os:List Ofc) (ps:List Plan) (l:List Fil) (i:Nat):Int:=match l[i]? with
 | none=>0
 | some f=>if badF f then 2 else if je5 l i f=true then 5 else if name f.title=false then 4 else if jf3 os f.ofc f.opn=false then 7 else if jgk ps f=true then 24 else jde f
def jdq (os:List Ofc) (ps:List Plan) (l:List Fil):Int×Int:=if jby os=false\/jb6 ps=false then (-1,1) else chk 256 l.length (jd8 os ps l)
def jda (n:Int) (f:Fil):Bool:=decide (f.id=n)
def jbi (l:List Fil) (n:Int):Int:=ix (jda n) l
theorem early_s {l:List Note} {j:Nat} {x y:Note} (h0:j≠0) (hx:l[j-1]? = some x) (hy:l[j]? = some y):early l j=decide (y.rcd<x.rcd):=by
 unfold early; rw[if_neg h0,hx,hy]
theorem early_0 (l:List Note):early l 0=false:=by unfold early; rw[if_pos rfl]
theorem jqn {l:List Note} {j:Nat} (hj:j<l.length) (h:early l j=true):jgc l=true:=by
 unfold jgc; rw[List.any_eq_true]; exact ⟨j,by simpa using hj,h⟩
theorem jq9 {l:List Note} (h:∀j,j<l.length->early l j=false):jgc l=false:=by
 unfold jgc; rw[List.any_eq_false]; intro j hj; simp[h j zek]
theorem jo5 {f:Fil} (h:16<f.nts.length):jde f=8:=by unfold jde; rw[if_pos h]
theorem jo6 {f:Fil} (h:¬ 16<f.nts.length) (h4:(f.nts.any fun n=> !jcf n.name)=true):jde f=4:=by unfold jde; rw[if_neg h,if_pos h4]
theorem jlo {f:Fil} (h:¬ 16<f.nts.length) (h4:(f.nts.any fun n=> !jcf n.name)=false) (h2:(f.nts.any fun n=> !jd6 f n)=true):jde f=2:=by unfold jde; rw[if_neg h,if_neg (by simp only[h4]; exact Bool.noConfusion),if_pos h2]
theorem jo4 {f:Fil} (h:¬ 16<f.nts.length) (h4:(f.nts.any fun n=> !jcf n.name)=false) (h2:(f.nts.any fun n=> !jd6 f n)=false):jde f=if jgc f.nts=true then 5 else 0:=by
 unfold jde; rw[if_neg h,if_neg (by simp only[h4]; exact Bool.noConfusion),if_neg (by simp only[h2]; exact Bool.noConfusion)]
theorem jfi {os:List Ofc} {ps:List Plan} {l:List Fil} {i:Nat} {f:Fil} (hf:l[i]? = some f) (h:badF f):jd8 os ps l i=2:=by simp only[jd8,hf]; rw[if_pos h]
theorem faultF_r {os:List Ofc} {ps:List Plan} {l:List Fil} {i:Nat} {f:Fil} (hf:l[i]? = some f) (h:¬badF f):
  jd8 os ps l i=if je5 l i f=true then 5 else if name f.title=false then 4 else if jf3 os f.ofc f.opn=false then 7 else if jgk ps f=true then 24 else jde f:=by simp only[jd8,hf]; rw[if_neg h]
theorem prevF_0 (l:List Fil) (f:Fil):je5 l 0 f=false:=by unfold je5; rw[if_pos rfl]
theorem prevF_s {l:List Fil} {i:Nat} {f q:Fil} (h0:i≠0) (hq:l[i-1]? = some q):je5 l i f=decide (f.id<=q.id):=by unfold je5; rw[if_neg h0,hq]
theorem thereO_n {os:List Ofc} {id d:Int} (h:jab os id=none):jf3 os id d=false:=by unfold jf3; rw[h]
theorem thereO_s {os:List Ofc} {id d:Int} {o:Ofc} (h:jab os id=some o):jf3 os id d=inS o.frm o.til d:=by unfold jf3; rw[h]
end Go.Arc
