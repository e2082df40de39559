/- A part of this claim. -/
import Derived.Test.YtdljpbdmcgmalaaGreatDoorSp2
namespace Go.Arc
open Go.Ab
def jjt (n:Nat) (f:Nat->Int):Option Nat:=(List.range n).find? fun i=>f i != 0
def chk (lim n:Nat) (f:Nat->Int):Int×Int:=if lim<n then (-1,8) else match jjt n f with
 | some i=>(i,f i)
 | none=>(-1,0)
abbrev chkV (c:Int×Int):V:= .tup [vi c.1,vi c.2]
theorem jdz {lim n:Nat} {f:Nat->Int} (h:lim<n):chk lim n f=(-1,8):=by simp[chk,h]
theorem jeb {lim n:Nat} {f:Nat->Int} (h:¬lim<n) {k:Nat} (hk:k<n) (ha:∀i,i<k->f i=0) (hf:f k≠0):chk lim n f=((k:Int),f k):=by
 have:jjt n f=some k:=by
  unfold jjt;rw[List.find?_range_eq_some];exact ⟨by simpa using hf,by simpa using hk,fun i hi=>by simp[ha i hi]⟩
 simp[chk,h,this]
theorem jds {lim n:Nat} {f:Nat->Int} (h:¬lim<n) (ha:∀i,i<n->f i=0):chk lim n f=(-1,0):=by
 have:jjt n f=none:=by
  unfold jjt;rw[List.find?_eq_none];intro i hi;simp[ha i zey]
 simp[chk,h,this]
theorem jh8 {lim n:Nat} {f:Nat->Int} (h:(chk lim n f).2=0):¬lim<n/\∀i,i<n->f i=0:=by
 by_cases hl:lim<n
 ·rw[jdz hl] at h; cases h
 ·refine ⟨hl,fun i hi=> ?_⟩;unfold chk at h;rw[if_neg hl] at h;cases hb:jjt n f with
  | some k=>
   rw[hb] at h;have:=List.find?_some hb;simp only at h;rw[h] at this;simp at this
  | none=>
   have:=List.find?_eq_none.1 hb i zey;exact zcw
abbrev ints (l:List Int):V:= .slice 1 (l.map Cint)
structure Ofc where
 id:Int
 name:Str
 frm:Int
 til:Int
 nxt:List Int
abbrev Ofc.cs (o:Ofc):List V:=[vi o.id,.str o.name,vi o.frm,vi o.til,ints o.nxt]
abbrev ofcs (l:List Ofc):V:= .slice 5 (l.map Ofc.cs)
def Ofc.Fit (o:Ofc):Prop:=o.name.length<=1048576/\o.nxt.length<=1048576
def jdw (l:List Ofc):Prop:=l.length<=1048576/\∀o∈l,o.Fit
def isId (n:Int) (o:Ofc):Bool:=decide (o.id=n)
def findO (l:List Ofc) (n:Int):Int:=ix (isId n) l
def jaf (l:List Ofc) (n:Int):Option Ofc:=l.find? (isId n)
def frmO (l:List Ofc) (n:Int):Int:=match jaf l n with | some x=>x.frm | none=>0
def dupAt (l:List Int) (i:Nat):Bool:=match l[i]? with | some x=>(l.take i).any (fun y=>decide (x=y)) | none=>false
def dups (l:List Int):Bool:=(List.range l.length).any (dupAt l)
def jc3 (l:List Ofc) (o:Ofc):Int:=
 if dups o.nxt=true then 6 else if (o.nxt.any fun n=>(jaf l n).isNone)=true then 7 else if (o.nxt.any fun n=> !decide (frmO l n=o.til))=true then 10 else 0
def badO (o:Ofc):Prop:=o.id<1\/1073741824<o.id\/jaq o.frm o.til=false\/8<o.nxt.length
instance (o:Ofc):Decidable (badO o):=inferInstanceAs (Decidable (_\/_))
def jct (l:List Ofc) (i:Nat):Int:=match l[i]? with
 | none=>0
 | some o=>if badO o then 2 else if name o.name=false then 4 else
  if (match (if i=0 then none else l[i-1]?) with | some q=>decide (o.id<=q.id) | none=>false)=true then 5 else jc3 l o
def jcv (l:List Ofc):Int×Int:=chk 32 l.length (jct l)
def jca (l:List Ofc):Bool:=(jcv l).2 == 0
theorem dups_at {l:List Int} {i:Nat} {x:Int} (hx:l[i]? = some x) (h:(l.take i).any (fun y=>decide (x=y))=true):dups l=true:=by
 unfold dups;rw[List.any_eq_true];exact ⟨i,by simpa using (gsi.1 hx).1,by simp only[dupAt,hx]; exact h⟩
theorem dups_end {l:List Int} (h:∀i,i<l.length->dupAt l i=false):dups l=false:=by
 unfold dups;rw[List.any_eq_false];intro i hi;simp[h i zey]
theorem dupAt_f {l:List Int} {i:Nat} {x:Int} (hx:l[i]? = some x) (h:(l.take i).any (fun y=>decide (x=y))=false):dupAt l i=false:=by
 simp only[dupAt,hx]; exact h
def addO (es:List Ofc) (o:Ofc):List Ofc:=if (jaf es o.id).isSome=true then es else es++[o]
def idxO (l:List Ofc):List Ofc:=l.foldl addO []
def jf8 (es:List Ofc):List (V×V):=es.map fun o=>(vi o.id,.agg o.cs)
abbrev mapO (es:List Ofc):V:= .map ((jf8 es).map (·.1)) ((jf8 es).map (·.2))
theorem jlv {α β:Type} : ∀l:List (α×β),(l.map (·.1)).zip (l.map (·.2))=l
 | []=>rfl
 | _::r=>by simp only[List.map_cons,List.zip_cons_cons,jlv r]
theorem jjf (n:Int):∀es:List Ofc,findV (vi n) (jf8 es)=some ((jaf es n).map fun o=> .agg o.cs)
 | []=>rfl
 | o::r=>by
  have ih:=jjf n r;unfold jf8 at ih;simp only[jf8,List.map_cons,findV,jel,if_true,jaf,List.find?_cons,isId];by_cases h:n=o.id
  ·subst h; simp
  ·have h':¬o.id=n:=fun e=>h e.symm;simp only[h,h',decide_false];exact ih
theorem jqs {o:Ofc} : ∀ {es:List Ofc},jaf es o.id=none->jfk (vi o.id) (.agg o.cs) (jf8 es)=some (jf8 (es++[o]))
 | [],_=>rfl
 | e::r,h=>by
  simp only[jaf,List.find?_cons,isId] at h;by_cases hk:e.id=o.id
  ·simp[hk] at h
  ·have hk':¬o.id=e.id:=fun x=>hk x.symm;simp only[hk,decide_false] at h;have ih:=jqs (o:=o) (es:=r) h;unfold jf8 at ih;simp only[jf8,List.map_cons,List.cons_append,jfk,jel,if_true,hk',decide_false,ih,Option.map_some]
theorem look_addO (es:List Ofc) (o:Ofc) (n:Int):jaf (addO es o) n=match jaf es n with | some x=>some x | none=>if isId n o=true then some o else none:=by
 unfold addO;split
 ·rename_i h;cases e:jaf es n with
  | some x=>rfl
  | none=>
   by_cases hn:isId n o=true
   ·have:o.id=n:=by simpa [isId] using hn
    rw[this,e] at h; cases h
   ·rw[if_neg hn]
 ·unfold jaf;rw[List.find?_append];cases e:List.find? (isId n) es with
  | some x=>rfl
  | none=>
   simp only[Option.none_or,List.find?_cons,List.find?_nil];cases isId n o <;> rfl
theorem look_fold (n:Int):∀(l es:List Ofc),jaf (l.foldl addO es) n=match jaf es n with | some x=>some x | none=>jaf l n
 | [],es=>by
  show jaf es n=_
  cases jaf es n <;> rfl
 | o::r,es=>by
  rw[List.foldl_cons,look_fold n r,look_addO];cases e:jaf es n with
  | some x=>rfl
  | none=>
   simp only;by_cases h:isId n o=true
   ·simp[jaf,h]
   ·simp[jaf,h]
theorem jn8 (l:List Ofc) (n:Int):jaf (idxO l) n=jaf l n:=by
 unfold idxO; rw[look_fold]; rfl
theorem jkj (l:List Ofc) (n:Int):(findO l n<0/\jaf l n=none)\/∃(i:Nat) (o:Ofc),findO l n=i/\l[i]? = some o/\jaf l n=some o:=by
 unfold findO jaf;cases h:l.findIdx? (isId n) with
 | none=>
  exact zca
 | some i=>
  obtain ⟨hlt,hpi,hbef⟩:=List.findIdx?_eq_some_iff_getElem.1 h;refine .inr ⟨i,l[i],by simp[ix,h],gge hlt,?_⟩;exact zcz
theorem succ_idx (l:List Ofc) (o:Ofc):jc3 (idxO l) o=jc3 l o:=by
 have e:∀n,frmO (idxO l) n=frmO l n:=fun n=>by unfold frmO; rw[jn8]
 have h:(fun n=> !decide (frmO (idxO l) n=o.til))=fun n=> !decide (frmO l n=o.til):=by funext n; rw[e]
 unfold jc3;rw[h];simp only[jn8]
theorem jh7 {l:List Ofc} {i:Nat} {o:Ofc} (ho:l[i]? = some o) (h:badO o):jct l i=2:=by simp only[jct,ho]; rw[if_pos h]
theorem faultO_4 {l:List Ofc} {i:Nat} {o:Ofc} (ho:l[i]? = some o) (h:¬badO o) (hn:name o.name=false):jct l i=4:=by simp only[jct,ho]; rw[if_neg h,if_pos hn]
theorem faultO_5 {l:List Ofc} {i:Nat} {o q:Ofc} (ho:l[i]? = some o) (h:¬badO o) (hn:name o.name=true) (h0:i≠0) (hq:l[i-1]? = some q) (hle:o.id<=q.id):jct l i=5:=by
 exact zd3
theorem faultO_s {l:List Ofc} {i:Nat} {o q:Ofc} (ho:l[i]? = some o) (h:¬badO o) (hn:name o.name=true) (h0:i≠0) (hq:l[i-1]? = some q) (hle:¬o.id<=q.id):jct l i=jc3 l o:=by
 exact zd3
theorem jpt {l:List Ofc} {o:Ofc} (ho:l[0]? = some o) (h:¬badO o) (hn:name o.name=true):jct l 0=jc3 l o:=by
 simp only[jct,ho]; rw[if_neg h,if_neg (by simp[hn])]; simp
end Go.Arc
