/- A part of this claim. -/
import Derived.Test.YtdljpbdmcgmalaaGreatDoorW8
namespace Go.Arc
open Go.Ab
theorem dec_no46 {n:Nat} (h:n<1000):∀c∈dec n,c≠46:=by
 have:∀n:Fin 1000,∀c∈dec n.1,c≠46:=by decide +kernel
 exact this ⟨n,h⟩
theorem dec_ne (n:Nat):dec n≠[]:=by unfold dec; split <;> (try split) <;> simp
theorem jm4:∀(a cur r:Str),(∀c∈a,c≠46)->split cur (a++r)=split (cur++a) r
 | [],cur,r,_=>by simp
 | c::a,cur,r,h=>by
  simp only[List.cons_append,split];rw[if_neg (h c sm),jm4 a _ r fun d hd=>h d (by simp[hd])];simp
theorem split_dots:∀(l:List Nat) (cur:Str),(∀n∈l,n<1000)->split cur (dots l)=cur::l.map dec
 | [],cur,_=>by simp[dots,split]
 | n::r,cur,h=>by
  simp only[dots,List.cons_append,split,if_true,List.map_cons];rw[jm4 _ _ _ (dec_no46 (h n sm)),split_dots r _ fun m hm=>h m (by simp[hm])];rfl
theorem numsOf_dec:∀(l:List Nat),(∀n∈l,1<=n/\n<1000)->jaz (l.map dec)=some l
 | [],_=>rfl
 | n::r,h=>by
  obtain ⟨h1,h2⟩:=h n sm;simp only[List.map_cons,jaz,part_dec h1 h2,numsOf_dec r fun m hm=>h m (by simp[hm])]
theorem parse_fmt {l:List Nat} (h0:l≠[]) (h6:l.length<=6) (hn:∀n∈l,1<=n/\n<1000):ja5 (fmt l)=some l:=by
 cases l with
 | nil=>exact absurd rfl h0
 | cons n r=>
  have e:jaz (split [] (fmt (n::r)))=some (n::r):=by
   rw[jko,jm4 _ _ _ (dec_no46 (hn n sm).2),split_dots r _ fun m hm=>(hn m (by simp[hm])).2];exact numsOf_dec (n::r) hn
  unfold ja5;rw[e]; simp only; rw[if_pos h6]
def glue:List Str->Str
 | []=>[]
 | p::r=>46::p++glue r
theorem job:∀(s cur:Str),glue (split cur s)=46::cur++s
 | [],cur=>by simp[split,glue]
 | c::r,cur=>by
  simp only[split];split
  ·rename_i h;simp only[glue];rw[job r []]; simp[h]
  ·rw[job r]; simp
theorem glue_dec:∀ {l:List Str} {ns:List Nat},jaz l=some ns->glue l=dots ns
 | [],ns,h=>by simp[jaz] at h; subst h; rfl
 | p::r,ns,h=>by
  simp only[jaz] at h;split at h
  ·rename_i n l h1 h2;cases h;simp only[glue,dots,dec_part h1,glue_dec h2]
  ·cases h
theorem fmt_parse {s:Str} {l:List Nat} (h:ja5 s=some l):fmt l=s:=by
 obtain ⟨h0,-,-⟩:=jd3 h;unfold ja5 at h;split at h
 ·rename_i l' h1;split at h
  ·cases h;have e:=glue_dec h1;rw[job] at e;cases l with
   | nil=>exact absurd rfl h0
   | cons n r=>
    rw[jko];simp only[dots,List.cons_append,List.nil_append,List.cons.injEq,true_and] at e;exact e.symm
  ·cases h
 ·cases h
theorem jln {s:Str} {l:List Nat} (h:ja5 s=some l) {j:Nat} (h1:1<=j) (h2:j<=l.length):ja5 (fmt (l.take j))=some (l.take j):=by
 obtain ⟨h0,h6,hn⟩:=jd3 h;refine parse_fmt (fun e=> ?_) zd4 fun n h=>hn n (List.mem_of_mem_take h);have:=congrArg List.length e;rw[List.length_take,List.length_nil] at this;omega
theorem parse_nil:ja5 []=none:=by simp[ja5,split,jaz,part]
theorem fmt_ne {l:List Nat} (h:l≠[]):fmt l≠[]:=by
 cases l with
 | nil=>exact absurd rfl h
 | cons n r=>rw[jko]; simp[dec_ne]
def lens (s:Str):Nat:=match ja5 s with | some l=>l.length | none=>0
theorem jgq {s:Str} {l:List Nat} (h:ja5 s=some l):lens s=l.length:=by simp[lens,h]
theorem lens_n {s:Str} (h:ja5 s=none):lens s=0:=by simp[lens,h]
theorem jjv:∀(l:List Nat),(fmt l).length<=4*l.length
 | []=>by simp[fmt]
 | [n]=>by have:=dec_len n; simp[fmt]; omega
 | n::m::r=>by
  have:=dec_len n;have:=jjv (m::r);simp only[fmt,List.length_append,List.length_cons] at *;omega
def jf5 (p:Plan) (l:List Nat):Nat->Option Str
 | 0=>none
 | k+1=>if has p (fmt (l.take (k+1)))=true then some (fmt (l.take (k+1))) else jf5 p l k
def up (p:Plan) (s:Str):Option Str:=if has p s=true then some s else match ja5 s with
 | none=>none
 | some l=>jf5 p l (l.length-1)
def next (old new:Plan) (s:Str):Option Str:=if has old s=true then
  match new.mov.find? (fun m=>m.frm == s) with
  | some m=>some m.to
  | none=>up new s
 else none
theorem climb_none {p:Plan} {l:List Nat} : ∀ {n:Nat},(∀i,1<=i->i<=n->has p (fmt (l.take i))=false)->jf5 p l n=none
 | 0,_=>rfl
 | n+1,h=>by
  simp only[jf5];rw[h (n+1) om om,climb_none fun i h1 h2=>h i h1 om];simp
theorem climb_some {p:Plan} {l:List Nat} {j:Nat} (h1:1<=j) (hj:has p (fmt (l.take j))=true):∀ {n:Nat},j<=n->(∀i,j<i->i<=n->has p (fmt (l.take i))=false)->jf5 p l n=some (fmt (l.take j))
 | 0,h2,_=>by omega
 | n+1,h2,h=>by
  simp only[jf5];by_cases e:j=n+1
  ·rw[<- e,hj]; simp
  ·rw[h (n+1) om om,climb_some h1 hj om fun i g1 g2=>h i g1 om];simp
theorem climb_take {p:Plan} {l:List Nat} {m:Nat} : ∀ {n:Nat},n<=m->jf5 p (l.take m) n=jf5 p l n
 | 0,_=>rfl
 | n+1,h=>by
  simp only[jf5];rw[climb_take om,List.take_take,Nat.min_eq_left om]
theorem jqr {s u:Str} (h:jcy s=some u):∃l,ja5 s=some l/\2<=l.length/\u=fmt (l.take (l.length-1))/\ja5 u=some (l.take (l.length-1)):=by
 unfold jcy at h;split at h
 ·rename_i l hl;split at h
  ·cases h
  ·simp only[Option.some.injEq] at h;subst h;exact ⟨l,hl,om,rfl,jln hl om om⟩
 ·cases h
theorem up_parent {p:Plan} {s u:Str} (h:jcy s=some u) (hs:has p s=false):up p s=up p u:=by
 obtain ⟨l,hl,h2,rfl,hu⟩:=jqr h;simp only[up,hs,hl,hu,Bool.false_eq_true,if_false];obtain ⟨k,hk⟩:∃k,l.length-1=k+1:=⟨l.length-2,om⟩;rw[hk];simp only[jf5,List.length_take];split
 ·rfl
 ·rw[climb_take om];congr 1;omega
theorem up_top {p:Plan} {s:Str} (h:jcy s=none) (hs:has p s=false):up p s=none:=by
 simp only[up,hs,Bool.false_eq_true,if_false];unfold jcy at h;split at h
 ·rename_i l hl;split at h
  ·rw[hl];obtain ⟨h0,-,-⟩:=jd3 hl;have:=List.length_pos_iff.2 h0;simp only;rw[show l.length-1=0 by omega]; rfl
  ·cases h
 ·rename_i hl;rw[hl]
theorem jql {a b:Str} (h:jbs a b=true):∃l m,ja5 a=some l/\ja5 b=some m/\1<=m.length/\m.length<=l.length/\l.take m.length=m:=by
 unfold jbs at h;split at h
 ·rename_i l m hl hm;simp only[Bool.and_eq_true,decide_eq_true_eq] at h;obtain ⟨h0,-,-⟩:=jd3 hm;exact ⟨l,m,hl,hm,List.length_pos_iff.2 h0,h.1,h.2⟩
 ·cases h
theorem within_take {s:Str} {l:List Nat} (h:ja5 s=some l) {j:Nat} (h1:1<=j) (h2:j<=l.length):jbs s (fmt (l.take j))=true:=by
 unfold jbs;rw[h,jln h h1 h2];simp; omega
theorem has_iff {p:Plan} {s:Str} : has p s=true↔∃c∈p.cls,c.code=s:=by
 simp[has]
def pre (s:Str) (j:Nat):Str:=match ja5 s with
 | some l=>if j=0 then [] else fmt (l.take j)
 | none=>[]
theorem jml (s:Str):pre s 0=[]:=by unfold pre; split <;> simp
theorem jki {s:Str} {l:List Nat} (h:ja5 s=some l) {j:Nat} (hj:j≠0):pre s j=fmt (l.take j):=by
 unfold pre; rw[h]; simp[hj]
theorem within_pre {s c:Str} (h:jbs s c=true):1<=lens c/\lens c<=lens s/\c=pre s (lens c):=by
 obtain ⟨l,m,hl,hm,h1,h2,h3⟩:=jql h;rw[jgq hl,jgq hm,jki hl om,h3,fmt_parse hm];exact ⟨h1,h2,rfl⟩
theorem up_best {p:Plan} {s:Str} {j:Nat} (hs:has p s=false) (hj:j<=lens s) (h0:0<j->has p (pre s j)=true) (hall:∀c∈p.cls,jbs s c.code=true->lens c.code<=j):
  up p s=if j=0 then none else some (pre s j):=by
 simp only[up,hs,Bool.false_eq_true,if_false];cases hp:ja5 s with
 | none=>
  rw[lens_n hp] at hj;simp; omega
 | some l=>
  rw[jgq hp] at hj
  have hno:∀i,j<i->i<=l.length-1->has p (fmt (l.take i))=false:=fun i h1 h2=>by
   cases hh:has p (fmt (l.take i))
   ·rfl
   ·obtain ⟨c,hc,he⟩:=has_iff.1 hh;have hw:=within_take hp (j:=i) om om;rw[<- he] at hw;have:=hall c hc hw;rw[he,jgq (jln hp om om)] at this;simp at this;omega
  by_cases hz:j=0
  ·subst hz;simp only[if_true];exact climb_none fun i h1 h2=>hno i om h2
  ·rw[if_neg hz];have hh:=h0 om;rw[jki hp hz] at hh ⊢;refine climb_some om hh ?_ hno;rcases Nat.lt_or_ge j l.length with h | h
   ·omega
   ·have:l.take j=l:=List.take_of_length_le h;rw[this,fmt_parse hp,hs] at hh;cases hh
def lt2 (a b:Str):Bool:=match cmp a b with
 | some n=>decide (n<0)
 | none=>false
def jc6:List Str->Bool
 | a::b::r=>lt2 a b && jc6 (b::r)
 | _=>true
def jem (p:Plan) (c:Cls):Bool:=match jcy c.code with
 | some u=> !has p u
 | none=>false
def jc9 (p:Plan):Int:=
 if p.cls.any (fun c=> !(ja5 c.code).isSome)=true then 3 else if p.cls.any (fun c=> !name c.title)=true then 4 else
 if jc6 (p.cls.map (·.code))=false then 5 else if p.cls.any (jem p)=true then 7 else 0
def jen (old p:Plan):Int:=
 if p.mov.any (fun m=> !has old m.frm || !has p m.to)=true then 7 else if jc6 (p.mov.map (·.frm))=false then 5 else
 if old.cls.any (fun c=>(next old p c.code).isNone)=true then 24 else 0
def jdl (q:Option Plan) (i:Nat) (p:Plan):Int:=
 if p.ver≠i+1\/jak p.frm p.til=false then 2 else if (∃q',q=some q'/\p.frm≠q'.til) then 16 else
 if 128<p.cls.length\/128<p.mov.length then 8 else if jc9 p≠0 then jc9 p else
 match q with
 | none=>if 0<p.mov.length then 1 else 0
 | some q=>jen q p
def before (l:List Plan) (i:Nat):Option Plan:=if i=0 then none else l[i-1]?
def jcp (l:List Plan) (i:Nat):Int:=match l[i]? with
 | none=>0
 | some p=>jdl (before l i) i p
def bad (l:List Plan):Option Nat:=(List.range l.length).find? fun i=>jcp l i != 0
def check (l:List Plan):Int×Int:=if 16<l.length then (-1,8) else match bad l with
 | some i=>(i,jcp l i)
 | none=>(-1,0)
abbrev jhp (l:List Plan):V:= .tup [vi (check l).1,vi (check l).2]
def jb6 (l:List Plan):Bool:=(check l).2 == 0
def idx (l:List Plan) (d:Int):Int:=ix (fun p=>inS p.frm p.til d) l
def atL (l:List Plan) (d:Int):Int:=if jb6 l=true then idx l d else -1
theorem jdr {α:Type} {l:List α} {q:α->Bool} {k:Nat} {x:α} (hx:l[k]? = some x) (hq:q x=true):l.any q=true:=
 List.any_eq_true.2 ⟨x,List.mem_of_getElem? hx,hq⟩
theorem jfo {α:Type} {l:List α} {q:α->Bool} {k:Nat} (h:∀e∈l.take k,q e=false) (hk:¬k<l.length):l.any q=false:=by
 rw[List.any_eq_false];intro x hx;simp[jcw h hk x hx]
theorem jnb {l:List Str} {k:Nat} {x y:Str} (hd:l.drop k=x::l.drop (k+1)) (he:l.drop (k+1)=y::l.drop (k+1+1)):jc6 (l.drop k)=(lt2 x y && jc6 (l.drop (k+1))):=by
 rw[hd,he]; rfl
theorem jnw {l:List Str} {k:Nat} (h:¬k+1<l.length):jc6 (l.drop k)=true:=by
 have:(l.drop k).length<=1:=by simp; omega
 match l.drop k,this with
 | [],_=>rfl
 | [_],_=>rfl
 | _::_::_,h=>simp at h
theorem bad_at {l:List Plan} {k:Nat} (hk:k<l.length) (h:∀i,i<k->jcp l i=0) (hf:jcp l k≠0):bad l=some k:=by
 unfold bad;rw[List.find?_range_eq_some];exact ⟨by simpa using hf,by simpa using hk,fun i hi=>by simp[h i hi]⟩
theorem bad_none {l:List Plan} (h:∀i,i<l.length->jcp l i=0):bad l=none:=by
 unfold bad;rw[List.find?_eq_none];intro i hi;simp[h i zel]
end Go.Arc
