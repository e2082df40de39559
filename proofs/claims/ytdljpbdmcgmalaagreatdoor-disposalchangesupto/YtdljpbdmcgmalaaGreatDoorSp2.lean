/- A part of this claim. -/
import Derived.Test.YtdljpbdmcgmalaaGreatDoorW8
namespace Go.Arc
open Go.Ab
theorem dec_no46 {n:Nat} (h:n<1000):∀c∈dec n,c≠46:=by
 have:∀n:Fin 1000,∀c∈dec n.1,c≠46:=by decide +kernel
 exact this ⟨n,h⟩
theorem dec_ne (n:Nat):dec n≠[]:=by unfold dec; split <;> (try split) <;> simp
theorem jmp:∀(a cur r:Str),(∀c∈a,c≠46)->split cur (a++r)=split (cur++a) r
 | [],cur,r,_=>by simp
 | c::a,cur,r,h=>by
  simp only[List.cons_append,split];rw[if_neg (h c sm),jmp a _ r fun d hd=>h d (by simp[hd])];simp
theorem split_dots:∀(l:List Nat) (cur:Str),(∀n∈l,n<1000)->split cur (dots l)=cur::l.map dec
 | [],cur,_=>by simp[dots,split]
 | n::r,cur,h=>by
  simp only[dots,List.cons_append,split,if_true,List.map_cons];rw[jmp _ _ _ (dec_no46 (h n sm)),split_dots r _ fun m hm=>h m (by simp[hm])];rfl
theorem numsOf_dec:∀(l:List Nat),(∀n∈l,1<=n/\n<1000)->jb5 (l.map dec)=some l
 | [],_=>rfl
 | n::r,h=>by
  obtain ⟨h1,h2⟩:=h n sm;simp only[List.map_cons,jb5,part_dec h1 h2,numsOf_dec r fun m hm=>h m (by simp[hm])]
theorem parse_fmt {l:List Nat} (h0:l≠[]) (h6:l.length<=6) (hn:∀n∈l,1<=n/\n<1000):ja6 (fmt l)=some l:=by
 cases l with
 | nil=>exact absurd rfl h0
 | cons n r=>
  have e:jb5 (split [] (fmt (n::r)))=some (n::r):=by
   rw[jld,jmp _ _ _ (dec_no46 (hn n sm).2),split_dots r _ fun m hm=>(hn m (by simp[hm])).2];exact numsOf_dec (n::r) hn
  unfold ja6;rw[e]; simp only; rw[if_pos h6]
def glue:List Str->Str
 | []=>[]
 | p::r=>46::p++glue r
theorem jou:∀(s cur:Str),glue (split cur s)=46::cur++s
 | [],cur=>by simp[split,glue]
 | c::r,cur=>by
  simp only[split];split
  ·rename_i h;simp only[glue];rw[jou r []]; simp[h]
  ·rw[jou r]; simp
theorem glue_dec:∀ {l:List Str} {ns:List Nat},jb5 l=some ns->glue l=dots ns
 | [],ns,h=>by simp[jb5] at h; subst h; rfl
 | p::r,ns,h=>by
  simp only[jb5] at h;split at h
  ·rename_i n l h1 h2;cases h;simp only[glue,dots,dec_part h1,glue_dec h2]
  ·cases h
theorem fmt_parse {s:Str} {l:List Nat} (h:ja6 s=some l):fmt l=s:=by
 obtain ⟨h0,-,-⟩:=jde h;unfold ja6 at h;split at h
 ·rename_i l' h1;split at h
  ·cases h;have e:=glue_dec h1;rw[jou] at e;cases l with
   | nil=>exact absurd rfl h0
   | cons n r=>
    rw[jld];simp only[dots,List.cons_append,List.nil_append,List.cons.injEq,true_and] at e;exact e.symm
  ·cases h
 ·cases h
theorem jma {s:Str} {l:List Nat} (h:ja6 s=some l) {j:Nat} (h1:1<=j) (h2:j<=l.length):ja6 (fmt (l.take j))=some (l.take j):=by
 obtain ⟨h0,h6,hn⟩:=jde h;refine parse_fmt (fun e=> ?_) zei fun n h=>hn n (List.mem_of_mem_take h);have:=congrArg List.length e;rw[List.length_take,List.length_nil] at this;omega
theorem parse_nil:ja6 []=none:=by simp[ja6,split,jb5,part]
theorem fmt_ne {l:List Nat} (h:l≠[]):fmt l≠[]:=by
 cases l with
 | nil=>exact absurd rfl h
 | cons n r=>rw[jld]; simp[dec_ne]
def lens (s:Str):Nat:=match ja6 s with | some l=>l.length | none=>0
theorem jgz {s:Str} {l:List Nat} (h:ja6 s=some l):lens s=l.length:=by simp[lens,h]
theorem lens_n {s:Str} (h:ja6 s=none):lens s=0:=by simp[lens,h]
theorem jki:∀(l:List Nat),(fmt l).length<=4*l.length
 | []=>by simp[fmt]
 | [n]=>by have:=dec_len n; simp[fmt]; omega
 | n::m::r=>by
  have:=dec_len n;have:=jki (m::r);simp only[fmt,List.length_append,List.length_cons] at *;omega
def jfn (p:Plan) (l:List Nat):Nat->Option Str
 | 0=>none
 | k+1=>if has p (fmt (l.take (k+1)))=true then some (fmt (l.take (k+1))) else jfn p l k
def up (p:Plan) (s:Str):Option Str:=if has p s=true then some s else match ja6 s with
 | none=>none
 | some l=>jfn p l (l.length-1)
def next (old new:Plan) (s:Str):Option Str:=if has old s=true then
  match new.mov.find? (fun m=>m.frm == s) with
  | some m=>some m.to
  | none=>up new s
 else none
theorem climb_none {p:Plan} {l:List Nat} : ∀ {n:Nat},(∀i,1<=i->i<=n->has p (fmt (l.take i))=false)->jfn p l n=none
 | 0,_=>rfl
 | n+1,h=>by
  simp only[jfn];rw[h (n+1) om om,climb_none fun i h1 h2=>h i h1 om];simp
theorem climb_some {p:Plan} {l:List Nat} {j:Nat} (h1:1<=j) (hj:has p (fmt (l.take j))=true):∀ {n:Nat},j<=n->(∀i,j<i->i<=n->has p (fmt (l.take i))=false)->jfn p l n=some (fmt (l.take j))
 | 0,h2,_=>by omega
 | n+1,h2,h=>by
  simp only[jfn];by_cases e:j=n+1
  ·rw[<- e,hj]; simp
  ·rw[h (n+1) om om,climb_some h1 hj om fun i g1 g2=>h i g1 om];simp
theorem climb_take {p:Plan} {l:List Nat} {m:Nat} : ∀ {n:Nat},n<=m->jfn p (l.take m) n=jfn p l n
 | 0,_=>rfl
 | n+1,h=>by
  simp only[jfn];rw[climb_take om,List.take_take,Nat.min_eq_left om]
theorem jra {s u:Str} (h:jdb s=some u):∃l,ja6 s=some l/\2<=l.length/\u=fmt (l.take (l.length-1))/\ja6 u=some (l.take (l.length-1)):=by
 unfold jdb at h;split at h
 ·rename_i l hl;split at h
  ·cases h
  ·simp only[Option.some.injEq] at h;subst h;exact ⟨l,hl,om,rfl,jma hl om om⟩
 ·cases h
theorem up_parent {p:Plan} {s u:Str} (h:jdb s=some u) (hs:has p s=false):up p s=up p u:=by
 obtain ⟨l,hl,h2,rfl,hu⟩:=jra h;simp only[up,hs,hl,hu,Bool.false_eq_true,if_false];obtain ⟨k,hk⟩:∃k,l.length-1=k+1:=⟨l.length-2,om⟩;rw[hk];simp only[jfn,List.length_take];split
 ·rfl
 ·rw[climb_take om];congr 1;omega
theorem up_top {p:Plan} {s:Str} (h:jdb s=none) (hs:has p s=false):up p s=none:=by
 simp only[up,hs,Bool.false_eq_true,if_false];unfold jdb at h;split at h
 ·rename_i l hl;split at h
  ·rw[hl];obtain ⟨h0,-,-⟩:=jde hl;have:=List.length_pos_iff.2 h0;simp only;rw[show l.length-1=0 by omega]; rfl
  ·cases h
 ·rename_i hl;rw[hl]
theorem jr4 {a b:Str} (h:jc5 a b=true):∃l m,ja6 a=some l/\ja6 b=some m/\1<=m.length/\m.length<=l.length/\l.take m.length=m:=by
 unfold jc5 at h;split at h
 ·rename_i l m hl hm;simp only[Bool.and_eq_true,decide_eq_true_eq] at h;obtain ⟨h0,-,-⟩:=jde hm;exact ⟨l,m,hl,hm,List.length_pos_iff.2 h0,h.1,h.2⟩
 ·cases h
theorem within_take {s:Str} {l:List Nat} (h:ja6 s=some l) {j:Nat} (h1:1<=j) (h2:j<=l.length):jc5 s (fmt (l.take j))=true:=by
 unfold jc5;rw[h,jma h h1 h2];simp; omega
theorem has_iff {p:Plan} {s:Str} : has p s=true↔∃c∈p.cls,c.code=s:=by
 simp[has]
def pre (s:Str) (j:Nat):Str:=match ja6 s with
 | some l=>if j=0 then [] else fmt (l.take j)
 | none=>[]
theorem jn6 (s:Str):pre s 0=[]:=by unfold pre; split <;> simp
theorem jl7 {s:Str} {l:List Nat} (h:ja6 s=some l) {j:Nat} (hj:j≠0):pre s j=fmt (l.take j):=by
 unfold pre; rw[h]; simp[hj]
theorem within_pre {s c:Str} (h:jc5 s c=true):1<=lens c/\lens c<=lens s/\c=pre s (lens c):=by
 obtain ⟨l,m,hl,hm,h1,h2,h3⟩:=jr4 h;rw[jgz hl,jgz hm,jl7 hl om,h3,fmt_parse hm];exact ⟨h1,h2,rfl⟩
theorem up_best {p:Plan} {s:Str} {j:Nat} (hs:has p s=false) (hj:j<=lens s) (h0:0<j->has p (pre s j)=true) (hall:∀c∈p.cls,jc5 s c.code=true->lens c.code<=j):
  up p s=if j=0 then none else some (pre s j):=by
 simp only[up,hs,Bool.false_eq_true,if_false];cases hp:ja6 s with
 | none=>
  rw[lens_n hp] at hj;simp; omega
 | some l=>
  rw[jgz hp] at hj
  have hno:∀i,j<i->i<=l.length-1->has p (fmt (l.take i))=false:=fun i h1 h2=>by
   cases hh:has p (fmt (l.take i))
   ·rfl
   ·obtain ⟨c,hc,he⟩:=has_iff.1 hh;have hw:=within_take hp (j:=i) om om;rw[<- he] at hw;have:=hall c hc hw;rw[he,jgz (jma hp om om)] at this;simp at this;omega
  by_cases hz:j=0
  ·subst hz;simp only[if_true];exact climb_none fun i h1 h2=>hno i om h2
  ·rw[if_neg hz];have hh:=h0 om;rw[jl7 hp hz] at hh ⊢;refine climb_some om hh ?_ hno;rcases Nat.lt_or_ge j l.length with h | h
   ·omega
   ·have:l.take j=l:=List.take_of_length_le h;rw[this,fmt_parse hp,hs] at hh;cases hh
def lt2 (a b:Str):Bool:=match cmp a b with
 | some n=>decide (n<0)
 | none=>false
def jci:List Str->Bool
 | a::b::r=>lt2 a b && jci (b::r)
 | _=>true
def jf0 (p:Plan) (c:Cls):Bool:=match jdb c.code with
 | some u=> !has p u
 | none=>false
def jck (p:Plan):Int:=
 if p.cls.any (fun c=> !(ja6 c.code).isSome)=true then 3 else if p.cls.any (fun c=> !name c.title)=true then 4 else
 if jci (p.cls.map (·.code))=false then 5 else if p.cls.any (jf0 p)=true then 7 else 0
def jf1 (old p:Plan):Int:=
 if p.mov.any (fun m=> !has old m.frm || !has p m.to)=true then 7 else if jci (p.mov.map (·.frm))=false then 5 else
 if old.cls.any (fun c=>(next old p c.code).isNone)=true then 24 else 0
def je7 (q:Option Plan) (i:Nat) (p:Plan):Int:=
 if p.ver≠i+1\/jaq p.frm p.til=false then 2 else if (∃q',q=some q'/\p.frm≠q'.til) then 16 else
 if 128<p.cls.length\/128<p.mov.length then 8 else if jck p≠0 then jck p else
 match q with
 | none=>if 0<p.mov.length then 1 else 0
 | some q=>jf1 q p
def before (l:List Plan) (i:Nat):Option Plan:=if i=0 then none else l[i-1]?
def jd1 (l:List Plan) (i:Nat):Int:=match l[i]? with
 | none=>0
 | some p=>je7 (before l i) i p
def bad (l:List Plan):Option Nat:=(List.range l.length).find? fun i=>jd1 l i != 0
def check (l:List Plan):Int×Int:=if 16<l.length then (-1,8) else match bad l with
 | some i=>(i,jd1 l i)
 | none=>(-1,0)
abbrev ji2 (l:List Plan):V:= .tup [vi (check l).1,vi (check l).2]
def jbe (l:List Plan):Bool:=(check l).2 == 0
def idx (l:List Plan) (d:Int):Int:=ix (fun p=>inS p.frm p.til d) l
def atL (l:List Plan) (d:Int):Int:=if jbe l=true then idx l d else -1
theorem je2 {α:Type} {l:List α} {q:α->Bool} {k:Nat} {x:α} (hx:l[k]? = some x) (hq:q x=true):l.any q=true:=
 List.any_eq_true.2 ⟨x,List.mem_of_getElem? hx,hq⟩
theorem jg4 {α:Type} {l:List α} {q:α->Bool} {k:Nat} (h:∀e∈l.take k,q e=false) (hk:¬k<l.length):l.any q=false:=by
 rw[List.any_eq_false];intro x hx;simp[jcq h hk x hx]
theorem jnv {l:List Str} {k:Nat} {x y:Str} (hd:l.drop k=x::l.drop (k+1)) (he:l.drop (k+1)=y::l.drop (k+1+1)):jci (l.drop k)=(lt2 x y && jci (l.drop (k+1))):=by
 rw[hd,he]; rfl
theorem joh {l:List Str} {k:Nat} (h:¬k+1<l.length):jci (l.drop k)=true:=by
 have:(l.drop k).length<=1:=by simp; omega
 match l.drop k,this with
 | [],_=>rfl
 | [_],_=>rfl
 | _::_::_,h=>simp at h
theorem bad_at {l:List Plan} {k:Nat} (hk:k<l.length) (h:∀i,i<k->jd1 l i=0) (hf:jd1 l k≠0):bad l=some k:=by
 unfold bad;rw[List.find?_range_eq_some];exact ⟨by simpa using hf,by simpa using hk,fun i hi=>by simp[h i hi]⟩
theorem bad_none {l:List Plan} (h:∀i,i<l.length->jd1 l i=0):bad l=none:=by
 unfold bad;rw[List.find?_eq_none];intro i hi;simp[h i zey]
end Go.Arc
