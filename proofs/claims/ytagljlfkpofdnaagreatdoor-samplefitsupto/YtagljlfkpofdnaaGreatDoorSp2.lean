/- A part of this claim. -/
import Derived.Test.YtagljlfkpofdnaaGreatDoorW8
namespace Go.Arc
open Go.Ab
theorem dec_no46 {n:Nat} (h:n<1000):∀c∈dec n,c≠46:=by
 have:∀n:Fin 1000,∀c∈dec n.1,c≠46:=by decide +kernel
 exact this ⟨n,h⟩
theorem dec_ne (n:Nat):dec n≠[]:=by unfold dec; split <;> (try split) <;> simp
theorem split_app:∀(a cur r:Str),(∀c∈a,c≠46)->split cur (a++r)=split (cur++a) r
 | [],cur,r,_=>by simp
 | c::a,cur,r,h=>by
  simp only[List.cons_append,split];rw[if_neg (h c (by simp)),split_app a _ r fun d hd=>h d (by simp[hd])];simp
theorem split_dots:∀(l:List Nat) (cur:Str),(∀n∈l,n<1000)->split cur (dots l)=cur::l.map dec
 | [],cur,_=>by simp[dots,split]
 | n::r,cur,h=>by
  simp only[dots,List.cons_append,split,if_true,List.map_cons];rw[split_app _ _ _ (dec_no46 (h n (by simp))),split_dots r _ fun m hm=>h m (by simp[hm])];rfl
theorem numsOf_dec:∀(l:List Nat),(∀n∈l,1<=n/\n<1000)->numsOf (l.map dec)=some l
 | [],_=>rfl
 | n::r,h=>by
  obtain ⟨h1,h2⟩:=h n (by simp);simp only[List.map_cons,numsOf,part_dec h1 h2,numsOf_dec r fun m hm=>h m (by simp[hm])]
theorem parse_fmt {l:List Nat} (h0:l≠[]) (h6:l.length<=6) (hn:∀n∈l,1<=n/\n<1000):parse (fmt l)=some l:=by
 cases l with
 | nil=>exact absurd rfl h0
 | cons n r=>
  have e:numsOf (split [] (fmt (n::r)))=some (n::r):=by
   rw[fmt_dots,split_app _ _ _ (dec_no46 (hn n (by simp)).2),split_dots r _ fun m hm=>(hn m (by simp[hm])).2];exact numsOf_dec (n::r) hn
  unfold parse;rw[e]; simp only; rw[if_pos h6]
def glue:List Str->Str
 | []=>[]
 | p::r=>46::p++glue r
theorem glue_split:∀(s cur:Str),glue (split cur s)=46::cur++s
 | [],cur=>by simp[split,glue]
 | c::r,cur=>by
  simp only[split];split
  ·rename_i h;simp only[glue];rw[glue_split r []]; simp[h]
  ·rw[glue_split r]; simp
theorem glue_dec:∀ {l:List Str} {ns:List Nat},numsOf l=some ns->glue l=dots ns
 | [],ns,h=>by simp[numsOf] at h; subst h; rfl
 | p::r,ns,h=>by
  simp only[numsOf] at h;split at h
  ·rename_i n l h1 h2;cases h;simp only[glue,dots,dec_part h1,glue_dec h2]
  ·cases h
theorem fmt_parse {s:Str} {l:List Nat} (h:parse s=some l):fmt l=s:=by
 obtain ⟨h0,-,-⟩:=parse_some h;unfold parse at h;split at h
 ·rename_i l' h1;split at h
  ·cases h;have e:=glue_dec h1;rw[glue_split] at e;cases l with
   | nil=>exact absurd rfl h0
   | cons n r=>
    rw[fmt_dots];simp only[dots,List.cons_append,List.nil_append,List.cons.injEq,true_and] at e;exact e.symm
  ·cases h
 ·cases h
theorem parse_take {s:Str} {l:List Nat} (h:parse s=some l) {j:Nat} (h1:1<=j) (h2:j<=l.length):parse (fmt (l.take j))=some (l.take j):=by
 obtain ⟨h0,h6,hn⟩:=parse_some h;refine parse_fmt (fun e=> ?_) (by simp; omega) fun n h=>hn n (List.mem_of_mem_take h);have:=congrArg List.length e;rw[List.length_take,List.length_nil] at this;omega
theorem parse_nil:parse []=none:=by simp[parse,split,numsOf,part]
theorem fmt_ne {l:List Nat} (h:l≠[]):fmt l≠[]:=by
 cases l with
 | nil=>exact absurd rfl h
 | cons n r=>rw[fmt_dots]; simp[dec_ne]
def lens (s:Str):Nat:=match parse s with | some l=>l.length | none=>0
theorem lens_s {s:Str} {l:List Nat} (h:parse s=some l):lens s=l.length:=by simp[lens,h]
theorem lens_n {s:Str} (h:parse s=none):lens s=0:=by simp[lens,h]
theorem fmt_len_le:∀(l:List Nat),(fmt l).length<=4*l.length
 | []=>by simp[fmt]
 | [n]=>by have:=dec_len n; simp[fmt]; omega
 | n::m::r=>by
  have:=dec_len n;have:=fmt_len_le (m::r);simp only[fmt,List.length_append,List.length_cons] at *;omega
def climbN (p:Plan) (l:List Nat):Nat->Option Str
 | 0=>none
 | k+1=>if has p (fmt (l.take (k+1)))=true then some (fmt (l.take (k+1))) else climbN p l k
def up (p:Plan) (s:Str):Option Str:=if has p s=true then some s else match parse s with
 | none=>none
 | some l=>climbN p l (l.length-1)
def next (old new:Plan) (s:Str):Option Str:=if has old s=true then
  match new.mov.find? (fun m=>m.frm == s) with
  | some m=>some m.to
  | none=>up new s
 else none
theorem climb_none {p:Plan} {l:List Nat} : ∀ {n:Nat},(∀i,1<=i->i<=n->has p (fmt (l.take i))=false)->climbN p l n=none
 | 0,_=>rfl
 | n+1,h=>by
  simp only[climbN];rw[h (n+1) (by omega) (by omega),climb_none fun i h1 h2=>h i h1 (by omega)];simp
theorem climb_some {p:Plan} {l:List Nat} {j:Nat} (h1:1<=j) (hj:has p (fmt (l.take j))=true):∀ {n:Nat},j<=n->(∀i,j<i->i<=n->has p (fmt (l.take i))=false)->climbN p l n=some (fmt (l.take j))
 | 0,h2,_=>by omega
 | n+1,h2,h=>by
  simp only[climbN];by_cases e:j=n+1
  ·rw[<- e,hj]; simp
  ·rw[h (n+1) (by omega) (by omega),climb_some h1 hj (by omega) fun i g1 g2=>h i g1 (by omega)];simp
theorem within_some {a b:Str} (h:within a b=true):∃l m,parse a=some l/\parse b=some m/\1<=m.length/\m.length<=l.length/\l.take m.length=m:=by
 unfold within at h;split at h
 ·rename_i l m hl hm;simp only[Bool.and_eq_true,decide_eq_true_eq] at h;obtain ⟨h0,-,-⟩:=parse_some hm;exact ⟨l,m,hl,hm,List.length_pos_iff.2 h0,h.1,h.2⟩
 ·cases h
theorem within_take {s:Str} {l:List Nat} (h:parse s=some l) {j:Nat} (h1:1<=j) (h2:j<=l.length):within s (fmt (l.take j))=true:=by
 unfold within;rw[h,parse_take h h1 h2];simp; omega
theorem has_iff {p:Plan} {s:Str} : has p s=true↔∃c∈p.cls,c.code=s:=by
 simp[has]
def pre (s:Str) (j:Nat):Str:=match parse s with
 | some l=>if j=0 then [] else fmt (l.take j)
 | none=>[]
theorem pre_zero (s:Str):pre s 0=[]:=by unfold pre; split <;> simp
theorem pre_some {s:Str} {l:List Nat} (h:parse s=some l) {j:Nat} (hj:j≠0):pre s j=fmt (l.take j):=by
 unfold pre; rw[h]; simp[hj]
theorem within_pre {s c:Str} (h:within s c=true):1<=lens c/\lens c<=lens s/\c=pre s (lens c):=by
 obtain ⟨l,m,hl,hm,h1,h2,h3⟩:=within_some h;rw[lens_s hl,lens_s hm,pre_some hl (by omega),h3,fmt_parse hm];exact ⟨h1,h2,rfl⟩
theorem up_best {p:Plan} {s:Str} {j:Nat} (hs:has p s=false) (hj:j<=lens s) (h0:0<j->has p (pre s j)=true) (hall:∀c∈p.cls,within s c.code=true->lens c.code<=j):
  up p s=if j=0 then none else some (pre s j):=by
 simp only[up,hs,Bool.false_eq_true,if_false];cases hp:parse s with
 | none=>
  rw[lens_n hp] at hj;simp; omega
 | some l=>
  rw[lens_s hp] at hj
  have hno:∀i,j<i->i<=l.length-1->has p (fmt (l.take i))=false:=fun i h1 h2=>by
   cases hh:has p (fmt (l.take i))
   ·rfl
   ·obtain ⟨c,hc,he⟩:=has_iff.1 hh;have hw:=within_take hp (j:=i) (by omega) (by omega);rw[<- he] at hw;have:=hall c hc hw;rw[he,lens_s (parse_take hp (by omega) (by omega))] at this;simp at this;omega
  by_cases hz:j=0
  ·subst hz;simp only[if_true];exact climb_none fun i h1 h2=>hno i (by omega) h2
  ·rw[if_neg hz];have hh:=h0 (by omega);rw[pre_some hp hz] at hh ⊢;refine climb_some (by omega) hh ?_ hno;rcases Nat.lt_or_ge j l.length with h | h
   ·omega
   ·have:l.take j=l:=List.take_of_length_le h;rw[this,fmt_parse hp,hs] at hh;cases hh
def lt2 (a b:Str):Bool:=match cmp a b with
 | some n=>decide (n<0)
 | none=>false
def rising:List Str->Bool
 | a::b::r=>lt2 a b && rising (b::r)
 | _=>true
def orphan (p:Plan) (c:Cls):Bool:=match parent c.code with
 | some u=> !has p u
 | none=>false
def clsErr (p:Plan):Int:=
 if p.cls.any (fun c=> !(parse c.code).isSome)=true then 3 else if p.cls.any (fun c=> !name c.title)=true then 4 else
 if rising (p.cls.map (·.code))=false then 5 else if p.cls.any (orphan p)=true then 7 else 0
def movErr (old p:Plan):Int:=
 if p.mov.any (fun m=> !has old m.frm || !has p m.to)=true then 7 else if rising (p.mov.map (·.frm))=false then 5 else
 if old.cls.any (fun c=>(next old p c.code).isNone)=true then 24 else 0
def fault (q:Option Plan) (i:Nat) (p:Plan):Int:=
 if p.ver≠i+1\/goodS p.frm p.til=false then 2 else if (∃q',q=some q'/\p.frm≠q'.til) then 16 else
 if 128<p.cls.length\/128<p.mov.length then 8 else if clsErr p≠0 then clsErr p else
 match q with
 | none=>if 0<p.mov.length then 1 else 0
 | some q=>movErr q p
def before (l:List Plan) (i:Nat):Option Plan:=if i=0 then none else l[i-1]?
def faultAt (l:List Plan) (i:Nat):Int:=match l[i]? with
 | none=>0
 | some p=>fault (before l i) i p
def bad (l:List Plan):Option Nat:=(List.range l.length).find? fun i=>faultAt l i != 0
def check (l:List Plan):Int×Int:=if 16<l.length then (-1,8) else match bad l with
 | some i=>(i,faultAt l i)
 | none=>(-1,0)
abbrev checkV (l:List Plan):V:= .tup [vi (check l).1,vi (check l).2]
def goodL (l:List Plan):Bool:=(check l).2 == 0
def idx (l:List Plan) (d:Int):Int:=ix (fun p=>inS p.frm p.til d) l
def atL (l:List Plan) (d:Int):Int:=if goodL l=true then idx l d else -1
theorem any_at {α:Type} {l:List α} {q:α->Bool} {k:Nat} {x:α} (hx:l[k]? = some x) (hq:q x=true):l.any q=true:=
 List.any_eq_true.2 ⟨x,List.mem_of_getElem? hx,hq⟩
theorem any_end {α:Type} {l:List α} {q:α->Bool} {k:Nat} (h:∀e∈l.take k,q e=false) (hk:¬k<l.length):l.any q=false:=by
 rw[List.any_eq_false];intro x hx;simp[take_all h hk x hx]
theorem rising_step {l:List Str} {k:Nat} {x y:Str} (hd:l.drop k=x::l.drop (k+1)) (he:l.drop (k+1)=y::l.drop (k+1+1)):rising (l.drop k)=(lt2 x y && rising (l.drop (k+1))):=by
 rw[hd,he]; rfl
theorem rising_end {l:List Str} {k:Nat} (h:¬k+1<l.length):rising (l.drop k)=true:=by
 have:(l.drop k).length<=1:=by simp; omega
 match l.drop k,this with
 | [],_=>rfl
 | [_],_=>rfl
 | _::_::_,h=>simp at h
theorem bad_at {l:List Plan} {k:Nat} (hk:k<l.length) (h:∀i,i<k->faultAt l i=0) (hf:faultAt l k≠0):bad l=some k:=by
 unfold bad;rw[List.find?_range_eq_some];exact ⟨by simpa using hf,by simpa using hk,fun i hi=>by simp[h i hi]⟩
theorem bad_none {l:List Plan} (h:∀i,i<l.length->faultAt l i=0):bad l=none:=by
 unfold bad;rw[List.find?_eq_none];intro i hi;simp[h i (by simpa using hi)]
end Go.Arc
