/- A part of this claim. -/
import Derived.Test.YtpaallejmocmaaaGreatDoorBaE
import Derived.Lib.Split
import Derived.Lib.ItoaNum
import Derived.Lib.Join
import Derived.Lib.AtoiAll
import Derived.Lib.SpaceUEq
import Derived.Lib.IndexMore
import Derived.Test.YtpaallejmocmaaaGreatDoorShelf
import Derived.Lib.SplitLaws
import Derived.Lib.AppendIntMem
import Derived.Lib.AtoiErrMem
namespace Go.Arc
open Go.Ab
variable {s:Str}{l:List Nat}{k:Nat}{p:Plan}{j:Nat}{α:Type}{q:α->Bool}{n:Nat}{u:Str}
theorem jz3(h:n<1000):∀c∈dec n,c≠46:=by
 have:∀n:Fin 1000,∀c∈dec n.1,c≠46:=by decide +kernel
 exact this ⟨n,h⟩
theorem qul(n:Nat):dec n≠[]:=by unfold dec;split<;>(try split)<;>simp
theorem jgq:∀(a cur r:Str),(∀c∈a,c≠46)->split cur (a++r)=split (cur++a) r
 |[],cur,r,_=>by simp
 |c::a,cur,r,h=>by
  simp only[List.cons_append,split];rw[ul (h c smq),jgq a _ r fun d hd=>h d (by simp[hd])];simp
theorem jtr:∀(l:List Nat) (cur:Str),(∀n∈l,n<1000)->split cur (dots l)=cur::l.map dec
 |[],cur,_=>by simp[dots,split]
 |n::r,cur,h=>by
  simp only[dots,List.cons_append,split,uy,vl];rw[jgq _ _ _ (jz3 (h n smq)),jtr r _ fun m hm=>h m (by simp[hm])];rfl
theorem jtz:∀(l:List Nat),(∀n∈l,1<=n/\n<1000)->cj (l.map dec)=some l
 |[],_=>rfl
 |n::r,h=>by
  obtain⟨h1,h2⟩:=h n smq;simp only[vl,cj,jy2 h1 h2,jtz r fun m hm=>h m (by simp[hm])]
theorem ql5(h0:l≠[])(h6:l.length<=6)(hn:∀n∈l,1<=n/\n<1000):ak (fmt l)=some l:=by
 cases l with
 |nil=>exact absurd rfl h0
 |cons n r=>
  have e:cj (split [] (fmt (n::r)))=some (n::r):=by
   rw[je4,jgq _ _ _ (jz3 (hn n smq).2),jtr r _ fun m hm=>(hn m (by simp[hm])).2];exact jtz (n::r) hn
  unfold ak;rw[e];simp only;rw[um h6]
def glue:List Str->Str
 |[]=>[]
 |p::r=>46::p++glue r
theorem jk2:∀(s cur:Str),glue (split cur s)=46::cur++s
 |[],cur=>by simp[split,glue]
 |c::r,cur=>by
  simp only[split];split
  .rename_i h;simp only[glue];rw[jk2 r []];simp[h]
  rw[jk2 r];simp
theorem jye:∀ {l:List Str} {ns:List Nat},cj l=some ns->glue l=dots ns
 |[],ns,h=>by simp[cj] at h;subst h;rfl
 |p::r,ns,h=>by
  simp only[cj] at h;split at h
  .rename_i n l h1 h2;cases h;simp only[glue,dots,jz2 h1,jye h2]
  cases h
theorem jwa(h:ak s=some l):fmt l=s:=by
 obtain⟨h0,-,-⟩:=gc h;unfold ak at h;split at h
 .rename_i l' h1;split at h
  .cases h;have e:=jye h1;rw[jk2] at e;cases l with
   |nil=>exact absurd rfl h0
   |cons n r=>
    rw[je4];simp only[dots,List.cons_append,List.nil_append,List.cons.injEq,true_and] at e;exact e.symm
  cases h
 cases h
theorem jg6(h:ak s=some l)(h1:1<=j)(h2:j<=l.length):ak (fmt (l.take j))=some (l.take j):=by
 obtain⟨h0,h6,hn⟩:=gc h;refine ql5 (fun e=>?_) zew fun n h=>hn n (yu h);have:=congrArg List.length e;rw[vz,List.length_nil] at this;omega
theorem ql4:ak []=none:=by simp[ak,split,cj,part]
theorem quf(h:l≠[]):fmt l≠[]:=by
 cases l with
 |nil=>exact absurd rfl h
 |cons n r=>rw[je4];simp[qul]
def lens(s:Str):Nat:=match ak s with|some l=>l.length|none=>0
theorem qt(h:ak s=some l):lens s=l.length:=by simp[lens,h]
theorem qcl(h:ak s=none):lens s=0:=by simp[lens,h]
theorem jdb:∀(l:List Nat),(fmt l).length<=4*l.length
 |[]=>by simp[fmt]
 |[n]=>by have:=jot n;simp[fmt];omega
 |n::m::r=>by
  have:=jot n;have:=jdb (m::r);simp only[fmt,ve,List.length_cons] at *;omega
def np(p:Plan)(l:List Nat):Nat->Option Str
 |0=>none
 |k+1=>if has p (fmt (l.take (k+1)))=true then some (fmt (l.take (k+1))) else np p l k
def up(p:Plan)(s:Str):Option Str:=if has p s=true then some s else match ak s with
 |none=>none
 |some l=>np p l (l.length-1)
def next(old new:Plan)(s:Str):Option Str:=if has old s=true then
  match new.mov.find? (fun m=>m.frm == s) with
  |some m=>some m.to
  |none=>up new s
 else none
theorem juw{p:Plan}{l:List Nat}: ∀ {n:Nat},(∀i,1<=i->i<=n->has p (fmt (l.take i))=false)->np p l n=none
 |0,_=>rfl
 |n+1,h=>by
  simp only[np];rw[h (n+1) omq omq,juw fun i h1 h2=>h i h1 omq];simp
theorem juv{p:Plan}{l:List Nat}{j:Nat}(h1:1<=j)(hj:has p (fmt (l.take j))=true):∀ {n:Nat},j<=n->(∀i,j<i->i<=n->has p (fmt (l.take i))=false)->np p l n=some (fmt (l.take j))
 |0,h2,_=>by omega
 |n+1,h2,h=>by
  simp only[np];by_cases e:j=n+1
  .rw[<- e,hj];simp
  rw[h (n+1) omq omq,juv h1 hj omq fun i g1 g2=>h i g1 omq];simp
theorem juu{p:Plan}{l:List Nat}{m:Nat}: ∀ {n:Nat},n<=m->np p (l.take m) n=np p l n
 |0,_=>rfl
 |n+1,h=>by
  simp only[np];rw[juu omq,List.take_take,yh omq]
theorem jsm(h:ia s=some u):∃l,ak s=some l/\2<=l.length/\u=fmt (l.take (l.length-1))/\ak u=some (l.take (l.length-1)):=by
 unfold ia at h;split at h
 .rename_i l hl;split at h
  .cases h
  simp only[uu] at h;subst h;exact⟨l,hl,omq,rfl,jg6 hl omq omq⟩
 cases h
theorem qk9(h:ia s=some u)(hs:has p s=false):up p s=up p u:=by
 obtain⟨l,hl,h2,rfl,hu⟩:=jsm h;simp only[up,hs,hl,hu,vq,va];obtain⟨k,hk⟩:∃k,l.length-1=k+1:=⟨l.length-2,omq⟩;rw[hk];simp only[np,vz];split
 .rfl
 rw[juu omq];congr 1;omega
theorem qtj(h:ia s=none)(hs:has p s=false):up p s=none:=by
 simp only[up,hs,vq,va];unfold ia at h;split at h
 .rename_i l hl;split at h
  .rw[hl];obtain⟨h0,-,-⟩:=gc hl;have:=xj.2 h0;simp only;rw[show l.length-1=0 by omega];rfl
  cases h
 rename_i hl;rw[hl]
theorem jse{a b:Str}(h:bx a b=true):∃l m,ak a=some l/\ak b=some m/\1<=m.length/\m.length<=l.length/\l.take m.length=m:=by
 unfold bx at h;split at h
 .rename_i l m hl hm;simp only[uw,vr] at h;obtain⟨h0,-,-⟩:=gc hm;exact⟨l,m,hl,hm,xj.2 h0,h.1,h.2⟩
 cases h
theorem qg6(h:ak s=some l)(h1:1<=j)(h2:j<=l.length):bx s (fmt (l.take j))=true:=by
 unfold bx;rw[h,jg6 h h1 h2];simp;omega
theorem qau: has p s=true↔∃c∈p.cls,c.code=s:=by
 simp[has]
def pre(s:Str)(j:Nat):Str:=match ak s with
 |some l=>if j=0 then [] else fmt (l.take j)
 |none=>[]
theorem jh9(s:Str):pre s 0=[]:=by unfold pre;split<;>simp
theorem jdy(h:ak s=some l)(hj:j≠0):pre s j=fmt (l.take j):=by
 unfold pre;rw[h];simp[hj]
theorem qh8{c:Str}(h:bx s c=true):1<=lens c/\lens c<=lens s/\c=pre s (lens c):=by
 obtain⟨l,m,hl,hm,h1,h2,h3⟩:=jse h;rw[qt hl,qt hm,jdy hl omq,h3,jwa hm];exact⟨h1,h2,rfl⟩
theorem qrh(hs:has p s=false)(hj:j<=lens s)(h0:0<j->has p (pre s j)=true)(hall:∀c∈p.cls,bx s c.code=true->lens c.code<=j):
  up p s=if j=0 then none else some (pre s j):=by
 simp only[up,hs,vq,va];cases hp:ak s with
 |none=>
  rw[qcl hp] at hj;simp;omega
 |some l=>
  rw[qt hp] at hj
  have hno:∀i,j<i->i<=l.length-1->has p (fmt (l.take i))=false:=fun i h1 h2=>by
   cases hh:has p (fmt (l.take i))
   .rfl
   obtain⟨c,hc,he⟩:=qau.1 hh;have hw:=qg6 hp (j:=i) omq omq;rw[<- he] at hw;have:=hall c hc hw;rw[he,qt (jg6 hp omq omq)] at this;simp at this;omega
  by_cases hz:j=0
  .subst hz;simp only[uy];exact juw fun i h1 h2=>hno i omq h2
  rw[ul hz];have hh:=h0 omq;rw[jdy hp hz] at hh ⊢;refine juv omq hh ?_ hno;rcases vo j l.length with h|h
  .omega
  have:l.take j=l:=xn h;rw[this,jwa hp,hs] at hh;cases hh
def lt2(a b:Str):Bool:=match cmp a b with
 |some n=>decide (n<0)
 |none=>false
def ez:List Str->Bool
 |a::b::r=>lt2 a b && ez (b::r)
 |_=>true
def lu(p:Plan)(c:Cls):Bool:=match ia c.code with
 |some u=> !has p u
 |none=>false
def fe(p:Plan):Int:=
 if p.cls.any (fun c=> !(ak c.code).isSome)=true then 3 else if p.cls.any (fun c=> !name c.title)=true then 4 else
 if ez (p.cls.map (·.code))=false then 5 else if p.cls.any (lu p)=true then 7 else 0
def lw(old p:Plan):Int:=
 if p.mov.any (fun m=> !has old m.frm || !has p m.to)=true then 7 else if ez (p.mov.map (·.frm))=false then 5 else
 if old.cls.any (fun c=>(next old p c.code).isNone)=true then 24 else 0
def jx(q:Option Plan)(i:Nat)(p:Plan):Int:=
 if p.ver≠i+1\/bm p.frm p.til=false then 2 else if(∃q',q=some q'/\p.frm≠q'.til) then 16 else
 if 128<p.cls.length\/128<p.mov.length then 8 else if fe p≠0 then fe p else
 match q with
 |none=>if 0<p.mov.length then 1 else 0
 |some q=>lw q p
def before(l:List Plan)(i:Nat):Option Plan:=if i=0 then none else l[i-1]?
def gf(l:List Plan)(i:Nat):Int:=match l[i]? with
 |none=>0
 |some p=>jx (before l i) i p
def bad(l:List Plan):Option Nat:=(List.range l.length).find? fun i=>gf l i != 0
def check(l:List Plan):Int×Int:=if 16<l.length then(-1,8) else match bad l with
 |some i=>(i,gf l i)
 |none=>(-1,0)
abbrev tq(l:List Plan):V:=.tup [vi (check l).1,vi (check l).2]
def goodL(l:List Plan):Bool:=(check l).2 == 0
def idx(l:List Plan)(d:Int):Int:=ix (fun p=>inS p.frm p.til d) l
def atL(l:List Plan)(d:Int):Int:=if goodL l=true then idx l d else -1
theorem jj{l:List α}{x:α}(hx:l[k]?=some x)(hq:q x=true):l.any q=true:=
 vp.2 ⟨x,vc hx,hq⟩
theorem nh{l:List α}(h:∀e∈l.take k,q e=false)(hk:¬k<l.length):l.any q=false:=by
 rw[vn];intro x hx;simp[dh h hk x hx]
theorem jj1{l:List Str}{x y:Str}(hd:l.drop k=x::l.drop (k+1))(he:l.drop (k+1)=y::l.drop (k+1+1)):ez (l.drop k)=(lt2 x y && ez (l.drop (k+1))):=by
 rw[hd,he];rfl
theorem jjo{l:List Str}(h:¬k+1<l.length):ez (l.drop k)=true:=by
 have:(l.drop k).length<=1:=by simp;omega
 match l.drop k,this with
 |[],_=>rfl
 |[_],_=>rfl
 |_::_::_,h=>simp at h
theorem qun{l:List Plan}(hk:k<l.length)(h:∀i,i<k->gf l i=0)(hf:gf l k≠0):bad l=some k:=by
 unfold bad;rw[List.find?_range_eq_some];exact⟨by simpa using hf,by simpa using hk,fun i hi=>by simp[h i hi]⟩
theorem qqs{l:List Plan}(h:∀i,i<l.length->gf l i=0):bad l=none:=by
 unfold bad;rw[xw];intro i hi;simp[h i zfe]
theorem joe(s:Str)(c:UInt8)(i:Nat):Lib.occAt s [c] i=true↔s[i]?=some c:=by
 unfold Lib.occAt;constructor
 .intro h;cases hd:s.drop i with
  |nil=>rw[hd] at h;simp at h
  |cons x r=>
   rw[hd] at h;simp at h;subst h;have:=congrArg List.head? hd;exact zdb
 intro h;obtain⟨hlt,rfl⟩:=gsi.1 h;rw[qvq hlt];simp only[List.isPrefixOf,yt,qw2]
theorem jtq:∀ {s cur:Str},(∀c∈s,c≠46)->split cur s=[cur++s]
 |[],cur,_=>by simp[split]
 |c::r,cur,h=>by
  simp only[split];rw[ul (h c smq),jtq fun d hd=>h d (by simp[hd])];simp
theorem qku:∀(n:Nat) (s:Str),s.length<=n->Lib.splitK [46] 0 (Lib.count s [46]) s=split [] s:=by
 intro n
 induction n with
 |zero=>
  intro s h;have:s=[]:=xu omq;subst this;rfl
 |succ n ih=>
  intro s h;rcases Lib.index_spec s [46] with⟨h1,h2⟩|⟨i,h1,h2,h3,h4⟩
  .rw[Lib.count_miss h1];simp only[Lib.splitK];rw[jtq fun c hc e=>?_]
   .simp
   subst e;obtain⟨j,hj,he⟩:=List.mem_iff_getElem.1 hc;have:=h2 j omq;rw[(joe s 46 j).2 (by rw[<- he];exact gge hj)] at this;cases this
  rw[Lib.count_hit smq h1,qvf];have hi:=(joe s 46 i).1 h3;obtain⟨hlt,hi'⟩:=gsi.1 hi;have hne:¬(Lib.index s [46] == -1)=true:=by rw[h1];simp
  have ht:(Lib.index s [46]).toNat=i:=by rw[h1];simp
  simp only[Lib.splitK];rw[ul hne,ht];simp only[List.length_cons,List.length_nil,vx,Nat.add_zero];rw[ih (s.drop (i+1)) zew]
  have hs:s=s.take i++46::s.drop (i+1):=by
   conv=>lhs;rw[<- qvv i s]
   rw[qvq hlt,hi']
  conv=>rhs;rw[hs]
  rw[jgq (s.take i) [] _ fun c hc e=>?_]
  .simp[split]
  subst e;obtain⟨j,hj,he⟩:=List.mem_iff_getElem.1 hc;have hji:j<i:=by simp at hj;omega
  have:=h4 j hji;rw[(joe s 46 j).2 (by rw[<- he,List.getElem_take,gge])] at this;cases this
theorem qkv(s:Str):(Lib.splitB ⟨#[46]⟩ 0 (Lib.countB ⟨s.toArray⟩ ⟨#[46]⟩) ⟨s.toArray⟩).map (·.data.toList)=split [] s:=by
 rw[Lib.splitB_data];exact qku s.length s (uv _)
theorem qpf(h:n<1000):Lib.itoa (n:Int)=dec n:=by
 have e:Lib.itoa (n:Int)=Lib.decDigits n:=by
  unfold Lib.itoa;rw[ul omq];simp
 rw[e];unfold dec;by_cases h1:n<10
 .rw[um h1,Lib.decDigits,dif_pos h1]
 rw[ul h1,Lib.decDigits,dif_neg h1];by_cases h2:n<100
 .rw[um h2,Lib.decDigits,dif_pos omq];rfl
 rw[ul h2,Lib.decDigits,dif_neg omq,Lib.decDigits,dif_pos omq];rfl
theorem jmf:∀l:List Nat,Lib.join (l.map dec) [46]=fmt l
 |[]=>rfl
 |[n]=>by simp[Lib.join,fmt,List.intercalate]
 |n::m::r=>by
  have ih:=jmf (m::r);simp only[Lib.join,List.intercalate,vl,fmt] at ih ⊢;rw[List.intersperse,List.flatten_cons,List.flatten_cons,ih]
  .simp
  intro e;cases e
theorem jrh:∀(s:Str) (n m:Nat),vnum n s=some m->(n+1)*10 ^ s.length<=10000->Lib.parseUint10 n s=.ok m
 |[],n,m,h,_=>by simp[vnum] at h;subst h;rfl
 |c::r,n,m,h,hb=>by
  simp only[vnum] at h;split at h
  .rename_i hc;have hp:1<=10 ^ r.length:=Nat.one_le_pow _ _ dcq;rw[List.length_cons,Nat.pow_succ] at hb;have h1:n+1<=10000:=xa (Nat.le_mul_of_pos_right _ omq) hb;have h2:(10*n+(c.toNat-48)+1)*10 ^ r.length<=((n+1)*10)*10 ^ r.length:=qv7 _ omq;have e:((n+1)*10)*10 ^ r.length=(n+1)*(10 ^ r.length*10):=by rw[Nat.mul_assoc,qvj 10]
   simp only[Lib.parseUint10];rw[um hc,ul omq,ul omq,qvj n 10];exact jrh r _ m h omq
  cases h
theorem jxf{m:Nat}(h:part s=some m):Lib.atoiAll s=.ok (m:Int):=by
 have hlt:=jo2 h;unfold part at h;split at h
 .cases h
 rename_i hc
 have hp:=jrh s 0 m h (by
  have:10 ^ s.length<=10 ^ 3:=Nat.pow_le_pow_right dcq omq
  omega)
 cases s with
 |nil=>simp at hc
 |cons c r=>
  have hcd:48<=c.toNat/\c.toNat<=57:=by
   simp only[vnum] at h;split at h
   .assumption
   cases h
  unfold Lib.atoiAll;simp only;rw[ul omq];unfold Lib.parseMag;rw[ul smq,hp];simp only;rw[ul omq,ul omq,ul omq]
theorem qor:∀q∈Lib.spaceSeqs,∃h t,q=h::t/\(h.toNat<=32\/127<=h.toNat):=by
 have:∀q∈Lib.spaceSeqs,(match q with|h::_=>decide (h.toNat<=32) || decide (127<=h.toNat)|[]=>false)=true:=by decide
 intro q hq;have:=this q hq;cases q with
 |nil=>cases this
 |cons h t=>exact⟨h,t,rfl,by simpa using this⟩
theorem qoq:∀q∈Lib.spaceSeqs,∃h,q.getLast?=some h/\(h.toNat<=32\/127<=h.toNat):=by
 have:∀q∈Lib.spaceSeqs,(match q.getLast? with|some h=>decide (h.toNat<=32) || decide (127<=h.toNat)|none=>false)=true:=by decide
 intro q hq;have:=this q hq;split at this
 .rename_i h hh;exact⟨h,hh,by simpa using this⟩
 cases this
theorem jzv:∀q∈Lib.spaceSeqs,1<=q.length:=by decide
theorem qff{l:Str}(h:∀c,l.head?=some c->32<c.toNat/\c.toNat<127):Lib.headSpace l=0:=by
 unfold Lib.headSpace;rw[xw.2]
 .rfl
 intro q hq;obtain⟨a,t,rfl,ha⟩:=qor q hq;cases l with
 |nil=>simp
 |cons c r=>
  have:=h c rfl;have hne:(a == c)=false:=sr fun e=>by subst e;omega
  simp[List.isPrefixOf,hne]
theorem qfg(r:Str):Lib.headSpace (32::r)≠0:=by
 unfold Lib.headSpace;cases hf:Lib.spaceSeqs.find? fun x=>x.isPrefixOf (32::r) with
 |none=>
  have:=xw.1 hf [32] dcq;simp[List.isPrefixOf] at this
 |some q=>
  have:=jzv q (qv5 hf)
  show q.length≠0
  omega
theorem qf8{l:Str}(h:∀c,l.getLast?=some c->32<c.toNat/\c.toNat<127):Lib.tailSpace l=0:=by
 unfold Lib.tailSpace;rw[xw.2]
 .rfl
 intro q hq hs;obtain⟨a,ha,hb⟩:=qoq q hq;have hs':=List.isSuffixOf_iff_suffix.1 hs;obtain⟨t,rfl⟩:=hs';have hl:(t++q).getLast?=some a:=by rw[List.getLast?_append,ha];rfl
 have:=h a hl;omega
theorem qf9{l:Str}(h:l.getLast?=some 32):Lib.tailSpace l≠0:=by
 unfold Lib.tailSpace;cases hf:Lib.spaceSeqs.find? fun x=>x.isSuffixOf l with
 |none=>
  have hno:=xw.1 hf [32] dcq;exfalso;apply hno;rw[List.isSuffixOf_iff_suffix];obtain⟨t,rfl⟩:=List.getLast?_eq_some_iff.1 h;exact⟨t,rfl⟩
 |some q=>
  have:=jzv q (qv5 hf)
  show q.length≠0
  omega
theorem jjl:∀(f:Nat) (l:Str),(Lib.stripL f l).length<=l.length
 |0,l=>uv _
 |f+1,l=>by
  simp only[Lib.stripL];split
  .exact uv _
  have:=jjl f (l.drop (Lib.headSpace l));simp at this;omega
theorem jg1:∀(f:Nat) (l:Str),(Lib.stripR f l).length<=l.length
 |0,l=>uv _
 |f+1,l=>by
  simp only[Lib.stripR];split
  .exact uv _
  have:=jg1 f (l.take (l.length-Lib.tailSpace l));simp at this;omega
theorem jvn(h:ka s=true){c:UInt8}(hc:c∈s):32<=c.toNat/\c.toNat<=126:=by
 have:=vj.1 h c hc;exact zdb
theorem qkn(h:ka s=true):Lib.trimSpaceD s=s↔s.head? ≠ some 32/\s.getLast? ≠ some 32:=by
 rw[<- Lib.trimSpaceU_eq];unfold Lib.trimSpaceU;constructor
 .intro e;constructor
  .intro hh;cases s with
   |nil=>cases hh
   |cons c r=>
    cases hh;have h1:=qfg r;have h2:=congrArg List.length e;have h3:=jg1 (32::r).length (Lib.stripL (32::r).length (32::r))
    have h4:(Lib.stripL (32::r).length (32::r)).length<(32::r).length:=by
     simp only[List.length_cons,Lib.stripL];rw[ul h1];have:=jjl r.length ((32::r).drop (Lib.headSpace (32::r)));simp only[xo,List.length_cons] at this;omega
    omega
  intro hl;have hne:s≠[]:=fun e=>by rw[e] at hl;cases hl
  have hpos:=xj.2 hne;have h2:=congrArg List.length e;by_cases hs:Lib.stripL s.length s=s
  .rw[hs] at h2;have h1:=qf9 hl;obtain⟨n,hn⟩:∃n,s.length=n+1:=⟨s.length-1,omq⟩
   have h4:(Lib.stripR s.length s).length<s.length:=by
    rw[hn];simp only[Lib.stripR];rw[ul h1];have:=jg1 n (s.take (s.length-Lib.tailSpace s));simp only[vz] at this;omega
   omega
  have h3:=jg1 s.length (Lib.stripL s.length s)
  have h4:(Lib.stripL s.length s).length<s.length:=by
   obtain⟨n,hn⟩:∃n,s.length=n+1:=⟨s.length-1,omq⟩;rw[hn] at hs ⊢;simp only[Lib.stripL] at hs ⊢;split
   .rename_i hz;rw[um hz] at hs;exact absurd rfl hs
   rename_i hz;have:=jjl n (s.drop (Lib.headSpace s));simp at this;omega
  omega
 rintro⟨h1,h2⟩
 have e1:Lib.headSpace s=0:=qff fun c hc=>by
  have:=jvn h (List.mem_of_mem_head? hc);have:c.toNat≠32:=fun e=>h1 (by rw[hc,show c=32 from qvo.1 e]);omega
 have e2:Lib.tailSpace s=0:=qf8 fun c hc=>by
  have:=jvn h (List.mem_of_mem_getLast? hc);have:c.toNat≠32:=fun e=>h2 (by rw[hc,show c=32 from qvo.1 e]);omega
 have f1:∀n,Lib.stripL n s=s:=fun n=>by
  cases n with
  |zero=>rfl
  |succ n=>simp only[Lib.stripL];rw[um e1]
 have f2:∀n,Lib.stripR n s=s:=fun n=>by
  cases n with
  |zero=>rfl
  |succ n=>simp only[Lib.stripR];rw[um e2]
 rw[f1,f2]
theorem qg3:∀s:Str,Lib.contains s [32,32]=dbl s:=by
 have key:∀s:Str,0<=Lib.index s [32,32]↔dbl s=true:=by
  intro s
  induction s with
  |nil=>simp[Lib.index,dbl]
  |cons a r ih=>
   simp only[Lib.index];cases r with
   |nil=>simp[List.isPrefixOf,Lib.index,dbl]
   |cons b q=>
    have hge:=Lib.index_ge (b::q) [32,32]
    have hp:List.isPrefixOf ([32,32]:List UInt8) (a::b::q)=(a == 32 && b == 32):=by
     simp only[List.isPrefixOf,qw2];rw[Bool.beq_comm (a:=a),Bool.beq_comm (a:=b)]
    rw[hp];simp only[dbl];cases hab:(a == 32 && b == 32)
    .simp only[vq,va,yb];rw[<- ih];by_cases hz:Lib.index (b::q) [32,32]= -1
     .rw[hz];simp
     rw[ul (by simpa using hz)];omega
    simp
 intro s;unfold Lib.contains;rw[qw6,decide_eq_true_iff];exact key s
end Go.Arc
set_option maxRecDepth 100000
namespace Go.Arc
open Go.Ab Go.RowKit Go.Proofs Tryz
variable {T : Lay}
variable {F:Frz}{xs:List Value}{w:World}{v:V}
theorem jab{w':World}(hF:Sees F w)(hb:Below w.heap.size w w'):Ext F w F w':=
 ⟨Le.refl F,⟨fun p v e=>(hb.cell (jas (hF p v e))).trans (hF p v e),fun b xs e=>by obtain⟨ck,h⟩:=hF.m b xs e;exact⟨ck,(hb.block b (lx hF e)).trans h⟩⟩,fun _ _ e=>.inl e,fun _ _ e=>.inl e,hb⟩
theorem jez(h:Reps F [v] xs):∃x,xs=[x]/\Rep F v x:=by
 obtain⟨h1,h2⟩:=h
 match xs,h1 with
 |[x],_=>exact⟨x,rfl,h2 0 v x rfl rfl⟩
theorem jey{u:V}(h:Reps F [v,u] xs):∃x y,xs=[x,y]/\Rep F v x/\Rep F u y:=by
 obtain⟨h1,h2⟩:=h
 match xs,h1 with
 |[x,y],_=>exact⟨x,y,rfl,h2 0 v x rfl rfl,h2 1 u y rfl rfl⟩
theorem jdr(hF:Sees F w)(hl:Laid T F w):Sees T.f w:=⟨fun _ _ e=>hF _ _ (hl.1 _ _ e),fun _ _ e=>hF.m _ _ (hl.1.m _ _ e)⟩
theorem jyd{P:Program}{n:String}{g:Nat}{xs:Array Value}(hg:P.globalNamed n=some g)(h:T.r g=some xs)(hl:Laid T F w):w.var? P n=some xs:=by
 obtain⟨⟨ty,fz,e⟩,-⟩:=hl.2 g xs h;simp[World.var?,hg,e]
theorem jpt{a b:V}{x y:Value}(h:Rep F a x)(h':Rep F b y):Rep F (.tup [a,b]) (.tuple #[x,y]):=.tup rfl fun j c z e1 e2=>by
 match j with
 |0=>simp at e1 e2;subst e1 e2;exact h
 |1=>simp at e1 e2;subst e1 e2;exact h'
 |j+2=>simp at e1
structure LibT (T:Lay):Prop where
 sp:T.r 0=some (Lib.asciiSpaceTab.map fun z=>Value.int .u8 z).toArray
 pow:T.r 3=some (Lib.pow10Tab.map fun z=>Value.int .u64 z).toArray
 utf:∀w:World,Sees T.f w->Lib.Utf8Tabs 4 5 w
 wht:∀w:World,Sees T.f w->Lib.WhiteTab 1 w
 max:∃m:Int,T.f ⟨2,0,none⟩=some (.int .i64 m)
 esy:∃t p,T.f ⟨8,0,none⟩=some (.iface t p)
 era:∃t p,T.f ⟨9,0,none⟩=some (.iface t p)
theorem qlf(L:LibT T)(s:Str)(hs:s.length<=1048576):Den prog T 333 [.str s,.str [46]] (strs (split [] s)):=by
 refine⟨fun args w=>call333 args w,fun w F xs hF hl hx=>?_⟩;obtain⟨x,y,rfl,h1,h2⟩:=jey hx;obtain rfl:=cx h1;obtain rfl:=cx h2;obtain⟨m,hm⟩:=L.max;refine(Any.strings_Split Tryz.lays146 krq ⟨s.toArray⟩ ⟨#[46]⟩ m w (show s.toArray.size<_ by simp;omega) (jdr hF hl _ _ hm) dcq).mono ?_;rintro e w' ⟨rfl,rfl⟩;have hpl:=Lib.splitB_all ⟨#[46]⟩ dcq 0 _ ⟨s.toArray⟩ rfl;have hpe:=qkv s;have hcnt:=jgp s [];generalize Lib.splitB ⟨#[46]⟩ 0 (Lib.countB ⟨s.toArray⟩ ⟨#[46]⟩) ⟨s.toArray⟩=ps at hpl hpe;rw[<- hpl];have hlen:ps.length=(split [] s).length:=by rw[<- hpe,ut]
 refine⟨_,jeq F w.heap.size ps.length (ps.map Value.string).toArray,rfl,jwh hF _ _ _,?_⟩;have hel:ps.length=((split [] s).map Cst).length:=by rw[hlen,ut]
 have key:∀(i:Nat) (e:List V),((split [] s).map Cst)[i]?=some e->∃p:ByteArray,ps[i]?=some p/\e=Cst p.data.toList:=by
  intro i e he;rw[<- hpe] at he;simp only[List.map_map,vm,msi] at he;obtain⟨p,hp,rfl⟩:=he;exact⟨p,hp,rfl⟩
 have hlt:∀(i:Nat) (p:ByteArray),ps[i]?=some p->i<ps.length:=fun i p h=>(gsi.1 h).1
 have:=Rep.slice (F:=jeq F w.heap.size ps.length (ps.map Value.string).toArray) (size:=1) (es:=(split [] s).map Cst) (a:=⟨w.heap.size,0,none⟩) (cap:=ps.length)
  (fun i _=>.string (ps.getD i ByteArray.empty)) omq (by unfold maxLen;omega) (by intro e he;obtain⟨t,-,rfl⟩:=xi.1 he;rfl)
  (by intro e he c hc;obtain⟨t,-,rfl⟩:=xi.1 he;simp at hc;subst hc;rfl)
  (by
   intro i j e c h1 h2;obtain⟨p,hp,rfl⟩:=key i e h1
   have hj:j=0:=by
    rcases j with _|j
    .rfl
    simp at h2
   subst hj;have:=hlt i p hp;rw[eu];unfold jeq
   dsimp only
   rw[um zew]
   simp[hp])
  (by
   intro i j e c h1 h2;obtain⟨p,hp,rfl⟩:=key i e h1
   have hj:j=0:=by
    rcases j with _|j
    .rfl
    simp at h2
   subst hj;simp at h2;subst h2;have:ps.getD i ByteArray.empty=p:=by simp[hp]
   rw[this]
   exact .str p.data.toList)
 rwa [<- hel] at this
theorem qfe(L:LibT T)(s:Str)(hs:s.length<=1048576):Den prog T 179 [.str s,.str [32,32]] (vb (dbl s)):=by
 refine⟨fun args w=>call179 args w,fun w F xs hF hl hx=>?_⟩;obtain⟨x,y,rfl,h1,h2⟩:=jey hx;obtain rfl:=cx h1;obtain rfl:=cx h2;obtain⟨m,hm⟩:=L.max;refine(Any.strings_Contains Tryz.lays144 ⟨s.toArray⟩ ⟨#[32,32]⟩ m w (show s.toArray.size<_ by simp;omega) (jdr hF hl _ _ hm)).mono ?_;rintro e w' ⟨rfl,rfl⟩;refine⟨_,F,rfl,Ext.refl hF,?_⟩;have:=qg3 s;rw[<- this];exact .val _
theorem qp7(L:LibT T)(s:Str)(hs:s.length<=1048576):Den prog T 178 [.str s] (.str (Lib.trimSpaceD s)):=by
 refine⟨fun args w=>call178 args w,fun w F xs hF hl hx=>?_⟩;obtain⟨x,rfl,h1⟩:=jez hx;obtain rfl:=cx h1;have hw:=jdr hF hl;refine(Any.strings_TrimSpace_any Tryz.lays163 Tryz.Space_Extra_163 ⟨s.toArray⟩ w (show s.toArray.size<=_ by simp;omega) (jyd krq L.sp hl) (L.utf w hw) (L.wht w hw)).mono ?_;rintro e w' ⟨rfl,hb⟩;exact⟨_,F,rfl,jab hF hb,.str _⟩
theorem je2(L:LibT T)(n:Int)(h0: -9223372036854775808<=n)(h1:n<=9223372036854775807):Den prog T 72 [vi n] (.str (Lib.itoa n)):=by
 refine⟨fun args w=>call72 args w,fun w F xs hF hl hx=>?_⟩;obtain⟨x,rfl,h2⟩:=jez hx;obtain rfl:=al h2;refine(Any.strconv_Itoa Tryz.laysM171 n h0 h1 w (jyd krq L.pow hl)).mono ?_;rintro e w' ⟨rfl,k,os,rfl⟩;exact⟨_,F,rfl,jab hF (Lib.below_grow _ w (uv _) k os),.str _⟩
theorem jya(_L:LibT T)(l:List Str)(sep:Str)(hl:l.length<=1048576)(hb:(Lib.join l sep).length<=140737488355328):Den prog T 73 [strs l,.str sep] (.str (Lib.join l sep)):=by
 refine⟨fun args w=>call73 args w,fun w F xs hF hlay hx=>?_⟩;obtain⟨x,y,rfl,h1,h2⟩:=jey hx;obtain rfl:=cx h2;rcases qa h1 with⟨rfl,he⟩|⟨a,cap,g,rfl,hc,hm,hsz,ho,hg,hr⟩
 .have:l=[]:=by simpa using he
  subst this;refine(Any.strings_Join_none Tryz.lays156 Tryz.Builder_Extra_156 none 0 ⟨sep.toArray⟩ w).mono ?_;rintro e w' ⟨rfl,rfl⟩;exact⟨_,F,rfl,Ext.refl hF,.str _⟩
 rw[ut] at hc ⊢;cases l with
 |nil=>
  refine(Any.strings_Join_none Tryz.lays156 Tryz.Builder_Extra_156 (some a) cap ⟨sep.toArray⟩ w).mono ?_;rintro e w' ⟨rfl,rfl⟩;exact⟨_,F,rfl,Ext.refl hF,.str _⟩
 |cons s0 r=>
  have h00:=hF _ _ (hg 0 0 _ _ rfl rfl);obtain⟨b,o,sp⟩:=a
  have hsp:sp=none:=by
   simp only[Addr.add,Nat.zero_mul,Nat.add_zero,uy] at h00;unfold World.cell? at h00;split at h00
   .cases sp with
    |none=>rfl
    |some _=>simp at h00
   cases h00
  subst hsp
  have hcell:∀(j:Nat) (z:ByteArray),(((s0::r).map fun s=>(⟨s.toArray⟩:ByteArray)))[j]?=some z->w.cell? ⟨b,o+j,none⟩=some (.string z):=by
   intro j z hz;simp only[vm,msi] at hz;obtain⟨t,ht,rfl⟩:=hz;have he:((s0::r).map Cst)[j]?=some (Cst t):=by rw[vm,ht];rfl
   have q1:=hF _ _ (hg j 0 _ _ he rfl);have q2:=cx (hr j 0 _ _ he rfl);rw[q2,eu,qvi,Nat.add_zero] at q1;exact q1
  have hblk:b<w.heap.size:=jas (hcell 0 _ rfl);have hmap:((s0::r).map fun s=>(⟨s.toArray⟩:ByteArray)).map (·.data.toList)=s0::r:=by simp[List.map_map,Function.comp_def]
  have hlen:((s0::r).map fun s=>(⟨s.toArray⟩:ByteArray)).length=(s0::r).length:=ut _;have:=Any.strings_Join Tryz.lays156 Tryz.Builder_Extra_156 b o cap ((s0::r).map fun s=>(⟨s.toArray⟩:ByteArray)) ⟨sep.toArray⟩ w hcell hblk (by rw[hlen];omega) (by rw[hlen];exact hc) (by rw[hmap];exact hb);rw[hlen,hmap] at this;refine this.mono ?_;rintro e w' ⟨rfl,hbe⟩;exact⟨_,F,rfl,jab hF hbe,.str _⟩
theorem qp8(L:LibT T)(s:Str)(hs:s.length<=1048576):(∃n:Int,Den prog T 334 [.str s] (.tup [vi n,.val .nilIface])/\Lib.atoiAll s=.ok n)\/
  ((∀n,Lib.atoiAll s≠ .ok n)/\∃n:Int,Den prog T 334 [.str s] (.tup [vi n,.ifc])):=by
 have hE:Ab.Enters prog 334:=fun args w=>call334 args w;cases hz:Lib.atoiAll s with
 |ok n=>
  refine .inl ⟨n,⟨hE,fun w F xs hF hl hx=>?_⟩,rfl⟩;obtain⟨x,rfl,h1⟩:=jez hx;obtain rfl:=cx h1;refine(Any.strconv_Atoi_ok Tryz.laysC172 ⟨s.toArray⟩ (show s.toArray.size<=_ by simp;omega) n hz w).mono ?_;rintro e w' ⟨rfl,hw⟩;refine⟨_,F,rfl,jab hF ?_,jpt (.val _) (.val _)⟩;rcases hw with rfl|⟨t,rfl⟩
  .exact Below.refl _ _
  exact Lib.bytesWorld_below _ _ _
 |range=>
  obtain⟨t,p,hv⟩:=L.era;refine .inr ⟨(fun n h=>by cases h),Lib.atoiSat s,⟨hE,fun w F xs hF hl hx=>?_⟩⟩;obtain⟨x,rfl,h1⟩:=jez hx;obtain rfl:=cx h1;refine(Any.strconv_Atoi_range Tryz.laysC172 ⟨s.toArray⟩ (show s.toArray.size<=_ by simp;omega) hz _ w (jdr hF hl _ _ hv) (.inr ⟨t,p,rfl⟩)).mono ?_;rintro e w' ⟨N,rfl,-,-,hb⟩;exact⟨_,F,rfl,jab hF hb,jpt (.val _) (.ifc _ _)⟩
 |_=>
  obtain⟨t,p,hv⟩:=L.esy;refine .inr ⟨(fun n h=>by cases h),0,⟨hE,fun w F xs hF hl hx=>?_⟩⟩;obtain⟨x,rfl,h1⟩:=jez hx;obtain rfl:=cx h1;refine(Any.strconv_Atoi_syntax Tryz.laysC172 ⟨s.toArray⟩ (show s.toArray.size<=_ by simp;omega) hz _ w (jdr hF hl _ _ hv) (.inr ⟨t,p,rfl⟩)).mono ?_;rintro e w' ⟨N,rfl,-,-,hb⟩;exact⟨_,F,rfl,jab hF hb,jpt (.val _) (.ifc _ _)⟩
theorem libC(L:LibT T):LibC T where
 split:=qlf L
 atoi:=fun s hs=>by
  rcases qp8 L s hs with⟨n,h,e⟩|⟨hn,n,h⟩
  .exact .inl ⟨n,h,fun m hm=>by have:=jxf hm;rw[e] at this;cases this;rfl⟩
  refine .inr ⟨?_,n,h⟩;cases hp:part s with
  |none=>rfl
  |some m=>exact absurd (jxf hp) (hn _)
 itoa:=fun n hn=>by
  have:=je2 L n omq omq
  rwa [qpf hn] at this
 join:=fun l h6 hn=>by
  have hb:=jdb l;have:=jya L (l.map dec) [46] zew (by rw[jmf];omega)
  rwa [jmf] at this
 trim:=fun s hs=>⟨_,qp7 L s hs,qkn⟩
 contains:=qfe L
theorem rep0:∀n:Nat,Lib.repeatL [0] n=List.replicate n 0
 |0=>rfl
 |n+1=>by
  have ih:=rep0 n;rw[List.replicate_succ,<- ih];rfl
theorem jsn(_L:LibT T)(n:Nat)(h:n<=1048576):Den prog T 68 [.str [0],vi n] (.str (List.replicate n 0)):=by
 refine⟨fun args w=>call68 args w,fun w F xs hF hlay hx=>?_⟩;obtain⟨x,y,rfl,h1,h2⟩:=jey hx;obtain rfl:=cx h1;obtain rfl:=al h2;refine(Any.strings_Repeat Tryz.lays105 Tryz.Builder_Extra_105 ⟨[0].toArray⟩ n w omq (by show 1*n<=_;omega)).mono ?_;rintro e w' ⟨rfl,hbe⟩;refine⟨_,F,rfl,jab hF hbe,?_⟩;have:=rep0 n;rw[<- this];exact .str _
end Go.Arc
