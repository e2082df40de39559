/- A part of this claim. -/
import Derived.Test.YtfbbflhnhmphiaaGreatDoorBaE
import Derived.Lib.Split
import Derived.Lib.ItoaNum
import Derived.Lib.Join
import Derived.Lib.AtoiAll
import Derived.Lib.SpaceUEq
import Derived.Lib.IndexMore
import Derived.Test.YtfbbflhnhmphiaaGreatDoorShelf
import Derived.Lib.SplitLaws
import Derived.Lib.AppendIntMem
import Derived.Lib.AtoiErrMem
namespace Go.Arc
open Go.Ab
variable {l:List Nat}{s:Str}{k:Nat}{j:Nat}{α:Type}{q:α->Bool}{p:Plan}{n:Nat}
theorem jzv(h:n<1000):∀c∈dec n,c≠46:=by
 have:∀n:Fin 1000,∀c∈dec n.1,c≠46:=by decide +kernel
 exact this ⟨n,h⟩
theorem xa2(n:Nat):dec n≠[]:=by unfold dec;split<;>(try split)<;>simp
theorem jha:∀(a cur r:Str),(∀c∈a,c≠46)->split cur (a++r)=split (cur++a) r
 |[],cur,r,_=>by simp
 |c::a,cur,r,h=>by
  simp only[List.cons_append,split];rw[vd (h c smq),jha a _ r fun d hd=>h d (by simp[hd])];simp
theorem jug:∀(l:List Nat) (cur:Str),(∀n∈l,n<1000)->split cur (dots l)=cur::l.map dec
 |[],cur,_=>by simp[dots,split]
 |n::r,cur,h=>by
  simp only[dots,List.cons_append,split,xf,vy];rw[jha _ _ _ (jzv (h n smq)),jug r _ fun m hm=>h m (by simp[hm])];rfl
theorem juo:∀(l:List Nat),(∀n∈l,1<=n/\n<1000)->dv (l.map dec)=some l
 |[],_=>rfl
 |n::r,h=>by
  obtain⟨h1,h2⟩:=h n smq;simp only[vy,dv,jyp h1 h2,juo r fun m hm=>h m (by simp[hm])]
theorem qmp(h0:l≠[])(h6:l.length<=6)(hn:∀n∈l,1<=n/\n<1000):ak (fmt l)=some l:=by
 cases l with
 |nil=>exact absurd rfl h0
 |cons n r=>
  have e:dv (split [] (fmt (n::r)))=some (n::r):=by
   rw[ji3,jha _ _ _ (jzv (hn n smq).2),jug r _ fun m hm=>(hn m (by simp[hm])).2];exact juo (n::r) hn
  unfold ak;rw[e];simp only;rw[ve h6]
def glue:List Str->Str
 |[]=>[]
 |p::r=>46::p++glue r
theorem jks:∀(s cur:Str),glue (split cur s)=46::cur++s
 |[],cur=>by simp[split,glue]
 |c::r,cur=>by
  simp only[split];split
  .rename_i h;simp only[glue];rw[jks r []];simp[h]
  rw[jks r];simp
theorem jz6:∀ {l:List Str} {ns:List Nat},dv l=some ns->glue l=dots ns
 |[],ns,h=>by simp[dv] at h;subst h;rfl
 |p::r,ns,h=>by
  simp only[dv] at h;split at h
  .rename_i n l h1 h2;cases h;simp only[glue,dots,jzu h1,jz6 h2]
  cases h
theorem jx2(h:ak s=some l):fmt l=s:=by
 obtain⟨h0,-,-⟩:=me h;unfold ak at h;split at h
 .rename_i l' h1;split at h
  .cases h;have e:=jz6 h1;rw[jks] at e;cases l with
   |nil=>exact absurd rfl h0
   |cons n r=>
    rw[ji3];simp only[dots,List.cons_append,List.nil_append,List.cons.injEq,true_and] at e;exact e.symm
  cases h
 cases h
theorem jkk(h:ak s=some l)(h1:1<=j)(h2:j<=l.length):ak (fmt (l.take j))=some (l.take j):=by
 obtain⟨h0,h6,hn⟩:=me h;refine qmp (fun e=>?_) zep fun n h=>hn n (xb5 h);have:=congrArg List.length e;rw[xq,List.length_nil] at this;omega
theorem qmo:ak []=none:=by simp[ak,split,dv,part]
theorem qzr(h:l≠[]):fmt l≠[]:=by
 cases l with
 |nil=>exact absurd rfl h
 |cons n r=>rw[ji3];simp[xa2]
def lens(s:Str):Nat:=match ak s with|some l=>l.length|none=>0
theorem uj(h:ak s=some l):lens s=l.length:=by simp[lens,h]
theorem qd3(h:ak s=none):lens s=0:=by simp[lens,h]
theorem jgy:∀(l:List Nat),(fmt l).length<=4*l.length
 |[]=>by simp[fmt]
 |[n]=>by have:=qc3 n;simp[fmt];omega
 |n::m::r=>by
  have:=qc3 n;have:=jgy (m::r);simp only[fmt,vr,List.length_cons] at *;omega
def pb(p:Plan)(l:List Nat):Nat->Option Str
 |0=>none
 |k+1=>if has p (fmt (l.take (k+1)))=true then some (fmt (l.take (k+1))) else pb p l k
def up(p:Plan)(s:Str):Option Str:=if has p s=true then some s else match ak s with
 |none=>none
 |some l=>pb p l (l.length-1)
def next(old new:Plan)(s:Str):Option Str:=if has old s=true then
  match new.mov.find? (fun m=>m.frm == s) with
  |some m=>some m.to
  |none=>up new s
 else none
theorem jvo{p:Plan}{l:List Nat}: ∀ {n:Nat},(∀i,1<=i->i<=n->has p (fmt (l.take i))=false)->pb p l n=none
 |0,_=>rfl
 |n+1,h=>by
  simp only[pb];rw[h (n+1) omq omq,jvo fun i h1 h2=>h i h1 omq];simp
theorem jvn{p:Plan}{l:List Nat}{j:Nat}(h1:1<=j)(hj:has p (fmt (l.take j))=true):∀ {n:Nat},j<=n->(∀i,j<i->i<=n->has p (fmt (l.take i))=false)->pb p l n=some (fmt (l.take j))
 |0,h2,_=>by omega
 |n+1,h2,h=>by
  simp only[pb];by_cases e:j=n+1
  .rw[<- e,hj];simp
  rw[h (n+1) omq omq,jvn h1 hj omq fun i g1 g2=>h i g1 omq];simp
theorem jtb{a b:Str}(h:db a b=true):∃l m,ak a=some l/\ak b=some m/\1<=m.length/\m.length<=l.length/\l.take m.length=m:=by
 unfold db at h;split at h
 .rename_i l m hl hm;simp only[vn,vq] at h;obtain⟨h0,-,-⟩:=me hm;exact⟨l,m,hl,hm,yn.2 h0,h.1,h.2⟩
 cases h
theorem qh9(h:ak s=some l)(h1:1<=j)(h2:j<=l.length):db s (fmt (l.take j))=true:=by
 unfold db;rw[h,jkk h h1 h2];simp;omega
theorem qbf: has p s=true↔∃c∈p.cls,c.code=s:=by
 simp[has]
def pre(s:Str)(j:Nat):Str:=match ak s with
 |some l=>if j=0 then [] else fmt (l.take j)
 |none=>[]
theorem jhy(s:Str):pre s 0=[]:=by unfold pre;split<;>simp
theorem jej(h:ak s=some l)(hj:j≠0):pre s j=fmt (l.take j):=by
 unfold pre;rw[h];simp[hj]
theorem qio{c:Str}(h:db s c=true):1<=lens c/\lens c<=lens s/\c=pre s (lens c):=by
 obtain⟨l,m,hl,hm,h1,h2,h3⟩:=jtb h;rw[uj hl,uj hm,jej hl omq,h3,jx2 hm];exact⟨h1,h2,rfl⟩
theorem qv8(hs:has p s=false)(hj:j<=lens s)(h0:0<j->has p (pre s j)=true)(hall:∀c∈p.cls,db s c.code=true->lens c.code<=j):
  up p s=if j=0 then none else some (pre s j):=by
 simp only[up,hs,yw,xy];cases hp:ak s with
 |none=>
  rw[qd3 hp] at hj;simp;omega
 |some l=>
  rw[uj hp] at hj
  have hno:∀i,j<i->i<=l.length-1->has p (fmt (l.take i))=false:=fun i h1 h2=>by
   cases hh:has p (fmt (l.take i))
   .rfl
   obtain⟨c,hc,he⟩:=qbf.1 hh;have hw:=qh9 hp (j:=i) omq omq;rw[<- he] at hw;have:=hall c hc hw;rw[he,uj (jkk hp omq omq)] at this;simp at this;omega
  by_cases hz:j=0
  .subst hz;simp only[xf];exact jvo fun i h1 h2=>hno i omq h2
  rw[vd hz];have hh:=h0 omq;rw[jej hp hz] at hh ⊢;refine jvn omq hh ?_ hno;rcases xk j l.length with h|h
  .omega
  have:l.take j=l:=ye h;rw[this,jx2 hp,hs] at hh;cases hh
def lt2(a b:Str):Bool:=match cmp a b with
 |some n=>decide (n<0)
 |none=>false
def ou:List Str->Bool
 |a::b::r=>lt2 a b && ou (b::r)
 |_=>true
def jfc(p:Plan)(c:Cls):Bool:=match ui c.code with
 |some u=> !has p u
 |none=>false
def mw(p:Plan):Int:=
 if p.cls.any (fun c=> !(ak c.code).isSome)=true then 3 else if p.cls.any (fun c=> !name c.title)=true then 4 else
 if ou (p.cls.map (·.code))=false then 5 else if p.cls.any (jfc p)=true then 7 else 0
def jce(old p:Plan):Int:=
 if p.mov.any (fun m=> !has old m.frm || !has p m.to)=true then 7 else if ou (p.mov.map (·.frm))=false then 5 else
 if old.cls.any (fun c=>(next old p c.code).isNone)=true then 24 else 0
def jn(q:Option Plan)(i:Nat)(p:Plan):Int:=
 if p.ver≠i+1\/cd p.frm p.til=false then 2 else if(∃q',q=some q'/\p.frm≠q'.til) then 16 else
 if 128<p.cls.length\/128<p.mov.length then 8 else if mw p≠0 then mw p else
 match q with
 |none=>if 0<p.mov.length then 1 else 0
 |some q=>jce q p
def before(l:List Plan)(i:Nat):Option Plan:=if i=0 then none else l[i-1]?
def jt(l:List Plan)(i:Nat):Int:=match l[i]? with
 |none=>0
 |some p=>jn (before l i) i p
def bad(l:List Plan):Option Nat:=(List.range l.length).find? fun i=>jt l i != 0
def check(l:List Plan):Int×Int:=if 16<l.length then(-1,8) else match bad l with
 |some i=>(i,jt l i)
 |none=>(-1,0)
abbrev jj4(l:List Plan):V:=.tup [vi (check l).1,vi (check l).2]
def goodL(l:List Plan):Bool:=(check l).2 == 0
def idx(l:List Plan)(d:Int):Int:=ix (fun p=>inS p.frm p.til d) l
def atL(l:List Plan)(d:Int):Int:=if goodL l=true then idx l d else -1
theorem jrq{l:List α}{x:α}(hx:l[k]?=some x)(hq:q x=true):l.any q=true:=
 yd.2 ⟨x,vp hx,hq⟩
theorem qck{l:List α}(h:∀e∈l.take k,q e=false)(hk:¬k<l.length):l.any q=false:=by
 rw[yf];intro x hx;simp[jht h hk x hx]
theorem qhf{l:List Str}{x y:Str}(hd:l.drop k=x::l.drop (k+1))(he:l.drop (k+1)=y::l.drop (k+1+1)):ou (l.drop k)=(lt2 x y && ou (l.drop (k+1))):=by
 rw[hd,he];rfl
theorem qj2{l:List Str}(h:¬k+1<l.length):ou (l.drop k)=true:=by
 have:(l.drop k).length<=1:=by simp;omega
 match l.drop k,this with
 |[],_=>rfl
 |[_],_=>rfl
 |_::_::_,h=>simp at h
theorem xa5{l:List Plan}(hk:k<l.length)(h:∀i,i<k->jt l i=0)(hf:jt l k≠0):bad l=some k:=by
 unfold bad;rw[List.find?_range_eq_some];exact⟨by simpa using hf,by simpa using hk,fun i hi=>by simp[h i hi]⟩
theorem qu9{l:List Plan}(h:∀i,i<l.length->jt l i=0):bad l=none:=by
 unfold bad;rw[yq];intro i hi;simp[h i zfb]
theorem jpe(s:Str)(c:UInt8)(i:Nat):Lib.occAt s [c] i=true↔s[i]?=some c:=by
 unfold Lib.occAt;constructor
 .intro h;cases hd:s.drop i with
  |nil=>rw[hd] at h;simp at h
  |cons x r=>
   rw[hd] at h;simp at h;subst h;have:=congrArg List.head? hd;exact zb4
 intro h;obtain⟨hlt,rfl⟩:=gsi.1 h;rw[xat hlt];simp only[List.isPrefixOf,xb1,xc7]
theorem juf:∀ {s cur:Str},(∀c∈s,c≠46)->split cur s=[cur++s]
 |[],cur,_=>by simp[split]
 |c::r,cur,h=>by
  simp only[split];rw[vd (h c smq),juf fun d hd=>h d (by simp[hd])];simp
theorem qme:∀(n:Nat) (s:Str),s.length<=n->Lib.splitK [46] 0 (Lib.count s [46]) s=split [] s:=by
 intro n
 induction n with
 |zero=>
  intro s h;have:s=[]:=yg omq;subst this;rfl
 |succ n ih=>
  intro s h;rcases Lib.index_spec s [46] with⟨h1,h2⟩|⟨i,h1,h2,h3,h4⟩
  .rw[Lib.count_miss h1];simp only[Lib.splitK];rw[juf fun c hc e=>?_]
   .simp
   subst e;obtain⟨j,hj,he⟩:=List.mem_iff_getElem.1 hc;have:=h2 j omq;rw[(jpe s 46 j).2 (by rw[<- he];exact gge hj)] at this;cases this
  rw[Lib.count_hit smq h1,xbm];have hi:=(jpe s 46 i).1 h3;obtain⟨hlt,hi'⟩:=gsi.1 hi;have hne:¬(Lib.index s [46] == -1)=true:=by rw[h1];simp
  have ht:(Lib.index s [46]).toNat=i:=by rw[h1];simp
  simp only[Lib.splitK];rw[vd hne,ht];simp only[List.length_cons,List.length_nil,xl,Nat.add_zero];rw[ih (s.drop (i+1)) zep]
  have hs:s=s.take i++46::s.drop (i+1):=by
   conv=>lhs;rw[<- xc2 i s]
   rw[xat hlt,hi']
  conv=>rhs;rw[hs]
  rw[jha (s.take i) [] _ fun c hc e=>?_]
  .simp[split]
  subst e;obtain⟨j,hj,he⟩:=List.mem_iff_getElem.1 hc;have hji:j<i:=by simp at hj;omega
  have:=h4 j hji;rw[(jpe s 46 j).2 (by rw[<- he,List.getElem_take,gge])] at this;cases this
theorem qmf(s:Str):(Lib.splitB ⟨#[46]⟩ 0 (Lib.countB ⟨s.toArray⟩ ⟨#[46]⟩) ⟨s.toArray⟩).map (·.data.toList)=split [] s:=by
 rw[Lib.splitB_data];exact qme s.length s (vo _)
theorem qrw(h:n<1000):Lib.itoa (n:Int)=dec n:=by
 have e:Lib.itoa (n:Int)=Lib.decDigits n:=by
  unfold Lib.itoa;rw[vd omq];simp
 rw[e];unfold dec;by_cases h1:n<10
 .rw[ve h1,Lib.decDigits,dif_pos h1]
 rw[vd h1,Lib.decDigits,dif_neg h1];by_cases h2:n<100
 .rw[ve h2,Lib.decDigits,dif_pos omq];rfl
 rw[vd h2,Lib.decDigits,dif_neg omq,Lib.decDigits,dif_pos omq];rfl
theorem jnj:∀l:List Nat,Lib.join (l.map dec) [46]=fmt l
 |[]=>rfl
 |[n]=>by simp[Lib.join,fmt,List.intercalate]
 |n::m::r=>by
  have ih:=jnj (m::r);simp only[Lib.join,List.intercalate,vy,fmt] at ih ⊢;rw[List.intersperse,List.flatten_cons,List.flatten_cons,ih]
  .simp
  intro e;cases e
theorem jsp:∀(s:Str) (n m:Nat),vnum n s=some m->(n+1)*10 ^ s.length<=10000->Lib.parseUint10 n s=.ok m
 |[],n,m,h,_=>by simp[vnum] at h;subst h;rfl
 |c::r,n,m,h,hb=>by
  simp only[vnum] at h;split at h
  .rename_i hc;have hp:1<=10 ^ r.length:=Nat.one_le_pow _ _ dcq;rw[List.length_cons,Nat.pow_succ] at hb;have h1:n+1<=10000:=xc (Nat.le_mul_of_pos_right _ omq) hb;have h2:(10*n+(c.toNat-48)+1)*10 ^ r.length<=((n+1)*10)*10 ^ r.length:=xb2 _ omq;have e:((n+1)*10)*10 ^ r.length=(n+1)*(10 ^ r.length*10):=by rw[Nat.mul_assoc,xbq 10]
   simp only[Lib.parseUint10];rw[ve hc,vd omq,vd omq,xbq n 10];exact jsp r _ m h omq
  cases h
theorem jy2{m:Nat}(h:part s=some m):Lib.atoiAll s=.ok (m:Int):=by
 have hlt:=jp2 h;unfold part at h;split at h
 .cases h
 rename_i hc
 have hp:=jsp s 0 m h (by
  have:10 ^ s.length<=10 ^ 3:=Nat.pow_le_pow_right dcq omq
  omega)
 cases s with
 |nil=>simp at hc
 |cons c r=>
  have hcd:48<=c.toNat/\c.toNat<=57:=by
   simp only[vnum] at h;split at h
   .assumption
   cases h
  unfold Lib.atoiAll;simp only;rw[vd omq];unfold Lib.parseMag;rw[vd smq,hp];simp only;rw[vd omq,vd omq,vd omq]
theorem qr6:∀q∈Lib.spaceSeqs,∃h t,q=h::t/\(h.toNat<=32\/127<=h.toNat):=by
 have:∀q∈Lib.spaceSeqs,(match q with|h::_=>decide (h.toNat<=32) || decide (127<=h.toNat)|[]=>false)=true:=by decide
 intro q hq;have:=this q hq;cases q with
 |nil=>cases this
 |cons h t=>exact⟨h,t,rfl,by simpa using this⟩
theorem qr5:∀q∈Lib.spaceSeqs,∃h,q.getLast?=some h/\(h.toNat<=32\/127<=h.toNat):=by
 have:∀q∈Lib.spaceSeqs,(match q.getLast? with|some h=>decide (h.toNat<=32) || decide (127<=h.toNat)|none=>false)=true:=by decide
 intro q hq;have:=this q hq;split at this
 .rename_i h hh;exact⟨h,hh,by simpa using this⟩
 cases this
theorem qat:∀q∈Lib.spaceSeqs,1<=q.length:=by decide
theorem qgj{l:Str}(h:∀c,l.head?=some c->32<c.toNat/\c.toNat<127):Lib.headSpace l=0:=by
 unfold Lib.headSpace;rw[yq.2]
 .rfl
 intro q hq;obtain⟨a,t,rfl,ha⟩:=qr6 q hq;cases l with
 |nil=>simp
 |cons c r=>
  have:=h c rfl;have hne:(a == c)=false:=jji fun e=>by subst e;omega
  simp[List.isPrefixOf,hne]
theorem qgk(r:Str):Lib.headSpace (32::r)≠0:=by
 unfold Lib.headSpace;cases hf:Lib.spaceSeqs.find? fun x=>x.isPrefixOf (32::r) with
 |none=>
  have:=yq.1 hf [32] dcq;simp[List.isPrefixOf] at this
 |some q=>
  have:=qat q (xb0 hf)
  show q.length≠0
  omega
theorem qga{l:Str}(h:∀c,l.getLast?=some c->32<c.toNat/\c.toNat<127):Lib.tailSpace l=0:=by
 unfold Lib.tailSpace;rw[yq.2]
 .rfl
 intro q hq hs;obtain⟨a,ha,hb⟩:=qr5 q hq;have hs':=List.isSuffixOf_iff_suffix.1 hs;obtain⟨t,rfl⟩:=hs';have hl:(t++q).getLast?=some a:=by rw[List.getLast?_append,ha];rfl
 have:=h a hl;omega
theorem qgb{l:Str}(h:l.getLast?=some 32):Lib.tailSpace l≠0:=by
 unfold Lib.tailSpace;cases hf:Lib.spaceSeqs.find? fun x=>x.isSuffixOf l with
 |none=>
  have hno:=yq.1 hf [32] dcq;exfalso;apply hno;rw[List.isSuffixOf_iff_suffix];obtain⟨t,rfl⟩:=List.getLast?_eq_some_iff.1 h;exact⟨t,rfl⟩
 |some q=>
  have:=qat q (xb0 hf)
  show q.length≠0
  omega
theorem jke:∀(f:Nat) (l:Str),(Lib.stripL f l).length<=l.length
 |0,l=>vo _
 |f+1,l=>by
  simp only[Lib.stripL];split
  .exact zej
  have:=jke f (l.drop (Lib.headSpace l));simp at this;omega
theorem jgq:∀(f:Nat) (l:Str),(Lib.stripR f l).length<=l.length
 |0,l=>vo _
 |f+1,l=>by
  simp only[Lib.stripR];split
  .exact zej
  have:=jgq f (l.take (l.length-Lib.tailSpace l));simp at this;omega
theorem jwh(h:oe s=true){c:UInt8}(hc:c∈s):32<=c.toNat/\c.toNat<=126:=by
 have:=xi.1 h c hc;exact zb4
theorem qm4(h:oe s=true):Lib.trimSpaceD s=s↔s.head? ≠ some 32/\s.getLast? ≠ some 32:=by
 rw[<- Lib.trimSpaceU_eq];unfold Lib.trimSpaceU;constructor
 .intro e;constructor
  .intro hh;cases s with
   |nil=>cases hh
   |cons c r=>
    cases hh;have h1:=qgk r;have h2:=congrArg List.length e;have h3:=jgq (32::r).length (Lib.stripL (32::r).length (32::r))
    have h4:(Lib.stripL (32::r).length (32::r)).length<(32::r).length:=by
     simp only[List.length_cons,Lib.stripL];rw[vd h1];have:=jke r.length ((32::r).drop (Lib.headSpace (32::r)));simp only[xw,List.length_cons] at this;omega
    omega
  intro hl;have hne:s≠[]:=fun e=>by rw[e] at hl;cases hl
  have hpos:=yn.2 hne;have h2:=congrArg List.length e;by_cases hs:Lib.stripL s.length s=s
  .rw[hs] at h2;have h1:=qgb hl;obtain⟨n,hn⟩:∃n,s.length=n+1:=⟨s.length-1,omq⟩
   have h4:(Lib.stripR s.length s).length<s.length:=by
    rw[hn];simp only[Lib.stripR];rw[vd h1];have:=jgq n (s.take (s.length-Lib.tailSpace s));simp only[xq] at this;omega
   omega
  have h3:=jgq s.length (Lib.stripL s.length s)
  have h4:(Lib.stripL s.length s).length<s.length:=by
   obtain⟨n,hn⟩:∃n,s.length=n+1:=⟨s.length-1,omq⟩;rw[hn] at hs ⊢;simp only[Lib.stripL] at hs ⊢;split
   .rename_i hz;rw[ve hz] at hs;exact absurd rfl hs
   rename_i hz;have:=jke n (s.drop (Lib.headSpace s));simp at this;omega
  omega
 rintro⟨h1,h2⟩
 have e1:Lib.headSpace s=0:=qgj fun c hc=>by
  have:=jwh h (List.mem_of_mem_head? hc);have:c.toNat≠32:=fun e=>h1 (by rw[hc,show c=32 from xcx.1 e]);omega
 have e2:Lib.tailSpace s=0:=qga fun c hc=>by
  have:=jwh h (List.mem_of_mem_getLast? hc);have:c.toNat≠32:=fun e=>h2 (by rw[hc,show c=32 from xcx.1 e]);omega
 have f1:∀n,Lib.stripL n s=s:=fun n=>by
  cases n with
  |zero=>rfl
  |succ n=>simp only[Lib.stripL];rw[ve e1]
 have f2:∀n,Lib.stripR n s=s:=fun n=>by
  cases n with
  |zero=>rfl
  |succ n=>simp only[Lib.stripR];rw[ve e2]
 rw[f1,f2]
theorem qh6:∀s:Str,Lib.contains s [32,32]=dbl s:=by
 have key:∀s:Str,0<=Lib.index s [32,32]↔dbl s=true:=by
  intro s
  induction s with
  |nil=>simp[Lib.index,dbl]
  |cons a r ih=>
   simp only[Lib.index];cases r with
   |nil=>simp[List.isPrefixOf,Lib.index,dbl]
   |cons b q=>
    have hge:=Lib.index_ge (b::q) [32,32]
    have hp:List.isPrefixOf ([32,32]:List UInt8) (a::b::q)=(a == 32 && b == 32):=by
     simp only[List.isPrefixOf,xc7];rw[Bool.beq_comm (a:=a),Bool.beq_comm (a:=b)]
    rw[hp];simp only[dbl];cases hab:(a == 32 && b == 32)
    .simp only[yw,xy,xav];rw[<- ih];by_cases hz:Lib.index (b::q) [32,32]= -1
     .rw[hz];simp
     rw[vd (by simpa using hz)];omega
    simp
 intro s;unfold Lib.contains;rw[xc1,decide_eq_true_iff];exact key s
end Go.Arc
set_option maxRecDepth 100000
namespace Go.Arc
open Go.Ab Go.RowKit Go.Proofs Tryz
variable {T : Lay}
variable {F:Frz}{xs:List Value}{w:World}{v:V}
theorem tp{w':World}(hF:Sees F w)(hb:Below w.heap.size w w'):Ext F w F w':=
 ⟨Le.refl F,⟨fun p v e=>(hb.cell (uf (hF p v e))).trans (hF p v e),fun b xs e=>by obtain⟨ck,h⟩:=hF.m b xs e;exact⟨ck,(hb.block b (ju hF e)).trans h⟩⟩,fun _ _ e=>.inl e,fun _ _ e=>.inl e,hb⟩
theorem jcw(h:Reps F [v] xs):∃x,xs=[x]/\Rep F v x:=by
 obtain⟨h1,h2⟩:=h
 match xs,h1 with
 |[x],_=>exact⟨x,rfl,h2 0 v x rfl rfl⟩
theorem jcv{u:V}(h:Reps F [v,u] xs):∃x y,xs=[x,y]/\Rep F v x/\Rep F u y:=by
 obtain⟨h1,h2⟩:=h
 match xs,h1 with
 |[x,y],_=>exact⟨x,y,rfl,h2 0 v x rfl rfl,h2 1 u y rfl rfl⟩
theorem je7(hF:Sees F w)(hl:Laid T F w):Sees T.f w:=⟨fun _ _ e=>hF _ _ (hl.1 _ _ e),fun _ _ e=>hF.m _ _ (hl.1.m _ _ e)⟩
theorem jz0{P:Program}{n:String}{g:Nat}{xs:Array Value}(hg:P.globalNamed n=some g)(h:T.r g=some xs)(hl:Laid T F w):w.var? P n=some xs:=by
 obtain⟨⟨ty,fz,e⟩,-⟩:=hl.2 g xs h;simp[World.var?,hg,e]
theorem jqr{a b:V}{x y:Value}(h:Rep F a x)(h':Rep F b y):Rep F (.tup [a,b]) (.tuple #[x,y]):=.tup rfl fun j c z e1 e2=>by
 match j with
 |0=>simp at e1 e2;subst e1 e2;exact h
 |1=>simp at e1 e2;subst e1 e2;exact h'
 |j+2=>simp at e1
structure LibT (T:Lay):Prop where
 sp:T.r 0=some (Lib.asciiSpaceTab.map fun z=>Value.int .u8 z).toArray
 pow:T.r 7=some (Lib.pow10Tab.map fun z=>Value.int .u64 z).toArray
 utf:∀w:World,Sees T.f w->Lib.Utf8Tabs 5 6 w
 wht:∀w:World,Sees T.f w->Lib.WhiteTab 1 w
 max:∃m:Int,T.f ⟨2,0,none⟩=some (.int .i64 m)
 esy:∃t p,T.f ⟨3,0,none⟩=some (.iface t p)
 era:∃t p,T.f ⟨4,0,none⟩=some (.iface t p)
theorem qn2(L:LibT T)(s:Str)(hs:s.length<=1048576):Den prog T 205 [.str s,.str [46]] (strs (split [] s)):=by
 refine⟨fun args w=>call205 args w,fun w F xs hF hl hx=>?_⟩;obtain⟨x,y,rfl,h1,h2⟩:=jcv hx;obtain rfl:=cw h1;obtain rfl:=cw h2;obtain⟨m,hm⟩:=L.max;refine(Any.strings_Split Tryz.lays146 krq ⟨s.toArray⟩ ⟨#[46]⟩ m w (show s.toArray.size<_ by simp;omega) (je7 hF hl _ _ hm) dcq).mono ?_;rintro e w' ⟨rfl,rfl⟩;have hpl:=Lib.splitB_all ⟨#[46]⟩ dcq 0 _ ⟨s.toArray⟩ rfl;have hpe:=qmf s;have hcnt:=jh9 s [];generalize Lib.splitB ⟨#[46]⟩ 0 (Lib.countB ⟨s.toArray⟩ ⟨#[46]⟩) ⟨s.toArray⟩=ps at hpl hpe;rw[<- hpl];have hlen:ps.length=(split [] s).length:=by rw[<- hpe,vm]
 refine⟨_,gn F w.heap.size ps.length (ps.map Value.string).toArray,rfl,jxa hF _ _ _,?_⟩;have hel:ps.length=((split [] s).map Cst).length:=by rw[hlen,vm]
 have key:∀(i:Nat) (e:List V),((split [] s).map Cst)[i]?=some e->∃p:ByteArray,ps[i]?=some p/\e=Cst p.data.toList:=by
  intro i e he;rw[<- hpe] at he;simp only[List.map_map,xe,msi] at he;obtain⟨p,hp,rfl⟩:=he;exact⟨p,hp,rfl⟩
 have hlt:∀(i:Nat) (p:ByteArray),ps[i]?=some p->i<ps.length:=fun i p h=>(gsi.1 h).1
 have:=Rep.slice (F:=gn F w.heap.size ps.length (ps.map Value.string).toArray) (size:=1) (es:=(split [] s).map Cst) (a:=⟨w.heap.size,0,none⟩) (cap:=ps.length)
  (fun i _=>.string (ps.getD i ByteArray.empty)) omq (by unfold maxLen;omega) (by intro e he;obtain⟨t,-,rfl⟩:=ya.1 he;rfl)
  (by intro e he c hc;obtain⟨t,-,rfl⟩:=ya.1 he;simp at hc;subst hc;rfl)
  (by
   intro i j e c h1 h2;obtain⟨p,hp,rfl⟩:=key i e h1
   have hj:j=0:=by
    rcases j with _|j
    .rfl
    simp at h2
   subst hj;have:=hlt i p hp;rw[eu];unfold gn
   dsimp only
   rw[ve zep]
   simp[hp])
  (by
   intro i j e c h1 h2;obtain⟨p,hp,rfl⟩:=key i e h1
   have hj:j=0:=by
    rcases j with _|j
    .rfl
    simp at h2
   subst hj;simp at h2;subst h2;have:ps.getD i ByteArray.empty=p:=by simp[hp]
   rw[this]
   exact .str p.data.toList)
 rwa [<- hel] at this
theorem qgg(L:LibT T)(s:Str)(hs:s.length<=1048576):Den prog T 189 [.str s,.str [32,32]] (vb (dbl s)):=by
 refine⟨fun args w=>call189 args w,fun w F xs hF hl hx=>?_⟩;obtain⟨x,y,rfl,h1,h2⟩:=jcv hx;obtain rfl:=cw h1;obtain rfl:=cw h2;obtain⟨m,hm⟩:=L.max;refine(Any.strings_Contains Tryz.lays144 ⟨s.toArray⟩ ⟨#[32,32]⟩ m w (show s.toArray.size<_ by simp;omega) (je7 hF hl _ _ hm)).mono ?_;rintro e w' ⟨rfl,rfl⟩;refine⟨_,F,rfl,Ext.refl hF,?_⟩;have:=qh6 s;rw[<- this];exact .val _
theorem qrq(L:LibT T)(s:Str)(hs:s.length<=1048576):Den prog T 188 [.str s] (.str (Lib.trimSpaceD s)):=by
 refine⟨fun args w=>call188 args w,fun w F xs hF hl hx=>?_⟩;obtain⟨x,rfl,h1⟩:=jcw hx;obtain rfl:=cw h1;have hw:=je7 hF hl;refine(Any.strings_TrimSpace_any Tryz.lays163 Tryz.Space_Extra_163 ⟨s.toArray⟩ w (show s.toArray.size<=_ by simp;omega) (jz0 krq L.sp hl) (L.utf w hw) (L.wht w hw)).mono ?_;rintro e w' ⟨rfl,hb⟩;exact⟨_,F,rfl,tp hF hb,.str _⟩
theorem jc1(L:LibT T)(n:Int)(h0: -9223372036854775808<=n)(h1:n<=9223372036854775807):Den prog T 207 [vi n] (.str (Lib.itoa n)):=by
 refine⟨fun args w=>call207 args w,fun w F xs hF hl hx=>?_⟩;obtain⟨x,rfl,h2⟩:=jcw hx;obtain rfl:=al h2;refine(Any.strconv_Itoa Tryz.laysM171 n h0 h1 w (jz0 krq L.pow hl)).mono ?_;rintro e w' ⟨rfl,k,os,rfl⟩;exact⟨_,F,rfl,tp hF (Lib.below_grow _ w (vo _) k os),.str _⟩
theorem jyy(_L:LibT T)(l:List Str)(sep:Str)(hl:l.length<=1048576)(hb:(Lib.join l sep).length<=140737488355328):Den prog T 256 [strs l,.str sep] (.str (Lib.join l sep)):=by
 refine⟨fun args w=>call256 args w,fun w F xs hF hlay hx=>?_⟩;obtain⟨x,y,rfl,h1,h2⟩:=jcv hx;obtain rfl:=cw h2;rcases py h1 with⟨rfl,he⟩|⟨a,cap,g,rfl,hc,hm,hsz,ho,hg,hr⟩
 .have:l=[]:=by simpa using he
  subst this;refine(Any.strings_Join_none Tryz.lays156 Tryz.Builder_Extra_156 none 0 ⟨sep.toArray⟩ w).mono ?_;rintro e w' ⟨rfl,rfl⟩;exact⟨_,F,rfl,Ext.refl hF,.str _⟩
 rw[vm] at hc ⊢;cases l with
 |nil=>
  refine(Any.strings_Join_none Tryz.lays156 Tryz.Builder_Extra_156 (some a) cap ⟨sep.toArray⟩ w).mono ?_;rintro e w' ⟨rfl,rfl⟩;exact⟨_,F,rfl,Ext.refl hF,.str _⟩
 |cons s0 r=>
  have h00:=hF _ _ (hg 0 0 _ _ rfl rfl);obtain⟨b,o,sp⟩:=a
  have hsp:sp=none:=by
   simp only[Addr.add,xcs,Nat.add_zero,xf] at h00;unfold World.cell? at h00;split at h00
   .cases sp with
    |none=>rfl
    |some _=>simp at h00
   cases h00
  subst hsp
  have hcell:∀(j:Nat) (z:ByteArray),(((s0::r).map fun s=>(⟨s.toArray⟩:ByteArray)))[j]?=some z->w.cell? ⟨b,o+j,none⟩=some (.string z):=by
   intro j z hz;simp only[xe,msi] at hz;obtain⟨t,ht,rfl⟩:=hz;have he:((s0::r).map Cst)[j]?=some (Cst t):=by rw[xe,ht];rfl
   have q1:=hF _ _ (hg j 0 _ _ he rfl);have q2:=cw (hr j 0 _ _ he rfl);rw[q2,eu,xbp,Nat.add_zero] at q1;exact q1
  have hblk:b<w.heap.size:=uf (hcell 0 _ rfl);have hmap:((s0::r).map fun s=>(⟨s.toArray⟩:ByteArray)).map (·.data.toList)=s0::r:=by simp[List.map_map,Function.comp_def]
  have hlen:((s0::r).map fun s=>(⟨s.toArray⟩:ByteArray)).length=(s0::r).length:=vm _;have:=Any.strings_Join Tryz.lays156 Tryz.Builder_Extra_156 b o cap ((s0::r).map fun s=>(⟨s.toArray⟩:ByteArray)) ⟨sep.toArray⟩ w hcell hblk (by rw[hlen];omega) (by rw[hlen];exact hc) (by rw[hmap];exact hb);rw[hlen,hmap] at this;refine this.mono ?_;rintro e w' ⟨rfl,hbe⟩;exact⟨_,F,rfl,tp hF hbe,.str _⟩
theorem qrr(L:LibT T)(s:Str)(hs:s.length<=1048576):(∃n:Int,Den prog T 206 [.str s] (.tup [vi n,.val .nilIface])/\Lib.atoiAll s=.ok n)\/
  ((∀n,Lib.atoiAll s≠ .ok n)/\∃n:Int,Den prog T 206 [.str s] (.tup [vi n,.ifc])):=by
 have hE:Ab.Enters prog 206:=fun args w=>call206 args w;cases hz:Lib.atoiAll s with
 |ok n=>
  refine .inl ⟨n,⟨hE,fun w F xs hF hl hx=>?_⟩,rfl⟩;obtain⟨x,rfl,h1⟩:=jcw hx;obtain rfl:=cw h1;refine(Any.strconv_Atoi_ok Tryz.laysC172 ⟨s.toArray⟩ (show s.toArray.size<=_ by simp;omega) n hz w).mono ?_;rintro e w' ⟨rfl,hw⟩;refine⟨_,F,rfl,tp hF ?_,jqr (.val _) (.val _)⟩;rcases hw with rfl|⟨t,rfl⟩
  .exact Below.refl _ _
  exact Lib.bytesWorld_below _ _ _
 |range=>
  obtain⟨t,p,hv⟩:=L.era;refine .inr ⟨(fun n h=>by cases h),Lib.atoiSat s,⟨hE,fun w F xs hF hl hx=>?_⟩⟩;obtain⟨x,rfl,h1⟩:=jcw hx;obtain rfl:=cw h1;refine(Any.strconv_Atoi_range Tryz.laysC172 ⟨s.toArray⟩ (show s.toArray.size<=_ by simp;omega) hz _ w (je7 hF hl _ _ hv) (.inr ⟨t,p,rfl⟩)).mono ?_;rintro e w' ⟨N,rfl,-,-,hb⟩;exact⟨_,F,rfl,tp hF hb,jqr (.val _) (.ifc _ _)⟩
 |_=>
  obtain⟨t,p,hv⟩:=L.esy;refine .inr ⟨(fun n h=>by cases h),0,⟨hE,fun w F xs hF hl hx=>?_⟩⟩;obtain⟨x,rfl,h1⟩:=jcw hx;obtain rfl:=cw h1;refine(Any.strconv_Atoi_syntax Tryz.laysC172 ⟨s.toArray⟩ (show s.toArray.size<=_ by simp;omega) hz _ w (je7 hF hl _ _ hv) (.inr ⟨t,p,rfl⟩)).mono ?_;rintro e w' ⟨N,rfl,-,-,hb⟩;exact⟨_,F,rfl,tp hF hb,jqr (.val _) (.ifc _ _)⟩
theorem libC(L:LibT T):LibC T where
 split:=qn2 L
 atoi:=fun s hs=>by
  rcases qrr L s hs with⟨n,h,e⟩|⟨hn,n,h⟩
  .exact .inl ⟨n,h,fun m hm=>by have:=jy2 hm;rw[e] at this;cases this;rfl⟩
  refine .inr ⟨?_,n,h⟩;cases hp:part s with
  |none=>rfl
  |some m=>exact absurd (jy2 hp) (hn _)
 itoa:=fun n hn=>by
  have:=jc1 L n omq omq
  rwa [qrw hn] at this
 join:=fun l h6 hn=>by
  have hb:=jgy l;have:=jyy L (l.map dec) [46] zep (by rw[jnj];omega)
  rwa [jnj] at this
 trim:=fun s hs=>⟨_,qrq L s hs,qm4⟩
 contains:=qgg L
theorem rep0:∀n:Nat,Lib.repeatL [0] n=List.replicate n 0
 |0=>rfl
 |n+1=>by
  have ih:=rep0 n;rw[List.replicate_succ,<- ih];rfl
theorem jth(_L:LibT T)(n:Nat)(h:n<=1048576):Den prog T 257 [.str [0],vi n] (.str (List.replicate n 0)):=by
 refine⟨fun args w=>call257 args w,fun w F xs hF hlay hx=>?_⟩;obtain⟨x,y,rfl,h1,h2⟩:=jcv hx;obtain rfl:=cw h1;obtain rfl:=al h2;refine(Any.strings_Repeat Tryz.lays105 Tryz.Builder_Extra_105 ⟨[0].toArray⟩ n w omq (by show 1*n<=_;omega)).mono ?_;rintro e w' ⟨rfl,hbe⟩;refine⟨_,F,rfl,tp hF hbe,?_⟩;have:=rep0 n;rw[<- this];exact .str _
end Go.Arc
