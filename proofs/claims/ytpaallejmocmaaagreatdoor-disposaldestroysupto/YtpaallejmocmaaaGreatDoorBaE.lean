/- A part of this claim. -/
import Derived.Test.YtpaallejmocmaaaGreatDoorTy
namespace Go.Arc
open Go.Ab
variable {α:Type}{l:List α}{k:Nat}{p:α->Bool}{x:α}{q:α->Prop}{n:Nat}{y:α}
abbrev Str:=List UInt8
abbrev vi(n:Int):V:=.val (.int .i64 n)
abbrev vb(b:Bool):V:=.val (.bool b)
abbrev Cst(s:Str):List V:=[.str s]
abbrev Cnat(n:Nat):List V:=[.val (.int .i64 n)]
abbrev Cint(n:Int):List V:=[.val (.int .i64 n)]
abbrev strs(l:List Str):V:=.slice 1 (l.map Cst)
abbrev nats(l:List Nat):V:=.slice 1 (l.map Cnat)
structure Cls where
 code:Str
 title:Str
structure Mov where
 frm:Str
 to:Str
structure Plan where
 ver:Int
 frm:Int
 til:Int
 cls:List Cls
 mov:List Mov
abbrev Cls.cs(c:Cls):List V:=[.str c.code,.str c.title]
abbrev Mov.cs(m:Mov):List V:=[.str m.frm,.str m.to]
abbrev clss(l:List Cls):V:=.slice 2 (l.map Cls.cs)
abbrev movs(l:List Mov):V:=.slice 2 (l.map Mov.cs)
abbrev Plan.cs(p:Plan):List V:=[vi p.ver,vi p.frm,vi p.til,clss p.cls,movs p.mov]
abbrev ay(l:List Plan):V:=.slice 5 (l.map Plan.cs)
def Cls.Fit(c:Cls):Prop:=c.code.length<=1048576/\c.title.length<=1048576
def Mov.Fit(c:Mov):Prop:=c.frm.length<=1048576/\c.to.length<=1048576
def Plan.Fit(p:Plan):Prop:=p.cls.length<=1048576/\p.mov.length<=1048576/\(∀c∈p.cls,c.Fit)/\∀m∈p.mov,m.Fit
theorem ac(h:k<l.length):∃x,l[k]?=some x/\l.drop k=x::l.drop (k+1)/\x∈l:=
 ⟨l[k],gge h,qvq h,qwp h⟩
theorem dv(h:¬k<l.length):l.drop k=[]:=qvb omq
theorem qfh(h:∀e∈l,p e=false):l.findIdx? p=none:=by
 rw[qwt];exact h
theorem qi6(h:∀e∈l.take k,p e=false)(hx:l[k]?=some x)(hp:p x=true):l.findIdx? p=some k:=by
 rw[qwb];obtain⟨hlt,rfl⟩:=gsi.1 hx;refine⟨hlt,hp,fun j hj=>?_⟩;have:=h l[j] (qw7.2 ⟨j,by rw[xt,um hj];exact gge _⟩);simp[this]
theorem an(h:∀e∈l.take k,q e)(hx:l[k]?=some x)(hq:q x):∀e∈l.take (k+1),q e:=by
 obtain⟨hlt,rfl⟩:=gsi.1 hx;rw[qva hlt];intro e he;rcases qw0.1 he with he|he
 .exact h e he
 simp at he;subst he;exact hq
theorem dh(h:∀e∈l.take k,q e)(hk:¬k<l.length):∀e∈l,q e:=by
 rw[xn omq] at h;exact h
def ix(p:α->Bool)(l:List α):Int:=match l.findIdx? p with|some i=>i|none=> -1
theorem nv(h:∀e∈l.take k,p e=false)(hx:l[k]?=some x)(hp:p x=true):(k:Int)=ix p l:=by unfold ix;rw[qi6 h hx hp]
theorem ov(h:∀e∈l.take k,p e=false)(hk:¬k<l.length):(-1:Int)=ix p l:=by unfold ix;rw[qfh (dh h hk)]
theorem ju(p:α->Bool)(l:List α):decide (0<=ix p l)=l.any p:=by
 unfold ix;cases h:l.findIdx? p with
 |none=>
  rw[qwt] at h;rw[vn.2 (fun x hx=>by simp[h x hx])];rfl
 |some i=>
  obtain⟨hlt,hp,_⟩:=qwb.1 h;rw[vp.2 ⟨_,qwp hlt,hp⟩];simp
theorem sr[BEq α][LawfulBEq α](h:x≠y):(x == y)=false:=by
 cases hb:x == y
 .rfl
 exact absurd (eq_of_beq hb) h
theorem jaq{a b:List α}(hd:a.drop k=x::a.drop (k+1))(he:b.drop k=y::b.drop (k+1)):(a.drop k=b.drop k)↔(x=y/\a.drop (k+1)=b.drop (k+1)):=by rw[hd,he];simp
def cmpL:List Nat->List Nat->Int
 |[],[]=>0
 |[],_::_=> -1
 |_::_,[]=>1
 |a::r,b::q=>if a<b then -1 else if b<a then 1 else cmpL r q
def vnum(n:Nat):Str->Option Nat
 |[]=>some n
 |c::r=>if 48<=c.toNat/\c.toNat<=57 then vnum (10*n+(c.toNat-48)) r else none
def part(s:Str):Option Nat:=if s.length<1\/3<s.length\/s.head?=some 48 then none else vnum 0 s
def split(cur:Str):Str->List Str
 |[]=>[cur]
 |c::r=>if c=46 then cur::split [] r else split (cur++[c]) r
def cj:List Str->Option (List Nat)
 |[]=>some []
 |p::r=>match part p,cj r with
  |some n,some l=>some (n::l)
  |_,_=>none
def ak(s:Str):Option (List Nat):=match cj (split [] s) with
 |some l=>if l.length<=6 then some l else none
 |none=>none
def dec(n:Nat):Str:=if n<10 then [UInt8.ofNat (48+n)] else if n<100 then [UInt8.ofNat (48+n / 10),UInt8.ofNat (48+n % 10)] else [UInt8.ofNat (48+n / 10 / 10),UInt8.ofNat (48+n / 10 % 10),UInt8.ofNat (48+n % 10)]
def fmt:List Nat->Str
 |[]=>[]
 |[n]=>dec n
 |n::r=>dec n++46::fmt r
def ia(s:Str):Option Str:=match ak s with
 |some l=>if l.length<2 then none else some (fmt (l.take (l.length-1)))
 |none=>none
def cmp(a b:Str):Option Int:=match ak a,ak b with
 |some x,some y=>some (cmpL x y)
 |_,_=>none
def bx(a b:Str):Bool:=match ak a,ak b with
 |some x,some y=>decide (y.length<=x.length) && decide (x.take y.length=y)
 |_,_=>false
def ka(s:Str):Bool:=s.all fun c=>decide (32<=c.toNat) && decide (c.toNat<=126)
def dbl:Str->Bool
 |a::b::r=>(a == 32 && b == 32) || dbl (b::r)
 |_=>false
def name(s:Str):Bool:=decide (1<=s.length) && decide (s.length<=64) && ka s && !(s.head? == some 32) && !(s.getLast? == some 32) && !dbl s
theorem jzq:∀(s:Str) (n m:Nat),vnum n s=some m->m<(n+1)*10 ^ s.length
 |[],n,m,h=>by simp[vnum] at h;subst h;simp
 |c::r,n,m,h=>by
  simp only[vnum] at h;split at h
  .have:=jzq r _ _ h;have hp:1<=10 ^ r.length:=Nat.one_le_pow _ _ dcq;have:(10*n+(c.toNat-48)+1)*10 ^ r.length<=((n+1)*10)*10 ^ r.length:=qv7 _ omq;rw[List.length_cons,Nat.pow_succ];have e:((n+1)*10)*10 ^ r.length=(n+1)*(10 ^ r.length*10):=by rw[Nat.mul_assoc,qvj 10]
   omega
  cases h
abbrev ki(s:Str):V:=match ak s with
 |some l=>.tup [nats l,vi 0]
 |none=>.tup [.val (.slice none 0 0),vi 3]
theorem jo2{s:Str}(h:part s=some n):n<1000:=by
 unfold part at h;split at h
 .cases h
 rename_i hc;have:=jzq s 0 n h;have h3:10 ^ s.length<=10 ^ 3:=Nat.pow_le_pow_right dcq omq;omega
theorem jzr:∀(s:Str) (n m:Nat),vnum n s=some m->n<=m
 |[],n,m,h=>by simp[vnum] at h;omega
 |c::r,n,m,h=>by
  simp only[vnum] at h;split at h
  .have:=jzr r _ _ h;omega
  cases h
theorem qa5{s:Str}(h:part s=some n):1<=n:=by
 unfold part at h;split at h
 .cases h
 rename_i hc;cases s with
 |nil=>simp at hc
 |cons c r=>
  simp only[vnum] at h;split at h
  .rename_i hd;have:=jzr r _ _ h;have hne:c.toNat≠48:=fun e=>hc (.inr (.inr (by simp[show c=48 from UInt8.toNat_inj.1 e])));omega
  cases h
theorem jks:∀ {l:List Str} {ns:List Nat},cj l=some ns->ns.length=l.length/\∀n∈ns,1<=n/\n<1000
 |[],ns,h=>by simp[cj] at h;subst h;simp
 |p::r,ns,h=>by
  simp only[cj] at h;split at h
  .rename_i n l h1 h2;cases h;obtain⟨g1,g2⟩:=jks h2;refine⟨by simp[g1],fun m hm=>?_⟩;rcases vg.1 hm with rfl|hm
   .exact⟨qa5 h1,jo2 h1⟩
   exact g2 m hm
  cases h
theorem jxv(cur:Str):∀s,split cur s≠[]
 |[]=>by simp[split]
 |c::r=>by
  simp only[split];split
  .simp
  exact jxv _ r
theorem gc{s:Str}{l:List Nat}(h:ak s=some l):l≠[]/\l.length<=6/\∀n∈l,1<=n/\n<1000:=by
 unfold ak at h;split at h
 .rename_i l' h1;split at h
  .rename_i hl;cases h;obtain⟨g1,g2⟩:=jks h1;exact⟨fun e=>jxv [] s (xu (by rw[<- g1,e];rfl)),hl,g2⟩
  cases h
 cases h
def bm(f u:Int):Bool:=decide (0<=f/\f<u/\u<=1048576)
def inS(f u d:Int):Bool:=decide (f<=d/\d<u)
abbrev span(f u:Int):V:=.agg [vi f,vi u]
def has(p:Plan)(s:Str):Bool:=p.cls.any fun c=>c.code == s
end Go.Arc
set_option maxRecDepth 100000
namespace Go.Arc
open Go.Ab Go.RowKit Go.Proofs Tryz
theorem follows:prog.follows .mixedOrders=true:=krq
variable {T : Lay}
theorem qmn(l:List Cls)(f:FuncId)(cap:List V)(p:Cls->Bool)(hl:l.length<=1048576)(hp:∀e∈l,Den prog T f (.agg e.cs::cap) (vb (p e))):
   Den prog T 390 [clss l,.func f cap] (vi (ix p l)):=by
  refine ab call390 func390 19 ?_;exact ixPf
theorem jde(l:List Cls)(f:FuncId)(cap:List V)(p:Cls->Bool)(hl:l.length<=1048576)(hp:∀e∈l,Den prog T f (.agg e.cs::cap) (vb (p e))):
   Den prog T 351 [clss l,.func f cap] (vb (l.any p)):=by
  refine ab call351 func351 9 ?_;refine rc (qmn l f cap p hl hp) ?_;exact zbu
theorem qqa(c:Cls)(s:Str):Den prog T 362 [.agg c.cs,.row [.str s]] (vb (c.code == s)):=by
 refine ab call362 func362 8 ?_;exact za
theorem jar(p:Plan)(s:Str)(hl:p.cls.length<=1048576):Den prog T 311 [.agg p.cs,.str s] (vb (has p s)):=by
 refine ab call311 func311 9 ?_;refine rc (jde p.cls _ _ (fun c=>c.code == s) hl fun e _=>qqa e s) ?_;exact za
end Go.Arc
set_option maxRecDepth 100000
namespace Go.Arc
open Go.Ab Go.RowKit Go.Proofs Tryz
variable {T : Lay}
variable {s:Str}{l:List Nat}{n:Nat}{c:UInt8}{α:Type}{a:Str}{b:Str}
theorem jfs{l:List α}{q:α->Bool}{j:Nat}{x:α}(hx:l[j]?=some x):(l.take (j+1)).filter q=if q x=true then(l.take j).filter q++[x] else(l.take j).filter q:=by
 obtain⟨hlt,rfl⟩:=gsi.1 hx;rw[qva hlt,qw4];cases h:q l[j]<;>simp[h]
theorem qdt(l:List α)(q:α->Bool)(j:Nat):((l.take j).filter q).length<=j:=xa (qwe _ _) zew
theorem qlz(f u:Int):Den prog T 306 [span f u] (vb (bm f u)):=by
 refine ab call306 func306 18 ?_;unfold bm;by_cases h1:0<=f<;>by_cases h2:f<u<;>by_cases h3:u<=1048576<;>(refine run ?_;refine fin (ae ?_);simp;try omega)
theorem jdf(f u:Int):Den prog T 152 [span f u] (vb (bm f u)):=by
 refine ab call152 func152 18 ?_;unfold bm;by_cases h1:0<=f<;>by_cases h2:f<u<;>by_cases h3:u<=1048576<;>(refine run ?_;refine fin (ae ?_);simp;try omega)
theorem rz(f u d:Int):Den prog T 155 [span f u,vi d] (vb (inS f u d)):=by
 refine ab call155 func155 15 ?_;unfold inS;by_cases h1:f<=d<;>by_cases h2:d<u<;>(refine run ?_;refine fin (ae ?_);simp;try omega)
theorem ja7(p:Plan)(s:Str)(hl:p.cls.length<=1048576):Den prog T 232 [.agg p.cs,.str s] (vb (has p s)):=by
 refine ab call232 func232 21 ?_;refine run ?_;refine aj ⟨[5,1,2],[2],[],[]⟩ p.cls.length (fun k=>has p s=(p.cls.drop k).any fun c=>c.code == s) rfl ?_;rintro k ⟨hk,hall⟩;by_cases hlt:k<p.cls.length
 .obtain⟨x,hx,hd,hm⟩:=ac hlt;by_cases he:x.code=s
  .subst he;refine runW hx ?_;refine fin (ae ?_);rw[hall,hd];simp
  have hf:=sr he;refine runW (ai hx hf) ?_;exact round (k+1) ⟨omq,by rw[hall,hd];simp[hf]⟩ omq
 refine run ?_;refine fin (ae ?_);rw[hall,dv hlt];rfl
theorem qmt(a b:List Nat)(ha:a.length<=1048576)(_hb:b.length<=1048576):Den prog T 109 [nats a,nats b] (vb (decide (a=b))):=by
 refine ab call109 func109 26 ?_;by_cases hl:a.length=b.length
 .refine run ?_;refine aj ⟨[13,0,1,12],[],[],[]⟩ a.length (fun k=>(a=b↔a.drop k=b.drop k)) smq ?_;rintro k ⟨hk,hall⟩;by_cases hlt:k<a.length
  .obtain⟨x,hx,hd,-⟩:=ac hlt;obtain⟨y,hy,he,-⟩:=ac (l:=b) (k:=k) omq;by_cases hxy:x=y
   .exact zbf
   refine runW (ai hx hy) ?_;refine fin (ae ?_)
   symm
   exact zdc
  refine run ?_;refine fin (ae ?_)
  symm;rw[decide_eq_true_iff,hall,dv hlt,dv (l:=b) omq]
 refine run ?_;refine fin (ae ?_);exact zck
theorem jyv(a b:List Nat)(ha:a.length<=1048576)(hb:b.length<=1048576):Den prog T 298 [nats a,nats b] (vi (cmpL a b)):=by
 refine ab call298 func298 46 ?_;refine run ?_;refine aj ⟨[5,0,1],[],[],[]⟩ a.length (fun k=>k<=b.length/\cmpL a b=cmpL (a.drop k) (b.drop k)) ⟨omq,smq⟩ ?_;rintro k ⟨hk,hk',hall⟩;by_cases hlt:k<a.length
 .by_cases hlt':k<b.length
  .obtain⟨x,hx,hd,-⟩:=ac hlt;obtain⟨y,hy,he,-⟩:=ac hlt';by_cases h1:x<y
   .refine runW (ai hx hy) ?_;refine fin (ah ?_);rw[hall,hd,he];simp[cmpL,h1]
   by_cases h2:y<x
   .refine runW (ai hx hy) ?_;refine fin (ah ?_);rw[hall,hd,he];simp[cmpL,h1,h2]
   refine runW (ai hx hy) ?_;exact round (k+1) ⟨omq,omq,by rw[hall,hd,he];simp[cmpL,h1,h2]⟩ omq
  obtain⟨x,hx,hd,-⟩:=ac hlt;refine run ?_;refine fin (ah ?_);rw[hall,hd,dv hlt'];rfl
 by_cases hlt':k<b.length
 .exact zdu
 refine run ?_;refine fin (ah ?_);rw[hall,dv hlt,dv hlt'];rfl
abbrev jcm(s:Str):V:=match part s with
 |some n=>.tup [vi n,vb true]
 |none=>.tup [vi 0,vb false]
theorem jjs(h:part s=some n):jcm s=.tup [vi n,vb true]:=by simp[jcm,h]
theorem jjt(h:part s=none):jcm s=.tup [vi 0,vb false]:=by simp[jcm,h]
theorem jsw(s:Str)(hl:s.length<=1048576):Den prog T 297 [.str s] (jcm s):=by
 refine ab call297 func297 44 ?_;have hn:∀ {x},part s=none->x=V.tup [vi 0,vb false]->x=jcm s:=fun h e=>e.trans (jjt h).symm;by_cases h1:s.length<1
 .refine run ?_;exact fin (hn (by unfold part;rw[um (.inl h1)]) rfl)
 by_cases h2:3<s.length
 .refine run ?_;exact fin (hn (by unfold part;rw[um (.inr (.inl h2))]) rfl)
 obtain⟨c0,hc0,-,-⟩:=ac (l:=s) (k:=0) omq;have hh:s.head?=some c0:=by rw[qwg];exact hc0
 by_cases h3:c0.toNat=48
 .refine runW hc0 ?_;refine fin (hn (by unfold part;rw[um (.inr (.inr (by rw[hh,show c0=48 from qvo.1 h3])))]) rfl)
 refine runW hc0 ?_
 have hp:part s=vnum 0 s:=by
  unfold part;rw[ul];rintro (h|h|h)
  .exact h1 h
  .exact h2 h
  rw[hh] at h;cases h;exact h3 rfl
 refine bp ⟨[4,5,0],[],[],[]⟩ (fun y:Nat×Nat=>y.1<=s.length/\y.2<10 ^ y.1/\vnum 0 s=vnum y.2 (s.drop y.1)) (fun y=>s.length-y.1) (fun y=>[(4,.v (vi y.2)),(5,.v (vi y.1))]) (0,0) ⟨smq,smq,smq⟩ ?_;rintro⟨k,n⟩ ⟨hk,hn',hall⟩;simp only at hk hn' hall;have h3':10 ^ k<=10 ^ 3:=Nat.pow_le_pow_right dcq omq;by_cases hlt:k<s.length
 .obtain⟨x,hx,hd,hm⟩:=ac hlt;by_cases g1:x.toNat<48
  .exact zds
  by_cases g2:57<x.toNat
  .exact zds
  refine runW hx ?_;refine round (k+1,10*n+(x.toNat-48)) ⟨by simp only;omega,?_,?_⟩ zev ?_
  .simp only[Nat.pow_succ];omega
  .simp only;rw[hall,hd];simp only[vnum];rw[um omq]
  have e:(10*(n:Int)+((x.toNat:Int)-48))=((10*n+(x.toNat-48):Nat):Int):=omq;simp only[e];rfl
 refine run ?_;exact fin (jjs (n:=n) (by rw[hp,hall,dv hlt];rfl)).symm
def sj(out:List Nat)(cur s:Str):Option (List Nat):=(cj (split cur s)).map (out ++ ·)
theorem jfq(h:cj (split [] s)=none):ki s=.tup [.val (.slice none 0 0),vi 3]:=by simp[ki,ak,h]
theorem jsl(h:cj (split [] s)=some l)(hl:6<l.length):ki s=.tup [.val (.slice none 0 0),vi 3]:=by
 have:¬l.length<=6:=omq;simp[ki,ak,h,this]
theorem jvp(h:cj (split [] s)=some l)(hl:l.length<=6):ki s=.tup [nats l,vi 0]:=by simp[ki,ak,h,hl]
theorem qb(s:Str)(hl:s.length<=1048576):Den prog T 234 [.str s] (ki s):=by
 refine ab call234 func234 46 ?_;refine run ?_
 refine loop ⟨[0,4,5,6],[],[4],[]⟩ (fun y:Nat×Nat×List Nat=>y.1<=s.length+1/\y.2.1<=y.1/\y.2.2.length<=y.1/\
   ((y.2.1<=s.length/\cj (split [] s)=sj y.2.2 ((s.take y.1).drop y.2.1) (s.drop y.1)/\y.1<=s.length)\/(y.1=s.length+1/\cj (split [] s)=some y.2.2))) (fun y=>s.length+1-y.1)
  (fun y=>⟨46,[(0,.v (.str s)),(4,.v (nats y.2.2)),(5,.v (vi y.2.1)),(6,.v (vi y.1))],[],[(3,[4])]⟩) (0,0,[]) ?_ ?_
 .refine⟨smq,smq,smq,.inl ⟨smq,?_,smq⟩⟩;simp[sj]
 rintro⟨k,f,out⟩ ⟨h1,h2,h3,h4⟩;simp only at h1 h2 h3 h4;rcases h4 with⟨g1,g2,g3⟩|⟨g1,g2⟩
 .by_cases hlt:k<s.length
  .obtain⟨x,hx,hd,-⟩:=ac hlt;by_cases hdot:x.toNat=46
   .have hx46:x=46:=qvo.1 hdot;have hcl:((s.take k).drop f).length<=1048576:=by simp;omega
    refine rcW hx (jsw ((s.take k).drop f) hcl) ?_
    have hsp:split ((s.take k).drop f) (s.drop k)=((s.take k).drop f)::split [] (s.drop (k+1)):=by
     rw[hd];simp only[split];rw[um hx46]
    cases hp:part ((s.take k).drop f) with
    |none=>
     rw[jjt hp];refine run ?_;exact fin (jfq (by rw[g2,sj,hsp];simp[cj,hp])).symm
    |some n=>
     rw[jjs hp];have hap:out.map Cnat++[[V.val (.int .i64 n)]]=(out++[n]).map Cnat:=by simp
     refine runW hap ?_;refine round (k+1,k+1,out++[n]) ⟨by simp only;omega,by simp only;omega,by simp;omega,.inl ⟨by simp only;omega,?_,by simp only;omega⟩⟩ zev;simp only;have e0:(s.take (k+1)).drop (k+1)=[]:=qvb zew;rw[g2,sj,sj,hsp,e0];simp only[cj,hp];cases cj (split [] (s.drop (k+1)))<;>simp
   have hne:x≠46:=fun e=>hdot zfi;refine runW hx ?_;refine round (k+1,f,out) ⟨by simp only;omega,by simp only;omega,by simp only;omega,.inl ⟨g1,?_,by simp only;omega⟩⟩ zev;simp only
   have ht:(s.take (k+1)).drop f=(s.take k).drop f++[x]:=by
    obtain⟨hlt,rfl⟩:=gsi.1 hx;rw[qva hlt,List.drop_append_of_le_length zew]
   rw[g2,sj,sj,hd,ht];simp only[split];rw[ul hne]
  have hk:k=s.length:=omq;subst hk;have hcl:((s.take s.length).drop f).length<=1048576:=by simp;omega
  refine rc (jsw ((s.take s.length).drop f) hcl) ?_;rw[dv hlt] at g2;cases hp:part ((s.take s.length).drop f) with
  |none=>
   rw[jjt hp];refine run ?_;exact fin (jfq (by rw[vk] at g2 hp;rw[g2];simp[sj,split,cj,hp])).symm
  |some n=>
   rw[jjs hp];have hap:out.map Cnat++[[V.val (.int .i64 n)]]=(out++[n]).map Cnat:=by simp
   refine runW hap ?_;refine round (s.length+1,s.length+1,out++[n]) ⟨by simp only;omega,by simp only;omega,by simp;omega,.inr ⟨rfl,?_⟩⟩ zev;simp only;rw[vk] at g2 hp;rw[g2];simp[sj,split,cj,hp]
 by_cases h6:6<out.length
 .refine run ?_;exact fin (jsl g2 h6).symm
 refine run ?_;exact fin (jvp g2 omq).symm
theorem gv(h:ak s=none):ki s=.tup [.val (.slice none 0 0),vi 3]:=by simp[ki,h]
theorem gu(h:ak s=some l):ki s=.tup [nats l,vi 0]:=by simp[ki,h]
theorem jjc(s:Str)(hl:s.length<=1048576):Den prog T 294 [.str s] (vb (ak s).isSome):=by
 refine ab call294 func294 12 ?_;refine rc (qb s hl) ?_;cases hp:ak s with
 |none=>rw[gv hp];refine run ?_;exact fin (ae rfl)
 |some l=>rw[gu hp];refine run ?_;exact fin (ae rfl)
theorem digs(n:Nat)(h:n<10):(48::(([49,50,51,52,53,54,55,56,57]:List UInt8).take n)).drop n=[UInt8.ofNat (48+n)]:=by
 have:∀n:Fin 10,(48::(([49,50,51,52,53,54,55,56,57]:List UInt8).take n.1)).drop n.1=[UInt8.ofNat (48+n.1)]:=by decide
 exact this ⟨n,h⟩
theorem jmu(n:Nat)(h:n<10):Den prog T 75 [vi n] (.str [UInt8.ofNat (48+n)]):=by
 refine ab call75 func75 19 ?_;refine run ?_;refine fin ?_;rw[digs n h]
theorem jz0(n:Nat)(h0:10<=n)(h:n<100):Den prog T 75 [vi n] (.str [UInt8.ofNat (48+n / 10),UInt8.ofNat (48+n % 10)]):=by
 refine ab call75 func75 19 ?_;refine rc (jmu (n / 10) omq) ?_;exact zdt
theorem qqg(n:Nat)(h0:100<=n)(h:n<1000):Den prog T 75 [vi n] (.str [UInt8.ofNat (48+n / 10 / 10),UInt8.ofNat (48+n / 10 % 10),UInt8.ofNat (48+n % 10)]):=by
 refine ab call75 func75 19 ?_;refine rc (jz0 (n / 10) omq omq) ?_;exact zdt
theorem qbj(n:Nat)(h:n<1000):Den prog T 75 [vi n] (.str (dec n)):=by
 unfold dec;split
 .exact jmu n ‹_›
 split
 .exact jz0 n omq ‹_›
 exact qqg n omq h
def dots:List Nat->Str
 |[]=>[]
 |n::r=>46::dec n++dots r
theorem je4:∀(l:List Nat) (n:Nat),fmt (n::l)=dec n++dots l
 |[],n=>by simp[fmt,dots]
 |m::r,n=>by
  simp only[fmt,dots];rw[je4 r m];simp
theorem jot(n:Nat):(dec n).length<=3:=by unfold dec;split<;>(try split)<;>simp
theorem qen(l:List Nat)(h0:l≠[])(h6:l.length<=6)(hn:∀n∈l,1<=n/\n<1000):Den prog T 389 [nats l] (.tup [.str (fmt l),vi 0]):=by
 refine ab call389 func389 44 ?_;have hpos:1<=l.length:=xj.2 h0;refine run ?_;refine bp ⟨[4,5,0],[],[],[]⟩ (fun y:Nat×Str=>y.1<=l.length/\y.2.length<=4*y.1/\((y.1=0/\y.2=[])\/(1<=y.1/\fmt l=y.2++dots (l.drop y.1)))) (fun y=>l.length-y.1) (fun y=>[(4,.v (.str y.2)),(5,.v (vi y.1))]) (0,[]) ⟨smq,smq,.inl ⟨rfl,rfl⟩⟩ ?_;rintro⟨k,out⟩ ⟨hk,hlen,hall⟩;simp only at hk hlen hall;by_cases hlt:k<l.length
 .obtain⟨x,hx,hd,hm⟩:=ac hlt;obtain⟨hx1,hx2⟩:=hn x hm;have hdl:=jot x;rcases hall with⟨rfl,rfl⟩|⟨h1,hall⟩
  .refine rcW hx (qbj x hx2) ?_;refine run ?_;refine round (1,dec x) ⟨by simp only;omega,by simp only;omega,.inr ⟨smq,?_⟩⟩ zev;have hl0:l=x::l.drop 1:=by simpa using hd
   simp only
   conv=>lhs;rw[hl0]
   rw[je4]
  refine rcW hx (qbj x hx2) ?_;refine run ?_;refine round (k+1,out++[46]++dec x) ⟨by simp only;omega,?_,.inr ⟨smq,?_⟩⟩ zev
  .simp only[ve,List.length_cons,List.length_nil];omega
  simp only;rw[hall,hd];simp[dots]
 rcases hall with⟨rfl,rfl⟩|⟨h1,hall⟩
 .omega
 refine run ?_;refine fin ?_;rw[hall,dv hlt];simp[dots]
abbrev jc0(s:Str):V:=match ia s with
 |some p=>.tup [.str p,vb true]
 |none=>.tup [.str [],vb false]
theorem jdp{p:Str}(h:ia s=some p):jc0 s=.tup [.str p,vb true]:=by simp[jc0,h]
theorem ja9(h:ia s=none):jc0 s=.tup [.str [],vb false]:=by simp[jc0,h]
abbrev cmpV(a b:Str):V:=match cmp a b with
 |some n=>.tup [vi n,vi 0]
 |none=>.tup [vi 0,vi 3]
theorem jep{n:Int}(h:cmp a b=some n):cmpV a b=.tup [vi n,vi 0]:=by simp[cmpV,h]
theorem tp(h:cmp a b=none):cmpV a b=.tup [vi 0,vi 3]:=by simp[cmpV,h]
theorem jfg(l:List Nat)(k:Nat):(l.map Cnat).take k=(l.take k).map Cnat:=qvm.symm
theorem jrs(s:Str)(hl:s.length<=1048576):Den prog T 347 [.str s] (jc0 s):=by
 refine ab call347 func347 30 ?_;refine rc (qb s hl) ?_;cases hp:ak s with
 |none=>
  rw[gv hp];refine run ?_
  (refine fin (xq (ja9 ?_));simp[ia,hp])
 |some l=>
  obtain⟨h0,h6,hn⟩:=gc hp;have hpos:1<=l.length:=xj.2 h0;rw[gu hp];by_cases h2:l.length<2
  .refine run ?_
   (refine fin (xq (ja9 ?_));simp[ia,hp,h2])
  refine runW (jfg l (l.length-1)) ?_
  have hne:l.take (l.length-1)≠[]:=fun e=>by
   have:=congrArg List.length e;simp at this;omega
  refine call (qen (l.take (l.length-1)) hne zew (fun n h=>hn n (yu h))) ?_;refine run ?_
  (refine fin (xq (jdp ?_));simp[ia,hp,h2])
theorem jrl(a b:Str)(ha:a.length<=1048576)(hb:b.length<=1048576):Den prog T 346 [.str a,.str b] (cmpV a b):=by
 refine ab call346 func346 29 ?_;refine rc (qb a ha) ?_;cases hp:ak a with
 |none=>
  rw[gv hp];refine rc (qb b hb) ?_;cases hq:ak b with
  |none=>rw[gv hq];refine run ?_;(refine fin (xq (tp ?_));simp[cmp,hp])
  |some m=>rw[gu hq];refine run ?_;(refine fin (xq (tp ?_));simp[cmp,hp])
 |some l=>
  obtain⟨-,h6,-⟩:=gc hp;rw[gu hp];refine rc (qb b hb) ?_;cases hq:ak b with
  |none=>rw[gv hq];refine run ?_;(refine fin (xq (tp ?_));simp[cmp,hp,hq])
  |some m=>
   obtain⟨-,h6',-⟩:=gc hq;rw[gu hq];refine rc (jyv l m omq omq) ?_;refine run ?_
   (refine fin (xq (jep ?_));simp[cmp,hp,hq])
theorem jlg:∀(a b:List Nat),cmpL a b=0↔a=b
 |[],[]=>by simp[cmpL]
 |[],_::_=>by simp[cmpL]
 |_::_,[]=>by simp[cmpL]
 |a::r,b::q=>by
  simp only[cmpL];split
  .simp;omega
  split
  .simp;omega
  rw[jlg r q];simp;omega
theorem jcw(a b:Str)(ha:a.length<=1048576)(hb:b.length<=1048576):Den prog T 235 [.str a,.str b] (vb (bx a b)):=by
 refine ab call235 func235 41 ?_;refine rc (qb a ha) ?_;cases hp:ak a with
 |none=>
  rw[gv hp];refine rc (qb b hb) ?_;cases hq:ak b with
  |none=>rw[gv hq];refine run ?_;(refine fin (ae ?_);simp[bx,hp])
  |some m=>rw[gu hq];refine run ?_;(refine fin (ae ?_);simp[bx,hp])
 |some l=>
  obtain⟨-,h6,-⟩:=gc hp;rw[gu hp];refine rc (qb b hb) ?_;cases hq:ak b with
  |none=>rw[gv hq];refine run ?_;(refine fin (ae ?_);simp[bx,hp,hq])
  |some m=>
   obtain⟨-,h6',-⟩:=gc hq;rw[gu hq];by_cases hlt:m.length<=l.length
   .refine rcW (jfg l m.length) (jyv (l.take m.length) m zew omq) ?_;by_cases hz:l.take m.length=m
    .have hz':=(jlg _ _).2 hz;refine runW hz' ?_
     (refine fin (ae ?_);simp[bx,hp,hq,hlt,hz])
    have hz':cmpL (l.take m.length) m≠0:=fun e=>hz ((jlg _ _).1 e);refine run ?_
    (refine fin (ae ?_);simp[bx,hp,hq,hlt,hz])
   refine run ?_
   (refine fin (ae ?_);simp[bx,hp,hq,hlt])
theorem jrg(c:UInt8)(r:Str):ka (c::r)=(decide (32<=c.toNat) && decide (c.toNat<=126) && ka r):=rfl
theorem jig(h:c.toNat=32):c=32:=qvo.1 h
theorem qp9(h:1<=s.length):∃c,s[s.length-1]?=some c/\s.getLast?=some c:=by
 have hlt:s.length-1<s.length:=omq;exact⟨s[s.length-1],gge hlt,by rw[List.getLast?_eq_getElem?];exact gge hlt⟩
theorem sv(s:Str)(hl:s.length<=1048576):Den prog T 153 [.str s] (vb (name s)):=by
 refine ab call153 func153 58 ?_;by_cases h1:s.length<1
 .refine run ?_;refine fin (ae ?_);have:¬ 1<=s.length:=omq;simp[name,this]
 by_cases h2:64<s.length
 .refine run ?_;refine fin (ae ?_);have:¬s.length<=64:=omq;simp[name,this]
 obtain⟨c0,hc0,-,-⟩:=ac (l:=s) (k:=0) omq;have hh:s.head?=some c0:=by rw[qwg];exact hc0
 obtain⟨cl,hcl,hlast⟩:=qp9 (s:=s) omq;by_cases h3:c0.toNat=32
 .refine runW hc0 ?_;refine fin (ae ?_);simp[name,hh,jig h3]
 by_cases h4:cl.toNat=32
 .refine runW (ai hc0 hcl) ?_;refine fin (ae ?_);simp[name,hlast,jig h4]
 have hn0:c0≠32:=fun e=>h3 zfi;have hnl:cl≠32:=fun e=>h4 zfi
 have hname:name s=(ka s && !dbl s):=by
  have g1:1<=s.length:=omq;have g2:s.length<=64:=omq;have e0:=sr hn0;have e1:=sr hnl;simp[name,g1,g2,hh,hlast,e0,e1]
 refine runW (ai hc0 hcl) ?_;refine aj ⟨[3,0],[],[],[]⟩ s.length (fun k=>name s=(ka (s.drop k) && !dbl (s.drop (k-1)))) (by simpa using hname) ?_;rintro k ⟨hk,hall⟩;by_cases hlt:k<s.length
 .obtain⟨x,hx,hd,hm⟩:=ac hlt;rw[hd,jrg] at hall;by_cases g1:x.toNat<32
  .refine runW hx ?_;refine fin (ae ?_);have:¬ 32<=x.toNat:=omq;rw[hall];simp[this]
  by_cases g2:126<x.toNat
  .refine runW hx ?_;refine fin (ae ?_);have:¬x.toNat<=126:=omq;rw[hall];simp[this]
  have g1':32<=x.toNat:=omq;have g2':x.toNat<=126:=omq;simp only[g1',g2',qv9,yc] at hall;by_cases h0:k=0
  .subst h0;refine runW hx ?_;exact round 1 ⟨omq,by simpa using hall⟩ omq
  obtain⟨y,hy,hdy,-⟩:=ac (l:=s) (k:=k-1) omq;have hk1:k-1+1=k:=omq;rw[hk1,hd] at hdy;rw[hdy] at hall;by_cases gx:x.toNat=32
  .by_cases gy:y.toNat=32
   .refine runW (ai hx hy) ?_;refine fin (ae ?_);rw[hall,jig gx,jig gy];simp[dbl]
   have hny:(y == 32)=false:=sr fun e=>gy zfi;refine runW (ai hx hy) ?_;refine round (k+1) ⟨omq,?_⟩ omq;rw[hall];simp only[dbl,hny,qvg,yb,qwv,hd]
  have hnx:(x == 32)=false:=sr fun e=>gx zfi;refine runW (ai hx hy) ?_;refine round (k+1) ⟨omq,?_⟩ omq;rw[hall];simp only[dbl,hnx,xm,yb,qwv,hd]
 refine run ?_;refine fin (ae ?_);obtain⟨y,hy,hdy,-⟩:=ac (l:=s) (k:=k-1) omq;have hk1:k-1+1=k:=omq;rw[hall,hdy,hk1,dv hlt];simp[ka,dbl]
structure LibC (T:Lay):Prop where
 split:∀s:Str,s.length<=1048576->Den prog T 333 [.str s,.str [46]] (strs (split [] s))
 atoi:∀s:Str,s.length<=1048576->(∃n:Int,Den prog T 334 [.str s] (.tup [vi n,.val .nilIface])/\∀m:Nat,part s=some m->n=m)\/
  (part s=none/\∃n:Int,Den prog T 334 [.str s] (.tup [vi n,.ifc]))
 itoa:∀n:Nat,n<1000->Den prog T 72 [vi n] (.str (dec n))
 join:∀l:List Nat,l.length<=6->(∀n∈l,n<1000)->Den prog T 73 [strs (l.map dec),.str [46]] (.str (fmt l))
 trim:∀s:Str,s.length<=1048576->∃t,Den prog T 178 [.str s] (.str t)/\(ka s=true->(t=s↔s.head? ≠ some 32/\s.getLast? ≠ some 32))
 contains:∀s:Str,s.length<=1048576->Den prog T 179 [.str s,.str [32,32]] (vb (dbl s))
theorem jy2(h1:1<=n)(h:n<1000):part (dec n)=some n:=by
 have:∀n:Fin 1000,1<=n.1->part (dec n.1)=some n.1:=by decide +kernel
 exact this ⟨n,h⟩ h1
theorem jch(h:c.toNat=n):UInt8.ofNat n=c:=by
 rw[<- h];exact UInt8.ofNat_toNat
theorem jz2(h:part s=some n):dec n=s:=by
 unfold part at h;split at h
 .cases h
 rename_i hc
 match s,hc,h with
 |[],hc,_=>simp at hc
 |[a],hc,h=>
  simp only[vnum] at h;split at h
  .simp only[uu] at h;unfold dec;rw[um omq,jch (c:=a) omq]
  cases h
 |[a,b],hc,h=>
  have ha:a.toNat≠48:=fun e=>hc (.inr (.inr (by simp[show a=48 from UInt8.toNat_inj.1 e])));simp only[vnum] at h;split at h
  .split at h
   .simp only[uu] at h;unfold dec;rw[ul omq,um omq,jch (c:=a) omq,jch (c:=b) omq]
   cases h
  cases h
 |[a,b,c],hc,h=>
  have ha:a.toNat≠48:=fun e=>hc (.inr (.inr (by simp[show a=48 from UInt8.toNat_inj.1 e])));simp only[vnum] at h;split at h
  .split at h
   .split at h
    .simp only[uu] at h;unfold dec;rw[ul omq,ul omq,jch (c:=a) omq,jch (c:=b) omq,jch (c:=c) omq]
    cases h
   cases h
  cases h
 |_::_::_::_::_,hc,_=>exact absurd smq hc
theorem jkl:∀(s cur:Str),∀p∈split cur s,p.length<=cur.length+s.length
 |[],cur,p,h=>by simp[split] at h;subst h;simp
 |c::r,cur,p,h=>by
  simp only[split] at h;split at h
  .rcases vg.1 h with rfl|h
   .simp
   have:=jkl r [] p h;simp at this ⊢;omega
  have:=jkl r _ p h;simp at this ⊢;omega
theorem jgp:∀(s cur:Str),(split cur s).length<=s.length+1
 |[],cur=>by simp[split]
 |c::r,cur=>by
  simp only[split];split
  .have:=jgp r [];simp;omega
  have:=jgp r (cur++[c]);simp;omega
theorem qga(h:6<(split [] s).length):ki s=.tup [.val (.slice none 0 0),vi 3]:=by
 cases hn:cj (split [] s) with
 |none=>exact jfq hn
 |some l=>exact jsl hn (by rw[(jks hn).1];exact h)
theorem te(L:LibC T)(s:Str)(hl:s.length<=1048576):Den prog T 268 [.str s] (ki s):=by
 refine ab call268 func268 48 ?_;refine rc (L.split s hl) ?_;have hcnt:=jgp s [];by_cases h6:6<(split [] s).length
 .refine run ?_;exact fin (qga h6).symm
 have hp:=jkl s [];generalize hS:split [] s=l at *;refine run ?_
 refine loop ⟨[5,15,16,17],[],[5],[(5,3,1)]⟩ (fun y:Nat×List Nat=>y.1<=l.length/\y.2.length=y.1/\cj l=(cj (l.drop y.1)).map (y.2 ++ ·)) (fun y=>l.length-y.1)
  (fun y=>⟨48,[(5,.v (nats y.2)),(15,.v (strs l)),(16,.v (vi l.length)),(17,.v (vi y.1))],[],[(3,[5])]⟩) (0,[]) ⟨smq,smq,smq⟩ ?_
 rintro⟨k,out⟩ ⟨hk,hlen,hall⟩;simp only at hk hlen hall;by_cases hlt:k<l.length
 .obtain⟨x,hx,hd,hm⟩:=ac hlt;have hxl:x.length<=1048576:=by have:=hp x hm;simp at this;omega
  have hno:part x=none->V.tup [.val (.slice none 0 0),vi 3]=ki s:=fun h=>(jfq (by rw[hS,hall,hd];simp[cj,h])).symm;refine runW hx ?_;rcases L.atoi x hxl with⟨n,hden,hpn⟩|⟨hpn,n,hden⟩
  .refine call hden ?_;by_cases h1:n<1
   .refine run ?_;refine fin (hno ?_);cases hq:part x with
    |none=>rfl
    |some m=>have:=hpn m hq;have:=qa5 hq;omega
   by_cases h2:999<n
   .refine run ?_;refine fin (hno ?_);cases hq:part x with
    |none=>rfl
    |some m=>have:=hpn m hq;have:=jo2 hq;omega
   obtain⟨m,rfl⟩:=Int.eq_ofNat_of_zero_le (show 0<=n by omega);refine rc (L.itoa m omq) ?_;by_cases he:dec m=x
   .have hpx:part x=some m:=by rw[<- he];exact jy2 omq omq
    have he':(dec m == x)=true:=by simp[he]
    have hap:out.map Cnat++[[V.val (.int .i64 m)]]=(out++[m]).map Cnat:=by simp
    refine runW (ai he' hap) ?_;refine round (k+1,out++[m]) ⟨by simp only;omega,by simp[hlen],?_⟩ zev;simp only;rw[hall,hd];simp only[cj,hpx];cases cj (l.drop (k+1))<;>simp
   have he':(dec m == x)=false:=sr he;refine runW he' ?_;refine fin (hno ?_);cases hq:part x with
   |none=>rfl
   |some m'=>exact absurd (by have:=hpn m' hq;have:=jz2 hq;rwa [show m'=m by omega] at this) he
  refine call hden ?_;refine run ?_;exact fin (hno hpn)
 refine run ?_;rw[dv hlt] at hall;have hs:cj (split [] s)=some out:=by rw[hS,hall];simp[cj]
 exact fin (jvp hs omq).symm
abbrev ud(s:Str):V:=match ak s with
 |some l=>nats l
 |none=>.val (.slice none 0 0)
theorem ou(h:ak s=some l):ud s=nats l:=by simp[ud,h]
theorem qm(h:ak s=none):ud s=.val (.slice none 0 0):=by simp[ud,h]
theorem jj7(L:LibC T)(s:Str)(hl:s.length<=1048576):Den prog T 353 [.str s] (ud s):=by
 refine ab call353 func353 11 ?_;refine rc (te L s hl) ?_;cases hp:ak s with
 |none=>rw[gv hp];refine run ?_;exact fin (qm hp).symm
 |some l=>rw[gu hp];refine run ?_;exact fin (ou hp).symm
theorem jyw(L:LibC T)(a b:Str)(ha:a.length<=1048576)(hb:b.length<=1048576):Den prog T 332 [.str a,.str b] (.tup [ud a,ud b,vb ((ak a).isSome && (ak b).isSome)]):=by
 refine ab call332 func332 29 ?_;refine rc (te L a ha) ?_;cases hp:ak a with
 |none=>
  rw[gv hp,qm hp];refine rc (te L b hb) ?_;cases hq:ak b with
  |none=>rw[gv hq,qm hq];refine run ?_;exact fin rfl
  |some m=>rw[gu hq,ou hq];refine run ?_;exact fin rfl
 |some l=>
  rw[gu hp,ou hp];refine rc (te L b hb) ?_;cases hq:ak b with
  |none=>rw[gv hq,qm hq];refine run ?_;exact fin rfl
  |some m=>rw[gu hq,ou hq];refine run ?_;exact fin rfl
theorem jlb(n:Int):Den prog T 317 [vi n] (vb false):=by
 refine ab call317 func317 6 ?_;exact za
def cmpI(a b:Int):Int:=if a<b then -1 else if b<a then 1 else 0
theorem jgg(a b:Int):Den prog T 278 [vi a,vi b] (vi (cmpI a b)):=by
 refine ab call278 func278 20 ?_;refine rc (jlb a) ?_;refine rc (jlb b) ?_;unfold cmpI;by_cases h1:a<b
 .rw[um h1];exact za
 rw[ul h1];by_cases h2:b<a
 .rw[um h2];exact za
 rw[ul h2];exact za
theorem qe0(a b:List Nat)(ha:a.length<=1048576)(hb:b.length<=1048576):Den prog T 407 [nats a,nats b] (vi (cmpL a b)):=by
 refine ab call407 func407 36 ?_;refine run ?_;refine aj ⟨[11,0,1,9,10],[],[],[]⟩ a.length (fun k=>k<=b.length/\cmpL a b=cmpL (a.drop k) (b.drop k)) ⟨omq,smq⟩ ?_;rintro k ⟨hk,hk',hall⟩;by_cases hlt:k<a.length
 .obtain⟨x,hx,hd,-⟩:=ac hlt;by_cases hlt':k<b.length
  .obtain⟨y,hy,he,-⟩:=ac hlt';refine rcW (ai hx hy) (jgg x y) ?_;by_cases h1:x<y
   .have hc:cmpI x y= -1:=by unfold cmpI;rw[um omq]
    refine runW hc ?_;refine fin (ah ?_);rw[hall,hd,he];simp[cmpL,h1]
   by_cases h2:y<x
   .have hc:cmpI x y=1:=by unfold cmpI;rw[ul omq,um omq]
    refine runW hc ?_;refine fin (ah ?_);rw[hall,hd,he];simp[cmpL,h1,h2]
   have hc:cmpI x y=0:=by unfold cmpI;rw[ul omq,ul omq]
   refine runW hc ?_;exact round (k+1) ⟨omq,omq,by rw[hall,hd,he];simp[cmpL,h1,h2]⟩ omq
  refine runW hx ?_;refine fin (ah ?_);rw[hall,hd,dv hlt'];rfl
 by_cases hlt':k<b.length
 .exact zdu
 refine run ?_;refine fin (ah ?_);rw[hall,dv hlt,dv hlt'];rfl
theorem qgv(L:LibC T)(a b:Str)(ha:a.length<=1048576)(hb:b.length<=1048576):Den prog T 391 [.str a,.str b] (cmpV a b):=by
 refine ab call391 func391 21 ?_;refine rc (jyw L a b ha hb) ?_;cases hp:ak a with
 |none=>
  rw[qm hp];refine run ?_
  (refine fin (xq (tp ?_));simp[cmp,hp])
 |some l=>
  obtain⟨-,h6,-⟩:=gc hp;rw[ou hp];cases hq:ak b with
  |none=>
   rw[qm hq];refine run ?_
   (refine fin (xq (tp ?_));simp[cmp,hp,hq])
  |some m=>
   obtain⟨-,h6',-⟩:=gc hq;rw[ou hq];refine rc (qe0 l m omq omq) ?_;refine run ?_
   (refine fin (xq (jep ?_));simp[cmp,hp,hq])
theorem jkb(L:LibC T)(a b:Str)(ha:a.length<=1048576)(hb:b.length<=1048576):Den prog T 267 [.str a,.str b] (vb (bx a b)):=by
 refine ab call267 func267 31 ?_;refine rc (jyw L a b ha hb) ?_;cases hp:ak a with
 |none=>
  rw[qm hp];refine run ?_
  (refine fin (ae ?_);simp[bx,hp])
 |some l=>
  obtain⟨-,h6,-⟩:=gc hp;rw[ou hp];cases hq:ak b with
  |none=>
   rw[qm hq];refine run ?_
   (refine fin (ae ?_);simp[bx,hp,hq])
  |some m=>
   obtain⟨-,h6',-⟩:=gc hq;rw[ou hq];by_cases hlt:m.length<=l.length
   .refine rcW (jfg l m.length) (qmt (l.take m.length) m zew omq) ?_;refine run ?_
    (refine fin (ae ?_);simp[bx,hp,hq,hlt])
   refine run ?_
   (refine fin (ae ?_);simp[bx,hp,hq,hlt])
theorem qis(L:LibC T)(l:List Nat)(h6:l.length<=6)(hn:∀n∈l,1<=n/\n<1000):Den prog T 392 [nats l] (.str (fmt l)):=by
 refine ab call392 func392 20 ?_;refine run ?_
 refine loop ⟨[3,6,7,8],[],[3],[(3,9,1)]⟩ (fun y:Nat×List Str=>y.1<=l.length/\y.2=(l.take y.1).map dec) (fun y=>l.length-y.1)
  (fun y=>⟨20,[(3,.v (strs y.2)),(6,.v (nats l)),(7,.v (vi l.length)),(8,.v (vi y.1))],[],[(9,[3])]⟩) (0,[]) ⟨smq,smq⟩ ?_
 rintro⟨k,out⟩ ⟨hk,hall⟩;simp only at hk hall;have hol:out.length=k:=by rw[hall];simp;omega
 by_cases hlt:k<l.length
 .obtain⟨x,hx,hd,hm⟩:=ac hlt;refine rcW hx (L.itoa x (hn x hm).2) ?_;have hap:out.map Cst++[[V.str (dec x)]]=(out++[dec x]).map Cst:=by simp
  refine runW hap ?_;refine round (k+1,out++[dec x]) ⟨by simp only;omega,?_⟩ zev;exact z6
 have ho:out=l.map dec:=by rw[hall,xn omq]
 subst ho;refine rc (L.join l h6 fun n h=>(hn n h).2) ?_;exact za
theorem qj7(L:LibC T)(s:Str)(hl:s.length<=1048576):Den prog T 358 [.str s] (jc0 s):=by
 refine ab call358 func358 24 ?_;refine rc (te L s hl) ?_;cases hp:ak s with
 |none=>
  rw[gv hp];refine run ?_
  (refine fin (xq (ja9 ?_));simp[ia,hp])
 |some l=>
  obtain⟨h0,h6,hn⟩:=gc hp;have hpos:1<=l.length:=xj.2 h0;rw[gu hp];by_cases h2:l.length<2
  .have h1:l.length=1:=omq;refine run ?_
   (refine fin (xq (ja9 ?_));simp[ia,hp,h2])
  refine rcW (jfg l (l.length-1)) (qis L (l.take (l.length-1)) zew (fun n h=>hn n (yu h))) ?_;refine run ?_
  (refine fin (xq (jdp ?_));simp[ia,hp,h2])
theorem ju3(h:ka s=false):name s=false:=by simp[name,h]
theorem jah(L:LibC T)(s:Str)(hl:s.length<=1048576):Den prog T 100 [.str s] (vb (name s)):=by
 refine ab call100 func100 38 ?_;by_cases h1:s.length<1
 .refine run ?_;refine fin (ae ?_);have:¬ 1<=s.length:=omq;simp[name,this]
 by_cases h2:64<s.length
 .refine run ?_;refine fin (ae ?_);have:¬s.length<=64:=omq;simp[name,this]
 have g1:1<=s.length:=omq;have g2:s.length<=64:=omq;obtain⟨t,hden,ht⟩:=L.trim s hl;refine rc hden ?_;by_cases hts:t=s
 .have hts':(t == s)=true:=by simp[hts]
  refine rcW hts' (L.contains s hl) ?_;cases hdb:dbl s
  .refine run ?_
   have hname:name s=ka s:=by
    cases hpr:ka s
    .exact ju3 hpr
    obtain⟨e1,e2⟩:=(ht hpr).1 hts;simp[name,g1,g2,hpr,hdb,e1,e2]
   refine aj ⟨[24,0,23],[],[],[]⟩ s.length (fun k=>name s=ka (s.drop k)) (by simpa using hname) ?_;rintro k ⟨hk,hall⟩;by_cases hlt:k<s.length
   .obtain⟨x,hx,hd,hm⟩:=ac hlt;rw[hd,jrg] at hall;by_cases g1:x.toNat<32
    .refine runW hx ?_;refine fin (ae ?_);have:¬ 32<=x.toNat:=omq;rw[hall];simp[this]
    by_cases g2:126<x.toNat
    .refine runW hx ?_;refine fin (ae ?_);have:¬x.toNat<=126:=omq;rw[hall];simp[this]
    refine runW hx ?_;refine round (k+1) ⟨omq,?_⟩ omq;rw[hall];have e1:32<=x.toNat:=omq;have e2:x.toNat<=126:=omq;simp[e1,e2]
   refine run ?_;refine fin (ae ?_);rw[hall,dv hlt];rfl
  refine run ?_;refine fin (ae ?_);simp[name,hdb]
 have hts':(t == s)=false:=sr hts;refine runW hts' ?_;refine fin (ae ?_)
 symm
 cases hpr:ka s
 .exact ju3 hpr
 have hne:¬(s.head? ≠ some 32/\s.getLast? ≠ some 32):=fun e=>hts ((ht hpr).2 e);by_cases hh:s.head?=some 32
 .simp[name,hh]
 have hl:s.getLast?=some 32:=by
  by_cases hl:s.getLast?=some 32
  .exact hl
  exact absurd ⟨hh,hl⟩ hne
 simp[name,hl]
end Go.Arc
