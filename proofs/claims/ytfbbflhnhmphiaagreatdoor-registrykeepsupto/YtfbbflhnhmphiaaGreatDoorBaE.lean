/- A part of this claim. -/
import Derived.Test.YtfbbflhnhmphiaaGreatDoorTy
namespace Go.Arc
open Go.Ab
variable {α:Type}{l:List α}{k:Nat}{p:α->Bool}{x:α}{q:α->Prop}{n:Nat}{y:α}
abbrev Str:=List UInt8
abbrev vi(n:Int):V:=.val (.int .i64 n)
abbrev vb(b:Bool):V:=.val (.bool b)
abbrev Cst(s:Str):List V:=[.str s]
abbrev Cnat(n:Nat):List V:=[.val (.int .i64 n)]
abbrev Cint(n:Int):List V:=[.val (.int .i64 n)]
abbrev strs(l:List Str):V:=.slice 1 (l.map Cst)
abbrev nats(l:List Nat):V:=.slice 1 (l.map Cnat)
structure Cls where
 code:Str
 title:Str
structure Mov where
 frm:Str
 to:Str
structure Plan where
 ver:Int
 frm:Int
 til:Int
 cls:List Cls
 mov:List Mov
abbrev Cls.cs(c:Cls):List V:=[.str c.code,.str c.title]
abbrev Mov.cs(m:Mov):List V:=[.str m.frm,.str m.to]
abbrev clss(l:List Cls):V:=.slice 2 (l.map Cls.cs)
abbrev movs(l:List Mov):V:=.slice 2 (l.map Mov.cs)
abbrev Plan.cs(p:Plan):List V:=[vi p.ver,vi p.frm,vi p.til,clss p.cls,movs p.mov]
abbrev bh(l:List Plan):V:=.slice 5 (l.map Plan.cs)
def Cls.Fit(c:Cls):Prop:=c.code.length<=1048576/\c.title.length<=1048576
def Mov.Fit(c:Mov):Prop:=c.frm.length<=1048576/\c.to.length<=1048576
def Plan.Fit(p:Plan):Prop:=p.cls.length<=1048576/\p.mov.length<=1048576/\(∀c∈p.cls,c.Fit)/\∀m∈p.mov,m.Fit
theorem af(h:k<l.length):∃x,l[k]?=some x/\l.drop k=x::l.drop (k+1)/\x∈l:=
 ⟨l[k],gge h,xat h,xbo h⟩
theorem je(h:¬k<l.length):l.drop k=[]:=xbc omq
theorem qgl(h:∀e∈l,p e=false):l.findIdx? p=none:=by
 rw[xcl];exact h
theorem qjr(h:∀e∈l.take k,p e=false)(hx:l[k]?=some x)(hp:p x=true):l.findIdx? p=some k:=by
 rw[xbb];obtain⟨hlt,rfl⟩:=gsi.1 hx;refine⟨hlt,hp,fun j hj=>?_⟩;have:=h l[j] (xci.2 ⟨j,by rw[yx,ve hj];exact gge _⟩);simp[this]
theorem jc(h:∀e∈l.take k,q e)(hx:l[k]?=some x)(hq:q x):∀e∈l.take (k+1),q e:=by
 obtain⟨hlt,rfl⟩:=gsi.1 hx;rw[xap hlt];intro e he;rcases xbu.1 he with he|he
 .exact h e he
 simp at he;subst he;exact hq
theorem jht(h:∀e∈l.take k,q e)(hk:¬k<l.length):∀e∈l,q e:=by
 rw[ye omq] at h;exact h
def ix(p:α->Bool)(l:List α):Int:=match l.findIdx? p with|some i=>i|none=> -1
theorem uu(h:∀e∈l.take k,p e=false)(hx:l[k]?=some x)(hp:p x=true):(k:Int)=ix p l:=by unfold ix;rw[qjr h hx hp]
theorem jan(h:∀e∈l.take k,p e=false)(hk:¬k<l.length):(-1:Int)=ix p l:=by unfold ix;rw[qgl (jht h hk)]
theorem jz(p:α->Bool)(l:List α):decide (0<=ix p l)=l.any p:=by
 unfold ix;cases h:l.findIdx? p with
 |none=>
  rw[xcl] at h;rw[yf.2 (fun x hx=>by simp[h x hx])];rfl
 |some i=>
  obtain⟨hlt,hp,_⟩:=xbb.1 h;rw[yd.2 ⟨_,xbo hlt,hp⟩];simp
theorem jji[BEq α][LawfulBEq α](h:x≠y):(x == y)=false:=by
 cases hb:x == y
 .rfl
 exact absurd (eq_of_beq hb) h
theorem jao{a b:List α}(hd:a.drop k=x::a.drop (k+1))(he:b.drop k=y::b.drop (k+1)):(a.drop k=b.drop k)↔(x=y/\a.drop (k+1)=b.drop (k+1)):=by rw[hd,he];simp
def cmpL:List Nat->List Nat->Int
 |[],[]=>0
 |[],_::_=> -1
 |_::_,[]=>1
 |a::r,b::q=>if a<b then -1 else if b<a then 1 else cmpL r q
def vnum(n:Nat):Str->Option Nat
 |[]=>some n
 |c::r=>if 48<=c.toNat/\c.toNat<=57 then vnum (10*n+(c.toNat-48)) r else none
def part(s:Str):Option Nat:=if s.length<1\/3<s.length\/s.head?=some 48 then none else vnum 0 s
def split(cur:Str):Str->List Str
 |[]=>[cur]
 |c::r=>if c=46 then cur::split [] r else split (cur++[c]) r
def dv:List Str->Option (List Nat)
 |[]=>some []
 |p::r=>match part p,dv r with
  |some n,some l=>some (n::l)
  |_,_=>none
def ak(s:Str):Option (List Nat):=match dv (split [] s) with
 |some l=>if l.length<=6 then some l else none
 |none=>none
def dec(n:Nat):Str:=if n<10 then [UInt8.ofNat (48+n)] else if n<100 then [UInt8.ofNat (48+n / 10),UInt8.ofNat (48+n % 10)] else [UInt8.ofNat (48+n / 10 / 10),UInt8.ofNat (48+n / 10 % 10),UInt8.ofNat (48+n % 10)]
def fmt:List Nat->Str
 |[]=>[]
 |[n]=>dec n
 |n::r=>dec n++46::fmt r
def ui(s:Str):Option Str:=match ak s with
 |some l=>if l.length<2 then none else some (fmt (l.take (l.length-1)))
 |none=>none
def cmp(a b:Str):Option Int:=match ak a,ak b with
 |some x,some y=>some (cmpL x y)
 |_,_=>none
def db(a b:Str):Bool:=match ak a,ak b with
 |some x,some y=>decide (y.length<=x.length) && decide (x.take y.length=y)
 |_,_=>false
def oe(s:Str):Bool:=s.all fun c=>decide (32<=c.toNat) && decide (c.toNat<=126)
def dbl:Str->Bool
 |a::b::r=>(a == 32 && b == 32) || dbl (b::r)
 |_=>false
def name(s:Str):Bool:=decide (1<=s.length) && decide (s.length<=64) && oe s && !(s.head? == some 32) && !(s.getLast? == some 32) && !dbl s
theorem qal:∀(s:Str) (n m:Nat),vnum n s=some m->m<(n+1)*10 ^ s.length
 |[],n,m,h=>by simp[vnum] at h;subst h;simp
 |c::r,n,m,h=>by
  simp only[vnum] at h;split at h
  .have:=qal r _ _ h;have hp:1<=10 ^ r.length:=Nat.one_le_pow _ _ dcq;have:(10*n+(c.toNat-48)+1)*10 ^ r.length<=((n+1)*10)*10 ^ r.length:=xb2 _ omq;rw[List.length_cons,Nat.pow_succ];have e:((n+1)*10)*10 ^ r.length=(n+1)*(10 ^ r.length*10):=by rw[Nat.mul_assoc,xbq 10]
   omega
  cases h
abbrev lf(s:Str):V:=match ak s with
 |some l=>.tup [nats l,vi 0]
 |none=>.tup [.val (.slice none 0 0),vi 3]
theorem jp2{s:Str}(h:part s=some n):n<1000:=by
 unfold part at h;split at h
 .cases h
 rename_i hc;have:=qal s 0 n h;have h3:10 ^ s.length<=10 ^ 3:=Nat.pow_le_pow_right dcq omq;omega
theorem qam:∀(s:Str) (n m:Nat),vnum n s=some m->n<=m
 |[],n,m,h=>by simp[vnum] at h;omega
 |c::r,n,m,h=>by
  simp only[vnum] at h;split at h
  .have:=qam r _ _ h;omega
  cases h
theorem qb0{s:Str}(h:part s=some n):1<=n:=by
 unfold part at h;split at h
 .cases h
 rename_i hc;cases s with
 |nil=>simp at hc
 |cons c r=>
  simp only[vnum] at h;split at h
  .rename_i hd;have:=qam r _ _ h;have hne:c.toNat≠48:=fun e=>hc (.inr (.inr (by simp[show c=48 from UInt8.toNat_inj.1 e])));omega
  cases h
theorem jlr:∀ {l:List Str} {ns:List Nat},dv l=some ns->ns.length=l.length/\∀n∈ns,1<=n/\n<1000
 |[],ns,h=>by simp[dv] at h;subst h;simp
 |p::r,ns,h=>by
  simp only[dv] at h;split at h
  .rename_i n l h1 h2;cases h;obtain⟨g1,g2⟩:=jlr h2;refine⟨by simp[g1],fun m hm=>?_⟩;rcases vt.1 hm with rfl|hm
   .exact⟨qb0 h1,jp2 h1⟩
   exact g2 m hm
  cases h
theorem jyf(cur:Str):∀s,split cur s≠[]
 |[]=>by simp[split]
 |c::r=>by
  simp only[split];split
  .simp
  exact jyf _ r
theorem me{s:Str}{l:List Nat}(h:ak s=some l):l≠[]/\l.length<=6/\∀n∈l,1<=n/\n<1000:=by
 unfold ak at h;split at h
 .rename_i l' h1;split at h
  .rename_i hl;cases h;obtain⟨g1,g2⟩:=jlr h1;exact⟨fun e=>jyf [] s (yg (by rw[<- g1,e];rfl)),hl,g2⟩
  cases h
 cases h
def cd(f u:Int):Bool:=decide (0<=f/\f<u/\u<=1048576)
def inS(f u d:Int):Bool:=decide (f<=d/\d<u)
abbrev span(f u:Int):V:=.agg [vi f,vi u]
def has(p:Plan)(s:Str):Bool:=p.cls.any fun c=>c.code == s
end Go.Arc
set_option maxRecDepth 100000
namespace Go.Arc
open Go.Ab Go.RowKit Go.Proofs Tryz
theorem follows:prog.follows .mixedOrders=true:=krq
variable {T : Lay}
theorem qom(l:List Cls)(f:FuncId)(cap:List V)(p:Cls->Bool)(hl:l.length<=1048576)(hp:∀e∈l,Den prog T f (.agg e.cs::cap) (vb (p e))):
   Den prog T 327 [clss l,.func f cap] (vi (ix p l)):=by
  refine ab call327 func327 19 ?_;exact ixPf
theorem jdv(l:List Cls)(f:FuncId)(cap:List V)(p:Cls->Bool)(hl:l.length<=1048576)(hp:∀e∈l,Den prog T f (.agg e.cs::cap) (vb (p e))):
   Den prog T 261 [clss l,.func f cap] (vb (l.any p)):=by
  refine ab call261 func261 9 ?_;refine rc (qom l f cap p hl hp) ?_;exact zbr
theorem qtc(c:Cls)(s:Str):Den prog T 262 [.agg c.cs,.row [.str s]] (vb (c.code == s)):=by
 refine ab call262 func262 8 ?_;exact za
theorem jap(p:Plan)(s:Str)(hl:p.cls.length<=1048576):Den prog T 202 [.agg p.cs,.str s] (vb (has p s)):=by
 refine ab call202 func202 9 ?_;refine rc (jdv p.cls _ _ (fun c=>c.code == s) hl fun e _=>qtc e s) ?_;exact za
end Go.Arc
set_option maxRecDepth 100000
namespace Go.Arc
open Go.Ab Go.RowKit Go.Proofs Tryz
variable {T : Lay}
variable {s:Str}{l:List Nat}{n:Nat}{a:Str}{b:Str}
theorem jbf{α:Type}{l:List α}{q:α->Bool}{j:Nat}{x:α}(hx:l[j]?=some x):(l.take (j+1)).filter q=if q x=true then(l.take j).filter q++[x] else(l.take j).filter q:=by
 obtain⟨hlt,rfl⟩:=gsi.1 hx;rw[xap hlt,xbj];cases h:q l[j]<;>simp[h]
theorem qnv(f u:Int):Den prog T 258 [span f u] (vb (cd f u)):=by
 refine ab call258 func258 18 ?_;unfold cd;by_cases h1:0<=f<;>by_cases h2:f<u<;>by_cases h3:u<=1048576<;>(refine run ?_;refine fin (ah ?_);simp;try omega)
theorem qot(a b:List Nat)(ha:a.length<=1048576)(_hb:b.length<=1048576):Den prog T 131 [nats a,nats b] (vb (decide (a=b))):=by
 refine ab call131 func131 26 ?_;by_cases hl:a.length=b.length
 .refine run ?_;refine dq ⟨[13,0,1,12],[],[],[]⟩ a.length (fun k=>(a=b↔a.drop k=b.drop k)) smq ?_;rintro k ⟨hk,hall⟩;by_cases hlt:k<a.length
  .obtain⟨x,hx,hd,-⟩:=af hlt;obtain⟨y,hy,he,-⟩:=af (l:=b) (k:=k) omq;by_cases hxy:x=y
   .exact zbc
   refine runW (ai hx hy) ?_;refine fin (ah ?_)
   symm
   exact zc3
  refine run ?_;refine fin (ah ?_)
  symm;rw[decide_eq_true_iff,hall,je hlt,je (l:=b) omq]
 refine run ?_;refine fin (ah ?_);exact zcg
theorem jtg(h:dv (split [] s)=none):lf s=.tup [.val (.slice none 0 0),vi 3]:=by simp[lf,ak,h]
theorem qhj(h:dv (split [] s)=some l)(hl:6<l.length):lf s=.tup [.val (.slice none 0 0),vi 3]:=by
 have:¬l.length<=6:=omq;simp[lf,ak,h,this]
theorem qmq(h:dv (split [] s)=some l)(hl:l.length<=6):lf s=.tup [nats l,vi 0]:=by simp[lf,ak,h,hl]
theorem kr(h:ak s=none):lf s=.tup [.val (.slice none 0 0),vi 3]:=by simp[lf,h]
theorem kq(h:ak s=some l):lf s=.tup [nats l,vi 0]:=by simp[lf,h]
def dots:List Nat->Str
 |[]=>[]
 |n::r=>46::dec n++dots r
theorem ji3:∀(l:List Nat) (n:Nat),fmt (n::l)=dec n++dots l
 |[],n=>by simp[fmt,dots]
 |m::r,n=>by
  simp only[fmt,dots];rw[ji3 r m];simp
theorem qc3(n:Nat):(dec n).length<=3:=by unfold dec;split<;>(try split)<;>simp
abbrev jf2(s:Str):V:=match ui s with
 |some p=>.tup [.str p,vb true]
 |none=>.tup [.str [],vb false]
theorem jwj{p:Str}(h:ui s=some p):jf2 s=.tup [.str p,vb true]:=by simp[jf2,h]
theorem jlq(h:ui s=none):jf2 s=.tup [.str [],vb false]:=by simp[jf2,h]
abbrev cmpV(a b:Str):V:=match cmp a b with
 |some n=>.tup [vi n,vi 0]
 |none=>.tup [vi 0,vi 3]
theorem qdk{n:Int}(h:cmp a b=some n):cmpV a b=.tup [vi n,vi 0]:=by simp[cmpV,h]
theorem jri(h:cmp a b=none):cmpV a b=.tup [vi 0,vi 3]:=by simp[cmpV,h]
theorem jt1(l:List Nat)(k:Nat):(l.map Cnat).take k=(l.take k).map Cnat:=xb4.symm
theorem qeu(c:UInt8)(r:Str):oe (c::r)=(decide (32<=c.toNat) && decide (c.toNat<=126) && oe r):=rfl
structure LibC (T:Lay):Prop where
 split:∀s:Str,s.length<=1048576->Den prog T 205 [.str s,.str [46]] (strs (split [] s))
 atoi:∀s:Str,s.length<=1048576->(∃n:Int,Den prog T 206 [.str s] (.tup [vi n,.val .nilIface])/\∀m:Nat,part s=some m->n=m)\/
  (part s=none/\∃n:Int,Den prog T 206 [.str s] (.tup [vi n,.ifc]))
 itoa:∀n:Nat,n<1000->Den prog T 207 [vi n] (.str (dec n))
 join:∀l:List Nat,l.length<=6->(∀n∈l,n<1000)->Den prog T 256 [strs (l.map dec),.str [46]] (.str (fmt l))
 trim:∀s:Str,s.length<=1048576->∃t,Den prog T 188 [.str s] (.str t)/\(oe s=true->(t=s↔s.head? ≠ some 32/\s.getLast? ≠ some 32))
 contains:∀s:Str,s.length<=1048576->Den prog T 189 [.str s,.str [32,32]] (vb (dbl s))
theorem jyp(h1:1<=n)(h:n<1000):part (dec n)=some n:=by
 have:∀n:Fin 1000,1<=n.1->part (dec n.1)=some n.1:=by decide +kernel
 exact this ⟨n,h⟩ h1
theorem jcq{c:UInt8}(h:c.toNat=n):UInt8.ofNat n=c:=by
 rw[<- h];exact UInt8.ofNat_toNat
theorem jzu(h:part s=some n):dec n=s:=by
 unfold part at h;split at h
 .cases h
 rename_i hc
 match s,hc,h with
 |[],hc,_=>simp at hc
 |[a],hc,h=>
  simp only[vnum] at h;split at h
  .simp only[vk] at h;unfold dec;rw[ve omq,jcq (c:=a) omq]
  cases h
 |[a,b],hc,h=>
  have ha:a.toNat≠48:=fun e=>hc (.inr (.inr (by simp[show a=48 from UInt8.toNat_inj.1 e])));simp only[vnum] at h;split at h
  .split at h
   .simp only[vk] at h;unfold dec;rw[vd omq,ve omq,jcq (c:=a) omq,jcq (c:=b) omq]
   cases h
  cases h
 |[a,b,c],hc,h=>
  have ha:a.toNat≠48:=fun e=>hc (.inr (.inr (by simp[show a=48 from UInt8.toNat_inj.1 e])));simp only[vnum] at h;split at h
  .split at h
   .split at h
    .simp only[vk] at h;unfold dec;rw[vd omq,vd omq,jcq (c:=a) omq,jcq (c:=b) omq,jcq (c:=c) omq]
    cases h
   cases h
  cases h
 |_::_::_::_::_,hc,_=>exact absurd smq hc
theorem jlj:∀(s cur:Str),∀p∈split cur s,p.length<=cur.length+s.length
 |[],cur,p,h=>by simp[split] at h;subst h;simp
 |c::r,cur,p,h=>by
  simp only[split] at h;split at h
  .rcases vt.1 h with rfl|h
   .simp
   have:=jlj r [] p h;simp at this ⊢;omega
  have:=jlj r _ p h;simp at this ⊢;omega
theorem jh9:∀(s cur:Str),(split cur s).length<=s.length+1
 |[],cur=>by simp[split]
 |c::r,cur=>by
  simp only[split];split
  .have:=jh9 r [];simp;omega
  have:=jh9 r (cur++[c]);simp;omega
theorem qhi(h:6<(split [] s).length):lf s=.tup [.val (.slice none 0 0),vi 3]:=by
 cases hn:dv (split [] s) with
 |none=>exact jtg hn
 |some l=>exact qhj hn (by rw[(jlr hn).1];exact h)
theorem qd(L:LibC T)(s:Str)(hl:s.length<=1048576):Den prog T 138 [.str s] (lf s):=by
 refine ab call138 func138 48 ?_;refine rc (L.split s hl) ?_;have hcnt:=jh9 s [];by_cases h6:6<(split [] s).length
 .refine run ?_;exact fin (qhi h6).symm
 have hp:=jlj s [];generalize hS:split [] s=l at *;refine run ?_
 refine loop ⟨[5,15,16,17],[],[5],[(5,3,1)]⟩ (fun y:Nat×List Nat=>y.1<=l.length/\y.2.length=y.1/\dv l=(dv (l.drop y.1)).map (y.2 ++ ·)) (fun y=>l.length-y.1)
  (fun y=>⟨48,[(5,.v (nats y.2)),(15,.v (strs l)),(16,.v (vi l.length)),(17,.v (vi y.1))],[],[(3,[5])]⟩) (0,[]) ⟨smq,smq,smq⟩ ?_
 rintro⟨k,out⟩ ⟨hk,hlen,hall⟩;simp only at hk hlen hall;by_cases hlt:k<l.length
 .obtain⟨x,hx,hd,hm⟩:=af hlt;have hxl:x.length<=1048576:=by have:=hp x hm;simp at this;omega
  have hno:part x=none->V.tup [.val (.slice none 0 0),vi 3]=lf s:=fun h=>(jtg (by rw[hS,hall,hd];simp[dv,h])).symm;refine runW hx ?_;rcases L.atoi x hxl with⟨n,hden,hpn⟩|⟨hpn,n,hden⟩
  .refine call hden ?_;by_cases h1:n<1
   .refine run ?_;refine fin (hno ?_);cases hq:part x with
    |none=>rfl
    |some m=>have:=hpn m hq;have:=qb0 hq;omega
   by_cases h2:999<n
   .refine run ?_;refine fin (hno ?_);cases hq:part x with
    |none=>rfl
    |some m=>have:=hpn m hq;have:=jp2 hq;omega
   obtain⟨m,rfl⟩:=Int.eq_ofNat_of_zero_le (show 0<=n by omega);refine rc (L.itoa m omq) ?_;by_cases he:dec m=x
   .have hpx:part x=some m:=by rw[<- he];exact jyp omq omq
    have he':(dec m == x)=true:=by simp[he]
    have hap:out.map Cnat++[[V.val (.int .i64 m)]]=(out++[m]).map Cnat:=by simp
    refine runW (ai he' hap) ?_;refine round (k+1,out++[m]) ⟨by simp only;omega,by simp[hlen],?_⟩ zeo;simp only;rw[hall,hd];simp only[dv,hpx];cases dv (l.drop (k+1))<;>simp
   have he':(dec m == x)=false:=jji he;refine runW he' ?_;refine fin (hno ?_);cases hq:part x with
   |none=>rfl
   |some m'=>exact absurd (by have:=hpn m' hq;have:=jzu hq;rwa [show m'=m by omega] at this) he
  refine call hden ?_;refine run ?_;exact fin (hno hpn)
 refine run ?_;rw[je hlt] at hall;have hs:dv (split [] s)=some out:=by rw[hS,hall];simp[dv]
 exact fin (qmq hs omq).symm
abbrev uq(s:Str):V:=match ak s with
 |some l=>nats l
 |none=>.val (.slice none 0 0)
theorem oq(h:ak s=some l):uq s=nats l:=by simp[uq,h]
theorem qk(h:ak s=none):uq s=.val (.slice none 0 0):=by simp[uq,h]
theorem jk1(L:LibC T)(s:Str)(hl:s.length<=1048576):Den prog T 320 [.str s] (uq s):=by
 refine ab call320 func320 11 ?_;refine rc (qd L s hl) ?_;cases hp:ak s with
 |none=>rw[kr hp];refine run ?_;exact fin (qk hp).symm
 |some l=>rw[kq hp];refine run ?_;exact fin (oq hp).symm
theorem jzq(L:LibC T)(a b:Str)(ha:a.length<=1048576)(hb:b.length<=1048576):Den prog T 204 [.str a,.str b] (.tup [uq a,uq b,vb ((ak a).isSome && (ak b).isSome)]):=by
 refine ab call204 func204 29 ?_;refine rc (qd L a ha) ?_;cases hp:ak a with
 |none=>
  rw[kr hp,qk hp];refine rc (qd L b hb) ?_;cases hq:ak b with
  |none=>rw[kr hq,qk hq];refine run ?_;exact fin rfl
  |some m=>rw[kq hq,oq hq];refine run ?_;exact fin rfl
 |some l=>
  rw[kq hp,oq hp];refine rc (qd L b hb) ?_;cases hq:ak b with
  |none=>rw[kr hq,qk hq];refine run ?_;exact fin rfl
  |some m=>rw[kq hq,oq hq];refine run ?_;exact fin rfl
theorem jm9(n:Int):Den prog T 210 [vi n] (vb false):=by
 refine ab call210 func210 6 ?_;exact za
def cmpI(a b:Int):Int:=if a<b then -1 else if b<a then 1 else 0
theorem jh0(a b:Int):Den prog T 148 [vi a,vi b] (vi (cmpI a b)):=by
 refine ab call148 func148 20 ?_;refine rc (jm9 a) ?_;refine rc (jm9 b) ?_;unfold cmpI;by_cases h1:a<b
 .rw[ve h1];exact za
 rw[vd h1];by_cases h2:b<a
 .rw[ve h2];exact za
 rw[vd h2];exact za
theorem qey(a b:List Nat)(ha:a.length<=1048576)(hb:b.length<=1048576):Den prog T 406 [nats a,nats b] (vi (cmpL a b)):=by
 refine ab call406 func406 36 ?_;refine run ?_;refine dq ⟨[11,0,1,9,10],[],[],[]⟩ a.length (fun k=>k<=b.length/\cmpL a b=cmpL (a.drop k) (b.drop k)) ⟨omq,smq⟩ ?_;rintro k ⟨hk,hk',hall⟩;by_cases hlt:k<a.length
 .obtain⟨x,hx,hd,-⟩:=af hlt;by_cases hlt':k<b.length
  .obtain⟨y,hy,he,-⟩:=af hlt';refine rcW (ai hx hy) (jh0 x y) ?_;by_cases h1:x<y
   .have hc:cmpI x y= -1:=by unfold cmpI;rw[ve omq]
    refine runW hc ?_;refine fin (bc ?_);rw[hall,hd,he];simp[cmpL,h1]
   by_cases h2:y<x
   .have hc:cmpI x y=1:=by unfold cmpI;rw[vd omq,ve omq]
    refine runW hc ?_;refine fin (bc ?_);rw[hall,hd,he];simp[cmpL,h1,h2]
   have hc:cmpI x y=0:=by unfold cmpI;rw[vd omq,vd omq]
   refine runW hc ?_;exact round (k+1) ⟨omq,omq,by rw[hall,hd,he];simp[cmpL,h1,h2]⟩ omq
  refine runW hx ?_;refine fin (bc ?_);rw[hall,hd,je hlt'];rfl
 by_cases hlt':k<b.length
 .obtain⟨y,hy,he,-⟩:=af hlt';refine run ?_;refine fin (bc ?_);rw[hall,he,je hlt];rfl
 refine run ?_;refine fin (bc ?_);rw[hall,je hlt,je hlt'];rfl
theorem qic(L:LibC T)(a b:Str)(ha:a.length<=1048576)(hb:b.length<=1048576):Den prog T 372 [.str a,.str b] (cmpV a b):=by
 refine ab call372 func372 21 ?_;refine rc (jzq L a b ha hb) ?_;cases hp:ak a with
 |none=>
  rw[qk hp];refine run ?_
  (refine fin (xbd (jri ?_));simp[cmp,hp])
 |some l=>
  obtain⟨-,h6,-⟩:=me hp;rw[oq hp];cases hq:ak b with
  |none=>
   rw[qk hq];refine run ?_
   (refine fin (xbd (jri ?_));simp[cmp,hp,hq])
  |some m=>
   obtain⟨-,h6',-⟩:=me hq;rw[oq hq];refine rc (qey l m omq omq) ?_;refine run ?_
   (refine fin (xbd (qdk ?_));simp[cmp,hp,hq])
theorem jh1(L:LibC T)(a b:Str)(ha:a.length<=1048576)(hb:b.length<=1048576):Den prog T 137 [.str a,.str b] (vb (db a b)):=by
 refine ab call137 func137 31 ?_;refine rc (jzq L a b ha hb) ?_;cases hp:ak a with
 |none=>
  rw[qk hp];refine run ?_
  (refine fin (ah ?_);simp[db,hp])
 |some l=>
  obtain⟨-,h6,-⟩:=me hp;rw[oq hp];cases hq:ak b with
  |none=>
   rw[qk hq];refine run ?_
   (refine fin (ah ?_);simp[db,hp,hq])
  |some m=>
   obtain⟨-,h6',-⟩:=me hq;rw[oq hq];by_cases hlt:m.length<=l.length
   .refine rcW (jt1 l m.length) (qot (l.take m.length) m zep omq) ?_;refine run ?_
    (refine fin (ah ?_);simp[db,hp,hq,hlt])
   refine run ?_
   (refine fin (ah ?_);simp[db,hp,hq,hlt])
theorem qki(L:LibC T)(l:List Nat)(h6:l.length<=6)(hn:∀n∈l,1<=n/\n<1000):Den prog T 373 [nats l] (.str (fmt l)):=by
 refine ab call373 func373 20 ?_;refine run ?_
 refine loop ⟨[3,6,7,8],[],[3],[(3,9,1)]⟩ (fun y:Nat×List Str=>y.1<=l.length/\y.2=(l.take y.1).map dec) (fun y=>l.length-y.1)
  (fun y=>⟨20,[(3,.v (strs y.2)),(6,.v (nats l)),(7,.v (vi l.length)),(8,.v (vi y.1))],[],[(9,[3])]⟩) (0,[]) ⟨smq,smq⟩ ?_
 rintro⟨k,out⟩ ⟨hk,hall⟩;simp only at hk hall;have hol:out.length=k:=by rw[hall];simp;omega
 by_cases hlt:k<l.length
 .obtain⟨x,hx,hd,hm⟩:=af hlt;refine rcW hx (L.itoa x (hn x hm).2) ?_;have hap:out.map Cst++[[V.str (dec x)]]=(out++[dec x]).map Cst:=by simp
  refine runW hap ?_;refine round (k+1,out++[dec x]) ⟨by simp only;omega,?_⟩ zeo;exact zw
 have ho:out=l.map dec:=by rw[hall,ye omq]
 subst ho;refine rc (L.join l h6 fun n h=>(hn n h).2) ?_;exact za
theorem qkx(L:LibC T)(s:Str)(hl:s.length<=1048576):Den prog T 325 [.str s] (jf2 s):=by
 refine ab call325 func325 24 ?_;refine rc (qd L s hl) ?_;cases hp:ak s with
 |none=>
  rw[kr hp];refine run ?_
  (refine fin (xbd (jlq ?_));simp[ui,hp])
 |some l=>
  obtain⟨h0,h6,hn⟩:=me hp;have hpos:1<=l.length:=yn.2 h0;rw[kq hp];by_cases h2:l.length<2
  .have h1:l.length=1:=omq;refine run ?_
   (refine fin (xbd (jlq ?_));simp[ui,hp,h2])
  refine rcW (jt1 l (l.length-1)) (qki L (l.take (l.length-1)) zep (fun n h=>hn n (xb5 h))) ?_;refine run ?_
  (refine fin (xbd (jwj ?_));simp[ui,hp,h2])
theorem jur(h:oe s=false):name s=false:=by simp[name,h]
theorem ua(L:LibC T)(s:Str)(hl:s.length<=1048576):Den prog T 119 [.str s] (vb (name s)):=by
 refine ab call119 func119 38 ?_;by_cases h1:s.length<1
 .refine run ?_;refine fin (ah ?_);have:¬ 1<=s.length:=omq;simp[name,this]
 by_cases h2:64<s.length
 .refine run ?_;refine fin (ah ?_);have:¬s.length<=64:=omq;simp[name,this]
 have g1:1<=s.length:=omq;have g2:s.length<=64:=omq;obtain⟨t,hden,ht⟩:=L.trim s hl;refine rc hden ?_;by_cases hts:t=s
 .have hts':(t == s)=true:=by simp[hts]
  refine rcW hts' (L.contains s hl) ?_;cases hdb:dbl s
  .refine run ?_
   have hname:name s=oe s:=by
    cases hpr:oe s
    .exact jur hpr
    obtain⟨e1,e2⟩:=(ht hpr).1 hts;simp[name,g1,g2,hpr,hdb,e1,e2]
   refine dq ⟨[24,0,23],[],[],[]⟩ s.length (fun k=>name s=oe (s.drop k)) (by simpa using hname) ?_;rintro k ⟨hk,hall⟩;by_cases hlt:k<s.length
   .obtain⟨x,hx,hd,hm⟩:=af hlt;rw[hd,qeu] at hall;by_cases g1:x.toNat<32
    .refine runW hx ?_;refine fin (ah ?_);have:¬ 32<=x.toNat:=omq;rw[hall];simp[this]
    by_cases g2:126<x.toNat
    .refine runW hx ?_;refine fin (ah ?_);have:¬x.toNat<=126:=omq;rw[hall];simp[this]
    refine runW hx ?_;refine round (k+1) ⟨omq,?_⟩ omq;rw[hall];have e1:32<=x.toNat:=omq;have e2:x.toNat<=126:=omq;simp[e1,e2]
   refine run ?_;refine fin (ah ?_);rw[hall,je hlt];rfl
  refine run ?_;refine fin (ah ?_);simp[name,hdb]
 have hts':(t == s)=false:=jji hts;refine runW hts' ?_;refine fin (ah ?_)
 symm
 cases hpr:oe s
 .exact jur hpr
 have hne:¬(s.head? ≠ some 32/\s.getLast? ≠ some 32):=fun e=>hts ((ht hpr).2 e);by_cases hh:s.head?=some 32
 .simp[name,hh]
 have hl:s.getLast?=some 32:=by
  by_cases hl:s.getLast?=some 32
  .exact hl
  exact absurd ⟨hh,hl⟩ hne
 simp[name,hl]
end Go.Arc
