/- A part of this claim. -/
import Derived.Test.YtfbbflhnhmphiaaGreatDoorBaN
import Derived.Test.YtfbbflhnhmphiaaGreatDoorBaD
import Derived.Lib.ItoaNum
import Derived.KernelRfl
namespace Go.Arc
open Go.Ab
variable {l:List Ofc}{o:Ofc}{d:Int}{n:Int}{i:Nat}{f:Fil}
def cn(f:Fil)(n:Note):Fil:= { f with nts:=f.nts++[n] }
def pe(f:Fil)(d:Int):Fil:= { f with cld:=d }
def jb2(f:Fil)(n:Note):Bool:=match (if f.nts.length=0 then none else f.nts[f.nts.length-1]?) with|some x=>decide (n.rcd<x.rcd)|none=>false
def addE(f:Fil)(n:Note):Int:=if 16<=f.nts.length then 12 else if lz n.name=false then 4 else if qq f n=false then 2 else if jb2 f n=true then 5 else 0
def lw(f:Fil)(d:Int):Int:=if f.cld≠1048576 then 11 else if dayB d f.opn=false then 2 else 0
theorem jgh{os:List Ofc}{ps:List Plan}{l:List Fil}(hi:l[i]?=some f)(h:lh os ps l i=0):¬badF f/\pg l i f=false/\name f.title=true/\mr os f.ofc f.opn=true/\sj ps f=false/\ku f=0:=by
 by_cases h1:badF f
 .rw[jc4 hi h1] at h;cases h
 rw[jzg hi h1] at h;cases h2:pg l i f
 .rw[h2,vd smq] at h;cases h3:name f.title
  .rw[h3,ve rfl] at h;cases h
  rw[h3,vd smq] at h;cases h4:mr os f.ofc f.opn
  .rw[h4,ve rfl] at h;cases h
  rw[h4,vd smq] at h;cases h5:sj ps f
  .rw[h5,vd smq] at h;exact⟨h1,rfl,rfl,rfl,rfl,h⟩
  rw[h5,ve rfl] at h;cases h
 rw[h2,ve rfl] at h;cases h
theorem qm6{n:Note}(s:Str)(h:d<n.rcd):trig (cn f n) s d=trig f s d:=by
 have hk:jj (cn f n) d=jj f d:=by
  unfold jj cn;rw[xbj];have:[n].filter (qm d)=[]:=by simp[qm];omega
  rw[this,xd]
 unfold trig best own;rw[hk];rfl
def jh(l:List Ofc)(d:Int)(o:Ofc):Option Ofc:=if inS o.frm o.til d=true then none else match o.nxt with
 |[]=>none
 |x::_=>av l x
def chainF(l:List Ofc)(d:Int):Nat->Ofc->List Int
 |0,o=>[o.id]
 |n+1,o=>match jh l d o with
  |none=>[o.id]
  |some q=>o.id::chainF l d n q
def chain(l:List Ofc)(n d:Int):List Int:=if goodO l=false then [] else match av l n with
 |none=>[]
 |some o=>chainF l d 1048577 o
theorem qne(h:goodO l=true):l.length<=32/\∀i,i<l.length->gz l i=0:=by
 have h0:(fm l).2=0:=by simpa [goodO] using h
 obtain⟨h1,h2⟩:=ky h0;exact⟨omq,h2⟩
theorem qhr(ho:l[i]?=some o)(h:gz l i=0):¬badO o/\name o.name=true/\iq l o=0/\∀q,i≠0->l[i-1]?=some q->q.id<o.id:=by
 by_cases h1:badO o
 .rw[jeq ho h1] at h;cases h
 cases hn:name o.name
 .rw[jzf ho h1 hn] at h;cases h
 by_cases h0:i=0
 .subst h0;rw[jx9 ho h1 hn] at h;exact⟨h1,rfl,h,fun q hne=>absurd rfl hne⟩
 have hlt:=(gsi.1 ho).1;obtain⟨q,hq,-,-⟩:=af (l:=l) (k:=i-1) omq;by_cases hle:o.id<=q.id
 .rw[jze ho h1 hn h0 hq hle] at h;cases h
 rw[jzd ho h1 hn h0 hq hle] at h;refine⟨h1,rfl,h,fun q' _ hq'=>?_⟩;rw[hq] at hq';cases hq';omega
theorem qgc(h:iq l o=0):∀n∈o.nxt,∃q,av l n=some q/\q.frm=o.til:=by
 unfold iq at h;split at h
 .cases h
 split at h
 .cases h
 split at h
 .cases h
 rename_i h1 h2 h3;intro n hn;have h2':(o.nxt.any fun n=>(av l n).isNone)=false:=by simpa using h2
 have h3':(o.nxt.any fun n=> !decide (frmO l n=o.til))=false:=by simpa using h3
 have g2:=yf.1 h2' n hn;have g3:=yf.1 h3' n hn;cases e:av l n with
 |none=>rw[e] at g2;simp at g2
 |some q=>
  refine⟨q,rfl,?_⟩;have:frmO l n=q.frm:=by unfold frmO;rw[e]
  rw[this] at g3;simpa using g3
theorem ec(h:av l n=some o):∃i:Nat,l[i]?=some o:=xm (xb0 h)
theorem jkr(h:goodO l=true)(ho:av l n=some o):0<=o.frm/\o.frm<o.til/\o.til<=1048576/\∀n∈o.nxt,∃q,av l n=some q/\q.frm=o.til:=by
 obtain⟨i,hi⟩:=ec ho;have hlt:=(gsi.1 hi).1;obtain⟨h1,-,h2,-⟩:=qhr hi ((qne h).2 i hlt)
 have hg:cd o.frm o.til=true:=by
  cases e:cd o.frm o.til
  .exact absurd (.inr (.inr (.inl e))) h1
  rfl
 simp[cd] at hg;exact⟨hg.1,hg.2.1,hg.2.2,qgc h2⟩
theorem qpp(h:goodO l=false):chain l n d=[]:=by unfold chain;rw[ve h]
theorem qlg(h:av l n=none):chain l n d=[]:=by
 unfold chain;split
 .rfl
 rw[h]
theorem jl7(h:goodO l=true)(ho:av l n=some o):chain l n d=chainF l d 1048577 o:=by
 unfold chain;rw[vd zey,ho]
theorem jbl(n:Nat)(h:jh l d o=none):chainF l d n o=[o.id]:=by
 cases n with
 |zero=>rfl
 |succ n=>simp only[chainF,h]
theorem jk4{q:Ofc}(n:Nat)(h:jh l d o=some q):chainF l d (n+1) o=o.id::chainF l d n q:=by simp only[chainF,h]
theorem jnc(h:inS o.frm o.til d=true):jh l d o=none:=by unfold jh;rw[ve h]
theorem jlt(h:o.nxt=[]):jh l d o=none:=by unfold jh;rw[h];split<;>rfl
theorem jkm{x:Int}{r:List Int}(h:inS o.frm o.til d=false)(h':o.nxt=x::r):jh l d o=av l x:=by
 unfold jh;rw[vd zey,h']
theorem jvq(l:List Ofc)(d:Int):∀(n:Nat) (o:Ofc),(chainF l d n o).length<=n+1
 |0,_=>by simp[chainF]
 |n+1,o=>by
  simp only[chainF];split
  .simp
  have:=jvq l d n ‹_›;simp only[List.length_cons];omega
structure Hld where
 id:Int
 kind:Int
 obj:Int
 cls:Str
 why:Str
 frm:Int
 til:Int
 deriving DecidableEq
abbrev Hld.cs(h:Hld):List V:=[vi h.id,vi h.kind,vi h.obj,.str h.cls,.str h.why,vi h.frm,vi h.til]
abbrev hlds(l:List Hld):V:=.slice 7 (l.map Hld.cs)
def Hld.Fit(h:Hld):Prop:=h.cls.length<=1048576/\h.why.length<=1048576
def jg5(l:List Hld):Prop:=l.length<=1048576/\∀h∈l,h.Fit
def idB(n:Int):Bool:=decide (1<=n/\n<=1073741824)
def ng(h:Hld):Int:=if h.kind≠3 then(if idB h.obj=false\/h.cls≠[] then 1 else 0) else if h.obj≠0 then 1 else if(ak h.cls).isNone=true then 3 else 0
def badH(h:Hld):Prop:=idB h.id=false\/h.kind<1\/3<h.kind\/cd h.frm h.til=false
instance (h:Hld):Decidable (badH h):=inferInstanceAs (Decidable (_\/_))
def tb(l:List Hld)(i:Nat)(h:Hld):Bool:=match (if i=0 then none else l[i-1]?) with|some q=>decide (h.id<=q.id)|none=>false
def sv(l:List Hld)(i:Nat):Int:=match l[i]? with
 |none=>0
 |some h=>if badH h then 2 else if tb l i h=true then 5 else if ng h≠0 then ng h else if name h.why=false then 4 else 0
def ib(l:List Hld):Int×Int:=chk 64 l.length (sv l)
def uw(l:List Hld):Bool:=(ib l).2 == 0
def nj(os:List Ofc)(ps:List Plan)(h:Hld)(f:Fil)(d:Int):Bool:=
 if h.kind=1 then decide (h.obj=f.id) else if h.kind=2 then(chain os f.ofc d).any (fun y=>decide (h.obj=y)) else
 if h.kind=3 then decide ((bd ps f d).2=0) && db (bd ps f d).1 h.cls else false
def ga(os:List Ofc)(ps:List Plan)(h:Hld)(f:Fil)(d:Int):Bool:=inS h.frm h.til d && nj os ps h f d
def bf(os:List Ofc)(ps:List Plan)(l:List Hld)(f:Fil)(d:Int):List Int:=(l.filter fun h=>ga os ps h f d).map (·.id)
def po(n:Int)(h:Hld):Bool:=decide (h.id=n)
def ka(l:List Hld)(n:Int):Int:=ix (po n) l
def cutH(l:List Hld)(i:Nat)(d:Int):List Hld:=match l[i]? with
 |some h=>l.set i { h with til:=d }
 |none=>l
def relE(l:List Hld)(n d:Int):Int:=if uw l=false then 1 else if ka l n<0 then 7 else match l[(ka l n).toNat]? with
 |some h=>if d<=h.frm\/h.til<d then 2 else 0
 |none=>0
def relL(l:List Hld)(n d:Int):List Hld:=if relE l n d=0 then cutH l (ka l n).toNat d else []
end Go.Arc
namespace Go.Arc
variable {d:Nat}
def bgn(n:Nat):Nat:=365*n+(n+3) / 4+(n+399) / 400-(n+99) / 100
def dc(n:Nat):Bool:=decide (n % 4=0) && (decide (n % 100≠0) || decide (n % 400=0))
theorem jop(n k:Nat)(hk:0<k):(n+1+(k-1)) / k=(n+(k-1)) / k+(if n % k=0 then 1 else 0):=by
 have e:n+1+(k-1)=n+k:=omq;rw[e,Nat.add_div_right _ hk];have hd:=xcj n k;have hm:=Nat.mod_lt n hk;generalize hq:n / k=q at hd;generalize hr:n % k=r at hd hm;by_cases h0:r=0
 .subst h0;have:n+(k-1)=(k-1)+k*q:=omq;rw[ve rfl,this,Nat.add_mul_div_left _ _ hk,xd7 omq];omega
 have:n+(k-1)=(r-1)+k*(q+1):=by rw[Nat.mul_add];omega
 rw[vd h0,this,Nat.add_mul_div_left _ _ hk,xd7 omq];omega
theorem jo2(n:Nat):bgn (n+1)=bgn n+365+(if dc n=true then 1 else 0):=by
 have a4:=jop n 4 dcq;have a100:=jop n 100 dcq;have a400:=jop n 400 dcq;have h1:(n+99) / 100<=n:=omq;have k1:n % 400=0->n % 100=0:=omq;have k2:n % 100=0->n % 4=0:=omq;simp only[Nat.reduceSub] at a4 a100 a400;unfold bgn dc;rw[a4,a100,a400];generalize (n+3) / 4=x at *;generalize (n+99) / 100=y at *;generalize (n+399) / 400=z at *;by_cases c:n % 400=0
 .have b:=k1 c;have a:=k2 b;simp[a,b,c];omega
 by_cases b:n % 100=0
 .have a:=k2 b;simp[a,b,c];omega
 by_cases a:n % 4=0
 .simp[a,b,c];omega
 simp[a,b,c];omega
theorem qdn(n:Nat):bgn n<bgn (n+1):=by rw[jo2];omega
theorem jo3{a b:Nat}(h:a<=b):bgn a<=bgn b:=by
  induction b with
  | zero => have : a = 0 := omq
            subst this;exact zej
  | succ b ih=>
    by_cases e:a=b+1
    . subst e;exact zej
    have:=qdn b;have:=ih omq;omega
theorem jcn(n:Nat):bgn n<=366*n:=by
 induction n with
 |zero=>decide
 |succ n ih=>rw[jo2];split<;>omega
theorem qdo(n:Nat):365*n<=bgn n:=by
 have h1:(n+99) / 100<=(n+3) / 4+(n+399) / 400:=omq;unfold bgn;omega
def yrF:Nat->Nat->Nat->Nat
 |0,n,_=>n
 |k+1,n,d=>if d<bgn (n+1) then n else yrF k (n+1) d
def yr(d:Nat):Nat:=yrF (d+1) 0 d
theorem qco{d m:Nat}(h1:bgn m<=d)(h2:d<bgn (m+1)):∀(k n:Nat),n<=m->m<=n+k->yrF k n d=m
 |0,n,a,b=>by simp only[yrF];omega
 |k+1,n,a,b=>by
  simp only[yrF];split
  .rename_i h;rcases xk n m with hlt|hge
   .have:=jo3 (show n+1<=m by omega);omega
   omega
  rename_i h;rcases xk n m with hlt|hge
  .exact qco h1 h2 k (n+1) omq omq
  have:n=m:=omq;subst this;omega
theorem qdw{m:Nat}(h1:bgn m<=d)(h2:d<bgn (m+1)):yr d=m:=qco h1 h2 _ 0 (vj _) (by have:=qdo m;omega)
theorem jon(d:Nat):bgn (yr d)<=d/\d<bgn (yr d+1):=by
 have:∃m,bgn m<=d/\d<bgn (m+1):=by
  induction d with
  |zero=>exact⟨0,dcq,dcq⟩
  |succ d ih=>
   obtain⟨m,h1,h2⟩:=ih;by_cases h:d+1<bgn (m+1)
   .exact⟨m,omq,h⟩
   exact⟨m+1,omq,by have:=qdn (m+1);omega⟩
 obtain⟨m,h1,h2⟩:=this;rw[qdw h1 h2];exact⟨h1,h2⟩
def qe5:List Nat:=[31,28,31,30,31,30,31,31,30,31,30,31]
def lenM(l:Bool)(m:Nat):Nat:=if m=2/\l=true then 29 else(qe5[m-1]?).getD 0
def sumM(l:Bool):Nat->Nat
 |0=>0
 |m+1=>if m=0 then 0 else sumM l m+lenM l m
theorem qva(l:Bool):sumM l 13=365+(if l=true then 1 else 0):=by cases l<;>decide
def monF(l:Bool):Nat->Nat->Nat->Nat×Nat
 |0,m,d=>(m,d)
 |k+1,m,d=>if d<lenM l m then(m,d) else monF l k (m+1) (d-lenM l m)
def mon(l:Bool)(d:Nat):Nat×Nat:=monF l 12 1 d
def date (d:Nat):Nat×Nat×Nat:=(yr d,(mon (dc (yr d)) (d-bgn (yr d))).1,(mon (dc (yr d)) (d-bgn (yr d))).2)
theorem jwn(l:Bool):∀(k m d:Nat),1<=m->m+k=13->d<sumM l 13-sumM l m->1<=(monF l k m d).1/\(monF l k m d).1<=12/\(monF l k m d).2<lenM l (monF l k m d).1/\d+sumM l m=(monF l k m d).2+sumM l (monF l k m d).1
 |0,m,d,_,hk,hd=>by
  have:m=13:=omq;subst this;omega
 |k+1,m,d,h1,hk,hd=>by
  simp only[monF];split
  .rename_i h;exact⟨h1,(by omega:m<=12),h,rfl⟩
  rename_i h;have hs:sumM l (m+1)=sumM l m+lenM l m:=by simp only[sumM];rw[vd omq]
  obtain⟨a,b,c,e⟩:=jwn l k (m+1) (d-lenM l m) omq omq omq;exact⟨a,b,c,omq⟩
theorem jyw{l:Bool}(h:d<sumM l 13):1<=(mon l d).1/\(mon l d).1<=12/\(mon l d).2<lenM l (mon l d).1/\d=(mon l d).2+sumM l (mon l d).1:=by
 have:=jwn l 12 1 d (vo _) rfl (by simpa [sumM] using h);simpa [mon,sumM] using this
theorem qbe(d:Nat):d-bgn (yr d)<sumM (dc (yr d)) 13:=by
 obtain⟨h1,h2⟩:=jon d;rw[qva];rw[jo2] at h2;omega
def yearsN(d n:Nat):Nat:=
 let x:=date d
 if 2870<x.1+n then 1048575 else min (bgn (x.1+n)+sumM (dc (x.1+n)) x.2.1+min (x.2.2+1) (lenM (dc (x.1+n)) x.2.1)-1) 1048575
def yearEndN(d:Nat):Nat:=min (bgn (yr d+1)-1) 1048575
end Go.Arc
namespace Go.Arc
open Go.Ab
structure Rul where
 id:Int
 cls:Str
 trg:Str
 yrs:Int
 yend:Bool
 act:Int
 frm:Int
 til:Int
abbrev Rul.cs(r:Rul):List V:=[vi r.id,.str r.cls,.str r.trg,vi r.yrs,vb r.yend,vi r.act,vi r.frm,vi r.til]
abbrev ruls(l:List Rul):V:=.slice 8 (l.map Rul.cs)
def Rul.Fit(r:Rul):Prop:=r.cls.length<=1048576/\r.trg.length<=1048576
def jdb(l:List Rul):Prop:=l.length<=1048576/\∀r∈l,r.Fit
def badR(r:Rul):Prop:=idB r.id=false\/r.yrs<0\/200<r.yrs\/r.act<1\/3<r.act\/cd r.frm r.til=false
instance (r:Rul):Decidable (badR r):=inferInstanceAs (Decidable (_\/_))
def lx(l:List Rul)(i:Nat)(r:Rul):Bool:=match (if i=0 then none else l[i-1]?) with|some q=>decide (r.id<=q.id)|none=>false
def iu(s:Str):Bool:=s.any fun b=>b == 34
def ie(r:Rul):Int:=
 if(ak r.cls).isNone=true then 3 else if name r.trg=false\/iu r.trg=true then 4 else
 if r.act=3/\(r.trg≠mj\/r.yrs≠0\/r.yend=true) then 1 else 0
def oz(l:List Rul)(i:Nat):Int:=match l[i]? with
 |none=>0
 |some r=>if badR r then 2 else if lx l i r=true then 5 else ie r
def ia(l:List Rul):Int×Int:=chk 64 l.length (oz l)
def goodR(l:List Rul):Bool:=(ia l).2 == 0
def pm(n:Int)(r:Rul):Bool:=decide (r.id=n)
def gt(l:List Rul)(n:Int):Int:=ix (pm n) l
def bv(s:Str):Nat:=match ak s with|some l=>l.length|none=>0
def appB(s:Str)(d:Int)(r:Rul):Bool:=inS r.frm r.til d && db s r.cls
def bp(l:List Rul)(s:Str)(d:Int):Nat:=(l.filter (appB s d)).foldl (fun m r=>max m (bv r.cls)) 0
def dw(l:List Rul)(s:Str)(d:Int):List Int:=(l.filter fun r=>appB s d r && (bv r.cls == bp l s d)).map (·.id)
def datB(a b:Int):Bool:=decide (0<=a) && decide (a<=b) && decide (b<=1048575)
def dueR(r:Rul)(a b:Int):Option Int:=if goodR [r]=true/\datB a b=true then
  some ((if r.yend=true then yearEndN (yearsN b.toNat r.yrs.toNat) else yearsN b.toNat r.yrs.toNat:Nat):Int) else none
abbrev dueV(r:Rul)(a b:Int):V:=match dueR r a b with
 |some d=>.tup [vi d,vi 0]
 |none=>.tup [vi 0,vi 1]
structure Clk where
 id:Int
 role:Int
 name:Str
 frm:Int
 til:Int
structure Sel where
 smp:Int
 day:Int
 fls:List Int
structure Prp where
 id:Int
 day:Int
 clk:Int
 fls:List Int
 wdr:Int
structure Apv where
 prp:Int
 day:Int
 clk:Int
structure Crt where
 num:Int
 prp:Int
 day:Int
 fls:List Int
 bef:Str
 dig:Str
structure Dep where
 fil:Int
 day:Int
abbrev Clk.cs(c:Clk):List V:=[vi c.id,vi c.role,.str c.name,vi c.frm,vi c.til]
abbrev Sel.cs(s:Sel):List V:=[vi s.smp,vi s.day,ints s.fls]
abbrev Prp.cs(p:Prp):List V:=[vi p.id,vi p.day,vi p.clk,ints p.fls,vi p.wdr]
abbrev Apv.cs(a:Apv):List V:=[vi a.prp,vi a.day,vi a.clk]
abbrev Crt.cs(c:Crt):List V:=[vi c.num,vi c.prp,vi c.day,ints c.fls,.str c.bef,.str c.dig]
abbrev Dep.cs(d:Dep):List V:=[vi d.fil,vi d.day]
abbrev clks(l:List Clk):V:=.slice 5 (l.map Clk.cs)
abbrev sels(l:List Sel):V:=.slice 3 (l.map Sel.cs)
abbrev prps(l:List Prp):V:=.slice 5 (l.map Prp.cs)
abbrev apvs(l:List Apv):V:=.slice 3 (l.map Apv.cs)
abbrev crts(l:List Crt):V:=.slice 6 (l.map Crt.cs)
abbrev deps(l:List Dep):V:=.slice 2 (l.map Dep.cs)
structure Rgs where
 ofs:List Ofc
 pls:List Plan
 fls:List Fil
 rls:List Rul
 hls:List Hld
 cks:List Clk
 sls:List Sel
 pps:List Prp
 aps:List Apv
 crs:List Crt
 dps:List Dep
 chg:Int
abbrev Rgs.cs(r:Rgs):List V:=[ofcs r.ofs,bh r.pls,fils r.fls,ruls r.rls,hlds r.hls,clks r.cks,sels r.sls,prps r.pps,apvs r.aps,crts r.crs,deps r.dps,vi r.chg]
structure Rgs.Fit (r:Rgs):Prop where
 ofs:nw r.ofs
 pls:Fits r.pls
 fls:ri r.fls
 rls:jdb r.rls
 hls:jg5 r.hls
 cks:r.cks.length<=1048576/\∀c∈r.cks,c.name.length<=1048576
 sls:r.sls.length<=1048576/\∀s∈r.sls,s.fls.length<=1048576
 pps:r.pps.length<=1048576/\∀p∈r.pps,p.fls.length<=1048576
 aps:r.aps.length<=1048576
 crs:r.crs.length<=1048576/\∀c∈r.crs,c.fls.length<=1048576/\c.bef.length<=1048576/\c.dig.length<=1048576
 dps:r.dps.length<=1048576
def dayG(d:Int):Bool:=decide (0<=d) && decide (d<=1048575)
def hasF(l:List Fil)(n:Int):Bool:=l.any fun f=>decide (f.id=n)
def risI:List Int->Bool
 |a::b::r=>decide (a<b) && risI (b::r)
 |_=>true
structure Elm where
 id:Int
 day:Int
 fls:List Int
 gone:Bool
abbrev Elm.cs(x:Elm):List V:=[vi x.id,vi x.day,ints x.fls,vb x.gone]
abbrev elms(l:List Elm):V:=.slice 4 (l.map Elm.cs)
def Sel.el(s:Sel):Elm:=⟨s.smp,s.day,s.fls,false⟩
def Crt.el(c:Crt):Elm:=⟨c.num,c.day,c.fls,true⟩
def Dep.el(d:Dep):Elm:=⟨1,d.day,[d.fil],true⟩
def cj(l:List Elm)(n:Int):Bool:=l.any fun x=>x.gone && x.fls.any fun f=>decide (f=n)
def elmE(fs:List Fil)(pre:List Elm)(last:Option Elm)(x:Elm):Int:=
 if idB x.id=false\/dayG x.day=false then 2 else if x.fls.all (hasF fs)=false then 7 else
 if risI x.fls=false\/(match last with|some q=>decide (x.day<q.day)|none=>false)=true then 5 else
 if x.gone=true/\x.fls.any (cj pre)=true then 6 else 0
def elsE(fs:List Fil):List Elm->Option Elm->List Elm->Int
 |_,_,[]=>0
 |pre,last,x::r=>if elmE fs pre last x≠0 then elmE fs pre last x else elsE fs (pre++[x]) (some x) r
def eg(fs:List Fil)(pre l:List Elm):Int:=if 1024<l.length then 8 else elsE fs pre none l
def fstE:List Int->Int
 |[]=>0
 |e::r=>if e≠0 then e else fstE r
def selE(r:Rgs):List Elm:=r.sls.map Sel.el
def crtE(r:Rgs):List Elm:=r.crs.map Crt.el
def depE(r:Rgs):List Elm:=r.dps.map Dep.el
def checkG(r:Rgs):Int:=fstE [(fm r.ofs).2,(check r.pls).2,(jv r.ofs r.pls r.fls).2,(ia r.rls).2,(ib r.hls).2,
 eg r.fls [] (selE r),eg r.fls (selE r) (crtE r),eg r.fls (selE r++crtE r) (depE r)]
structure Vdt where
 kind:Int
 fil:Int
 day:Int
 rule:Int
 due:Int
 hls:List Int
abbrev Vdt.cs(v:Vdt):List V:=[vi v.kind,vi v.fil,vi v.day,vi v.rule,vi v.due,ints v.hls]
def au(r:Rgs)(f:Fil)(d:Int):List Rul:=if(bd r.pls f d).2=0 then r.rls.filter fun q=>appB (bd r.pls f d).1 d q && (bv q.cls == bp r.rls (bd r.pls f d).1 d) else []
def dueF(f:Fil)(d:Int)(q:Rul):Option Int:=(trig f q.trg d).bind fun t=>dueR q t.1 t.2
def fq(f:Fil)(d:Int):List Rul->Int×Int->Int×Int
 |[],x=>x
 |q::r,x=>fq f d r (match dueF f d q with|some t=>if x.1<t then(t,q.id) else x|none=>x)
def cu(d:Int)(f:Fil)(day:Int)(l:List Int):Bool:=decide (day<=d) && l.any fun n=>decide (n=f.id)
def gone1(r:Rgs)(f:Fil)(d:Int):Bool:=r.crs.any fun c=>cu d f c.day c.fls
def gone2(r:Rgs)(f:Fil)(d:Int):Bool:=r.dps.any fun c=>cu d f c.day [c.fil]
def selB(r:Rgs)(f:Fil)(d:Int):Bool:=r.sls.any fun s=>cu d f s.day s.fls
def jy(q:Rul):Bool:=decide (q.act=3)
def ni(q:Rul):Bool:=decide (q.act=2)
def dn(f:Fil)(d:Int)(q:Rul):Bool:=(trig f q.trg d).isNone
def vdt(r:Rgs)(f:Fil)(d:Int):Vdt:=
 let l:=au r f d
 let x:=fq f d l (-1,0)
 let hs:=bf r.ofs r.pls r.hls f d
 if state f d=0 then ⟨0,f.id,d,0,0,[]⟩ else if gone1 r f d=true then ⟨1,f.id,d,0,0,[]⟩ else if gone2 r f d=true then ⟨2,f.id,d,0,0,[]⟩ else
 if l=[] then ⟨0,f.id,d,0,0,[]⟩ else if state f d=1 then ⟨3,f.id,d,0,0,[]⟩ else
 match l.find? jy with
 |some q=>⟨4,f.id,d,q.id,0,[]⟩
 |none=>match l.find? (dn f d) with
  |some q=>⟨5,f.id,d,q.id,0,[]⟩
  |none=>if d<=x.1 then ⟨6,f.id,d,x.2,x.1,[]⟩ else if hs≠[] then ⟨7,f.id,d,x.2,x.1,hs⟩ else
   if l.any ni=true\/selB r f d=true then ⟨9,f.id,d,x.2,x.1,[]⟩ else ⟨8,f.id,d,x.2,x.1,[]⟩
theorem qbo(f:Rul->Nat):∀(l:List Rul) (m:Nat),m<=l.foldl (fun m r=>max m (f r)) m/\∀r∈l,f r<=l.foldl (fun m r=>max m (f r)) m
 |[],m=>⟨vo _,fun r hr=>nomatch hr⟩
 |x::l,m=>by
  obtain⟨h1,h2⟩:=qbo f l (max m (f x));rw[List.foldl_cons];refine⟨xc (Nat.le_max_left _ _) h1,fun r hr=>?_⟩;rcases vt.1 hr with rfl|hr
  .exact xc (Nat.le_max_right _ _) h1
  exact h2 r hr
theorem qsi{l:List Rul}{s:Str}{d:Int}{r:Rul}(hr:r∈l)(ha:appB s d r=true):bv r.cls<=bp l s d:=
 (qbo (fun r=>bv r.cls) (l.filter (appB s d)) 0).2 r (xb7.2 ⟨hr,ha⟩)
theorem jdr{l:List Rul}{s:Str}{d:Int}{x:Rul}(ha:appB s d x=false):bp (l++[x]) s d=bp l s d:=by
 unfold bp;rw[xbj];simp[ha]
theorem rn{l:List Rul}{s:Str}{d:Int}{x:Rul}(ha:appB s d x=true):bp (l++[x]) s d=max (bp l s d) (bv x.cls):=by
 unfold bp;rw[xbj];simp[ha,List.foldl_append]
def jd6(l:List Rul)(s:Str)(d:Int)(n:Nat):List Int:=(l.filter fun r=>appB s d r && (bv r.cls == n)).map (·.id)
theorem ja4(l:List Rul)(s:Str)(d:Int):dw l s d=jd6 l s d (bp l s d):=rfl
theorem jh3(l:List Rul)(s:Str)(d:Int)(n:Nat)(x:Rul):jd6 (l++[x]) s d n=jd6 l s d n++(if appB s d x=true/\bv x.cls=n then [x.id] else []):=by
 unfold jd6;rw[xbj,xz];congr 1;by_cases h:appB s d x=true/\bv x.cls=n
 .rw[ve h];simp[h.1,h.2]
 rw[vd h];cases h1:appB s d x
 .simp[h1]
 have h2:¬bv x.cls=n:=fun e=>h ⟨h1,e⟩;simp[h1,h2]
theorem qlc{l:List Rul}{s:Str}{d:Int}{n:Nat}(h:bp l s d<n):jd6 l s d n=[]:=by
 unfold jd6;rw[List.map_eq_nil_iff,List.filter_eq_nil_iff];intro r hr hc;simp only[vn,xax] at hc;have:=qsi hr hc.1;omega
theorem joh{l:List Rul}{s:Str}{d:Int}{x:Rul}(ha:appB s d x=false):dw (l++[x]) s d=dw l s d:=by
 rw[ja4,ja4,jdr ha,jh3,vd (by simp[ha]),xd]
theorem qae{l:List Rul}{s:Str}{d:Int}{x:Rul}(ha:appB s d x=true)(h:bp l s d<bv x.cls):dw (l++[x]) s d=[x.id]:=by
 rw[ja4,rn ha,Nat.max_eq_right omq,jh3,ve ⟨ha,rfl⟩,qlc h,List.nil_append]
theorem qaf{l:List Rul}{s:Str}{d:Int}{x:Rul}(ha:appB s d x=true)(h:bv x.cls=bp l s d):dw (l++[x]) s d=dw l s d++[x.id]:=by
 rw[ja4,ja4,rn ha,xct omq,jh3,ve ⟨ha,h⟩]
theorem qad{l:List Rul}{s:Str}{d:Int}{x:Rul}(ha:appB s d x=true)(h:bv x.cls<bp l s d):dw (l++[x]) s d=dw l s d:=by
 rw[ja4,ja4,rn ha,xct omq,jh3,vd omq,xd]
theorem jkc{l:List Rul}{k:Nat}{x:Rul}(h:l[k]?=some x):l.take (k+1)=l.take k++[x]:=by
 obtain⟨hlt,rfl⟩:=gsi.1 h;rw[xap hlt]
theorem jyg{l:List Rul}(h:goodR l=true){i:Nat}{q r:Rul}(hq:l[i]?=some q)(hr:l[i+1]?=some r):q.id<r.id:=by
 have hz:(chk 64 l.length (oz l)).2=0:=by
  have:=h;unfold goodR ia at this;exact eq_of_beq this
 obtain⟨-,ha⟩:=ky hz;have hlt:=(gsi.1 hr).1;have h0:=ha (i+1) hlt;unfold oz at h0;rw[hr] at h0;simp only at h0;by_cases hb:badR r
 .rw[ve hb] at h0;cases h0
 rw[vd hb] at h0;by_cases hp:lx l (i+1) r=true
 .rw[ve hp] at h0;cases h0
 unfold lx at hp;rw[vd (xcd i),xcg,hq] at hp;simp only[vq] at hp;omega
theorem qau{l:List Rul}(h:goodR l=true){i:Nat}{q:Rul}(hq:l[i]?=some q):∀(n:Nat) {r:Rul},l[i+1+n]?=some r->q.id<r.id
 |0,r,hr=>jyg h hq hr
 |n+1,r,hr=>by
  have hlt:=(gsi.1 hr).1;have hlt2:i+1+n<l.length:=omq;have h1:=qau h hq n (gge hlt2);have h2:=jyg h (gge hlt2) hr;omega
theorem jnq{l:List Rul}(h:goodR l=true){i:Nat}{q:Rul}(hq:l[i]?=some q):gt l q.id=i:=by
 refine(uu (k:=i) (fun e he=>?_) hq (by simp[pm])).symm;obtain⟨j,hj⟩:=xm he
 have hji:j<i:=by
  have:=(gsi.1 hj).1;exact zdm
 rw[List.getElem?_take_of_lt hji] at hj;have:=qau h hj (i-(j+1)) (r:=q) (by rw[show j+1+(i-(j+1))=i by omega];exact hq);unfold pm;exact vw omq
theorem qnk{l:List Rul}(h:goodR l=true){q:Rul}(hq:q∈l):∃i:Nat,i<l.length/\l[i]?=some q/\gt l q.id=i:=by
 obtain⟨i,hi⟩:=xm hq;exact⟨i,(gsi.1 hi).1,hi,jnq h hi⟩
theorem juj{r:Rgs}{f:Fil}{d:Int}{q:Rul}(h:q∈au r f d):q∈r.rls:=by
 unfold au at h;split at h
 .exact(xb7.1 h).1
 cases h
theorem juk(r:Rgs)(f:Fil)(d:Int):(au r f d).length<=r.rls.length:=by
 unfold au;split
 .exact zd4
 exact vj _
theorem qiz{r:Rgs}{f:Fil}{d:Int}(h:(bd r.pls f d).2=0):dw r.rls (bd r.pls f d).1 d=(au r f d).map (·.id):=by
 unfold au dw;rw[ve h]
theorem qj0{r:Rgs}{f:Fil}{d:Int}(h:(bd r.pls f d).2≠0):au r f d=[]:=vd h
def na(f:Fil)(d:Int)(x:Int×Int)(q:Rul):Int×Int:=match dueF f d q with
 |some t=>if x.1<t then(t,q.id) else x
 |none=>x
theorem jkp(f:Fil)(d:Int):∀(l:List Rul) (x:Int×Int),fq f d l x=l.foldl (na f d) x
 |[],_=>rfl
 |_::r,_=>jkp f d r _
theorem qjk(f:Fil)(d:Int){l:List Rul}{k:Nat}{q:Rul}(x:Int×Int)(h:l[k]?=some q):fq f d (l.take (k+1)) x=na f d (fq f d (l.take k) x) q:=by
 rw[jkc h,jkp,jkp,xbk];rfl
theorem jud{f:Fil}{d:Int}{x:Int×Int}{q:Rul}(h:dueF f d q=none):na f d x q=x:=by unfold na;rw[h]
theorem qqw{f:Fil}{d:Int}{x:Int×Int}{q:Rul}{t:Int}(h:dueF f d q=some t)(ht:x.1<t):na f d x q=(t,q.id):=by unfold na;rw[h];exact ve ht
theorem qqx{f:Fil}{d:Int}{x:Int×Int}{q:Rul}{t:Int}(h:dueF f d q=some t)(ht:¬x.1<t):na f d x q=x:=by unfold na;rw[h];exact vd ht
theorem qx5{f:Fil}{d:Int}{q:Rul}(h:trig f q.trg d=none):dueF f d q=none:=by unfold dueF;rw[h];rfl
theorem qsf{f:Fil}{d:Int}{q:Rul}{a b:Int}(h:trig f q.trg d=some (a,b)):dueF f d q=dueR q a b:=by unfold dueF;rw[h];rfl
def pv(l:List Int)(i:Nat):Bool:=match l[i-1]?,l[i]? with
 |some x,some y=>decide (0<i) && decide (y<x)
 |_,_=>false
def srtI(l:List Int):Bool:= !(List.range l.length).any (pv l)
theorem jq0{l:List Int}{i:Nat}(h0:i≠0){x y:Int}(hx:l[i-1]?=some x)(hy:l[i]?=some y):pv l i=decide (y<x):=by
 unfold pv;rw[hx,hy];simp;omega
theorem qcf(l:List Int):pv l 0=false:=by
 unfold pv;split
 .rfl
 rfl
theorem qap{l:List Int}{i:Nat}(hi:i<l.length)(h:pv l i=true):srtI l=false:=by
 unfold srtI;rw[show (List.range l.length).any (pv l)=true from yd.2 ⟨i,List.mem_range.2 hi,h⟩];rfl
theorem jye{l:List Int}(h:∀j,j<l.length->pv l j=false):srtI l=true:=by
 unfold srtI
 rw[show (List.range l.length).any (pv l)=false from by
  rw[yf];intro j hj
  rw[h j (List.mem_range.1 hj)];decide]
 rfl
theorem qr0(l:List Int):srtI l=true↔∀(i:Nat) x y,l[i]?=some x->l[i+1]?=some y->x<=y:=by
 constructor
 .intro h i x y hx hy;by_cases hlt:y<x
  .have hb:pv l (i+1)=true:=by rw[jq0 (xcd i) zfi hy];simpa using hlt
   rw[qap (gsi.1 hy).1 hb] at h;cases h
  omega
 intro h;refine jye fun j hj=>?_;cases j with
 |zero=>exact qcf l
 |succ i=>
  have hi:i<l.length:=omq;rw[jq0 (xcd i) (x:=l[i]) (y:=l[i+1]) (by simp[hi]) (gge hj)];have:=h i _ _ (gge hi) (gge hj);exact zb4
theorem jeh:∀l:List Int,risI l=true↔∀(i:Nat) x y,l[i]?=some x->l[i+1]?=some y->x<y
 |[]=>by simp[risI]
 |[a]=>by simp[risI]
 |a::b::r=>by
  have ih:=jeh (b::r);unfold risI;simp only[vn,vq];rw[ih];constructor
  .rintro⟨h1,h2⟩ i x y hx hy;cases i with
   |zero=>simp at hx hy;omega
   |succ i=>exact h2 i x y (by simpa using hx) (by simpa using hy)
  exact zct
def un(K:List Int)(x:Int):List Int:=if K.getLast?=some x then K else K++[x]
def bl(l:List Int):List Int:=l.foldl un []
theorem qiu(K:List Int)(x:Int):(un K x).getLast?=some x:=by
 unfold un;split
 .assumption
 simp
theorem qm9(K:List Int)(x:Int):(un K x).length<=K.length+1:=by
 unfold un;split
 .omega
 simp
theorem jgp{l:List Int}{k:Nat}{x:Int}(h:l[k]?=some x):l.take (k+1)=l.take k++[x]:=by
 obtain⟨hlt,rfl⟩:=gsi.1 h;rw[xap hlt]
theorem jdy{l:List Int}{k:Nat}{x:Int}(h:l[k]?=some x):bl (l.take (k+1))=un (bl (l.take k)) x:=by
 rw[jgp h];unfold bl;rw[xbk];rfl
theorem jvk{l:List Int}{k:Nat}{x:Int}(h:l[k]?=some x):(bl (l.take (k+1))).getLast?=some x:=by
 rw[jdy h];exact qiu _ _
theorem jmf(l:List Int):∀k,(bl (l.take k)).length<=k
 |0=>by simp[bl]
 |k+1=>by
  have ih:=jmf l k;cases h:l[k]? with
  |none=>
   have:l.length<=k:=by simpa using h
   rw[ye omq];rw[ye this] at ih;omega
  |some x=>
   rw[jdy h];have:=qm9 (bl (l.take k)) x;omega
theorem jh4{l:List Int}{k:Nat}{x y:Int}(hk:0<k)(hy:l[k-1]?=some y)(hx:l[k]?=some x)(h:x=y):bl (l.take (k+1))=bl (l.take k):=by
 obtain⟨j,rfl⟩:∃j,k=j+1:=⟨k-1,omq⟩;rw[jdy hx];unfold un;rw[ve (by rw[jvk (by simpa using hy),h])]
theorem jl5{l:List Int}{k:Nat}{x y:Int}(hk:0<k)(hy:l[k-1]?=some y)(hx:l[k]?=some x)(h:x≠y):bl (l.take (k+1))=bl (l.take k)++[x]:=by
 obtain⟨j,rfl⟩:∃j,k=j+1:=⟨k-1,omq⟩;rw[jdy hx];unfold un;rw[vd (by rw[jvk (by simpa using hy)];simp;omega)]
theorem jme{l:List Int}{x:Int}(hx:l[0]?=some x):bl (l.take 1)=[x]:=by
 rw[jdy hx];rfl
theorem jvl(l:List Int):∀k,k<=l.length->((bl (l.take k)).length=k↔∀(i:Nat) x y,i+1<k->l[i]?=some x->l[i+1]?=some y->x≠y)
 |0,_=>by simp[bl]
 |1,h=>by
  rw[jme (gge (show 0<l.length by omega))];simp
 |k+2,h=>by
  have ih:=jvl l (k+1) omq;have hlen:=jmf l (k+1);have hk1:k+1<l.length:=omq;have hx:=gge hk1;have hy:=gge (show k<l.length by omega);by_cases e:l[k+1]=l[k]
  .rw[jh4 (Nat.succ_pos k) hy hx e];constructor
   .intro g;simp only[Nat.succ_eq_add_one] at g;omega
   intro g;exact absurd e.symm (g k _ _ omq hy hx)
  rw[jl5 (Nat.succ_pos k) hy hx e,vr];constructor
  .intro g i x y hi gx gy;by_cases hik:i=k
   .subst hik;rw[hy] at gx;rw[hx] at gy;cases gx;cases gy;exact fun hh=>e hh.symm
   exact ih.1 (by simp at g;omega) i x y omq gx gy
  intro g;have:=ih.2 fun i x y hi gx gy=>g i x y omq gx gy;simp;omega
theorem qvf(l:List Int):(srtI l && decide (((bl l).length:Int)=l.length))=risI l:=by
 have h1:=qr0 l;have h2:=jeh l;have h3:=jvl l l.length (vo _);rw[yk] at h3;rw[xc1,vn,vq,h1,h2];constructor
 .rintro⟨g1,g2⟩ i x y hx hy;have:=h3.1 omq i x y (gsi.1 hy).1 hx hy;have:=g1 i x y hx hy;omega
 intro g;refine⟨fun i x y hx hy=>by have:=g i x y hx hy;omega,?_⟩;have:=h3.2 fun i x y _ hx hy=>by have:=g i x y hx hy;omega
 omega
def upG:List (Int×Bool)->Int->Bool->List (Int×Bool)
 |[],f,b=>[(f,b)]
 |(g,c)::r,f,b=>if f=g then(f,b)::r else(g,c)::upG r f b
def getG:List (Int×Bool)->Int->Bool
 |[],_=>false
 |(g,c)::r,f=>if f=g then c else getG r f
def mapG(ps:List (Int×Bool)):List (V×V):=ps.map fun q=>(vi q.1,vb q.2)
def jfu:List (Int×Bool)->Int->Option V
 |[],_=>none
 |(g,c)::r,f=>if f=g then some (vb c) else jfu r f
theorem jx7(ps:List (Int×Bool))(f:Int):(jfu ps f).getD (vb false)=vb (getG ps f):=by
 induction ps with
 |nil=>rfl
 |cons q r ih=>
  unfold jfu getG;by_cases h:f=q.1
  .rw[ve h,ve h];rfl
  rw[vd h,vd h];exact ih
theorem jm3(f:Int):∀ps,ma (vi f) (mapG ps)=some (jfu ps f)
 |[]=>rfl
 |(g,c)::r=>by
  have ih:=jm3 f r;unfold mapG at ih;simp only[mapG,vy,ma,jk,xf,jfu];by_cases h:f=g
  .simp[h]
  simp only[h,xc8,xy];exact ih
theorem jtc(f:Int)(b:Bool):∀ps,mq (vi f) (vb b) (mapG ps)=some (mapG (upG ps f b))
 |[]=>rfl
 |(g,c)::r=>by
  have ih:=jtc f b r;unfold mapG at ih;simp only[mapG,vy,mq,jk,xf,upG];by_cases h:f=g
  .simp[h]
  simp only[h,xc8,xy,ih,Option.map_some,vy]
theorem qde(f n:Int)(b:Bool):∀ps,getG (upG ps f b) n=if n=f then b else getG ps n
 |[]=>by
  unfold upG getG getG;by_cases h:n=f<;>simp[h]
 |(g,c)::r=>by
  have ih:=qde f n b r;unfold upG;by_cases h:f=g
  .rw[ve h];unfold getG;by_cases h2:n=f
   .simp[h2]
   rw[vd h2,vd h2,vd (by rw[<- h];exact h2)]
  rw[vd h];unfold getG;by_cases h2:n=g
  .rw[ve h2,ve h2,vd (fun e=>h (e.symm.trans h2))]
  rw[vd h2,vd h2,ih]
def addG(ps:List (Int×Bool))(fs:List Int)(g:Bool):List (Int×Bool):=fs.foldl (fun ps f=>upG ps f (getG ps f || g)) ps
theorem qbi(n:Int)(g:Bool):∀(fs:List Int) ps,getG (addG ps fs g) n=(getG ps n || (g && fs.any fun f=>decide (f=n)))
 |[],ps=>by simp[addG]
 |f::r,ps=>by
  have ih:=qbi n g r (upG ps f (getG ps f || g));unfold addG at ih ⊢;rw[List.foldl_cons,ih,qde];by_cases h:n=f
  .subst h;cases g<;>cases getG ps n<;>simp
  have h':¬f=n:=fun e=>h e.symm;simp[h,h']
theorem quw(ps:List (Int×Bool)){fs:List Int}{k:Nat}{f:Int}(g:Bool)(h:fs[k]?=some f):addG ps (fs.take (k+1)) g=upG (addG ps (fs.take k) g) f (getG (addG ps (fs.take k) g) f || g):=by
 rw[jgp h];unfold addG;rw[xbk];rfl
theorem jhi(l:List Elm)(x:Elm)(n:Int):cj (l++[x]) n=(cj l n || (x.gone && x.fls.any fun f=>decide (f=n))):=by
 unfold cj;rw[xcf];simp
theorem jz7{ps:List (Int×Bool)}{pre:List Elm}(h:∀n,getG ps n=cj pre n)(x:Elm):∀n,getG (addG ps x.fls x.gone) n=cj (pre++[x]) n:=fun n=>by
 rw[qbi,jhi,h]
def elsM(fs:List Fil):List Elm->Option Elm->List (Int×Bool)->List Elm->List (Int×Bool)
 |_,_,ps,[]=>ps
 |pre,last,ps,x::r=>if elmE fs pre last x≠0 then ps else elsM fs (pre++[x]) (some x) (addG ps x.fls x.gone) r
theorem jzj(fs:List Fil):∀(l:List Elm) (pre:List Elm) (last:Option Elm) (ps:List (Int×Bool)),(∀n,getG ps n=cj pre n)->elsE fs pre last l=0->∀n,getG (elsM fs pre last ps l) n=cj (pre++l) n
 |[],pre,last,ps,h,_=>fun n=>by rw[xd];exact h n
 |x::r,pre,last,ps,h,he=>fun n=>by
  unfold elsE at he;unfold elsM;by_cases hx:elmE fs pre last x≠0
  .rw[ve hx] at he;exact absurd he hx
  rw[vd hx] at he ⊢;rw[jzj fs r (pre++[x]) (some x) _ (jz7 h x) he n,xb];rfl
theorem qnp{fs:List Fil}{l:List Elm}{k:Nat}{x:Elm}(hx:l[k]?=some x)(pre:List Elm)(last:Option Elm):elsE fs pre last (l.drop k)=if elmE fs pre last x≠0 then elmE fs pre last x else elsE fs (pre++[x]) (some x) (l.drop (k+1)):=by
 obtain⟨hlt,rfl⟩:=gsi.1 hx;exact zb9
theorem qno{fs:List Fil}{l:List Elm}{k:Nat}{x:Elm}(hx:l[k]?=some x)(pre:List Elm)(last:Option Elm)(ps:List (Int×Bool)):elsM fs pre last ps (l.drop k)=if elmE fs pre last x≠0 then ps else elsM fs (pre++[x]) (some x) (addG ps x.fls x.gone) (l.drop (k+1)):=by
 obtain⟨hlt,rfl⟩:=gsi.1 hx;exact zb9
def fk(l:List Elm)(k:Nat):Option Elm:=if k=0 then none else l[k-1]?
theorem qhl{l:List Elm}{k:Nat}{x:Elm}(hx:l[k]?=some x):fk l (k+1)=some x:=by
 unfold fk;rw[vd (xcd k),xcg];exact hx
theorem jkd{l:List Elm}{k:Nat}{x:Elm}(h:l[k]?=some x):l.take (k+1)=l.take k++[x]:=by
 obtain⟨hlt,rfl⟩:=gsi.1 h;rw[xap hlt]
structure Pce where
 frm:Int
 til:Int
 val:Int
 deriving DecidableEq
abbrev Pce.cs(p:Pce):List V:=[vi p.frm,vi p.til,vi p.val]
def addP:List Pce->Int->Int->Int->List Pce
 |[],c,e,k=>[⟨c,e,k⟩]
 |[p],c,e,k=>if p.val=k then [⟨p.frm,e,p.val⟩] else [p,⟨c,e,k⟩]
 |p::q::r,c,e,k=>p::addP (q::r) c e k
def Runs(K:Int->Int)(b:Int):Int->List Pce->Prop
 |a,[]=>a=b
 |a,p::r=>p.frm=a/\a<p.til/\(∀d,a<=d->d<p.til->K d=p.val)/\(∀q,r.head?=some q->q.val≠p.val)/\Runs K b p.til r
theorem Runs.le{K:Int->Int}{b:Int}: ∀ {l:List Pce} {a:Int},Runs K b a l->a<=b
 |[],a,h=>by have:a=b:=h;omega
 |p::r,a,h=>by have h1:=h.2.1;have h2:=Runs.le h.2.2.2.2;omega
theorem Runs.head{K:Int->Int}{b:Int}{l:List Pce}{a:Int}(h:Runs K b a l){q:Pce}(hq:l.head?=some q):K a=q.val:=by
 cases l with
 |nil=>cases hq
 |cons p r=>
  simp only[List.head?_cons,vk] at hq;subst hq;exact h.2.2.1 a (Int.le_refl _) h.2.1
theorem Runs.ne{K:Int->Int}{b a:Int}{l:List Pce}(h:Runs K b a l)(hab:a<b):l≠[]:=fun e=>by
 subst e;have:a=b:=h;omega
theorem qq9{l:List Pce}{c e k:Int}{q x:Pce}(hx:l.head?=some x)(h:(addP l c e k).head?=some q):q.val=x.val:=by
 match l,hx with
 |[p],hx=>
  simp only[List.head?_cons,vk] at hx;subst hx;unfold addP at h;split at h
  .simp only[List.head?_cons,vk] at h;rw[<- h]
  simp only[List.head?_cons,vk] at h;rw[<- h]
 |p::y::r,hx=>
  simp only[List.head?_cons,vk] at hx;subst hx;unfold addP at h;simp only[List.head?_cons,vk] at h;rw[<- h]
theorem Runs.add{K:Int->Int}{c e k:Int}(hce:c<e)(hk:∀d,c<=d->d<e->K d=k):∀ {l:List Pce} {a:Int},Runs K c a l->Runs K e a (addP l c e k)
 |[],a,h=>by
  have h:a=c:=h;subst h;exact⟨rfl,hce,hk,(fun q hq=>nomatch hq),rfl⟩
 |[p],a,h=>by
  obtain⟨h1,h2,h3,-,h5⟩:=h;have h5:p.til=c:=h5;unfold addP;by_cases hv:p.val=k
  .rw[ve hv];refine⟨h1,by show a<e;omega,fun d g1 g2=>?_,(fun q hq=>nomatch hq),rfl⟩;by_cases hd:d<p.til
   .exact h3 d g1 hd
   exact(hk d omq g2).trans hv.symm
  rw[vd hv];refine⟨h1,h2,h3,fun q hq=>?_,⟨h5.symm,by rw[h5];exact hce,fun d g1 g2=>hk d omq g2,(fun q hq=>nomatch hq),rfl⟩⟩;simp only[List.head?_cons,vk] at hq;rw[<- hq];exact fun e=>hv e.symm
 |p::x::r,a,h=>by
  obtain⟨h1,h2,h3,h4,h5⟩:=h;unfold addP;refine⟨h1,h2,h3,fun q hq=>?_,Runs.add hce hk h5⟩;rw[qq9 (x:=x) rfl hq];exact h4 x rfl
theorem Runs.at{K:Int->Int}{b:Int}: ∀ {l:List Pce} {a:Int},Runs K b a l->∀ {i:Nat} {p:Pce},l[i]?=some p->a<=p.frm/\p.frm<p.til/\p.til<=b/\∀d,p.frm<=d->d<p.til->K d=p.val
 |[],a,h,i,p,hp=>by simp at hp
 |x::r,a,h,0,p,hp=>by
  simp only[List.getElem?_cons_zero,vk] at hp;subst hp;exact⟨by rw[h.1];exact Int.le_refl _,by rw[h.1];exact h.2.1,Runs.le h.2.2.2.2,by rw[h.1];exact h.2.2.1⟩
 |x::r,a,h,i+1,p,hp=>by
  have:=Runs.at h.2.2.2.2 (i:=i) (p:=p) (by simpa using hp);have h2:=h.2.1;exact⟨omq,this.2⟩
theorem Runs.last{K:Int->Int}{b:Int}: ∀ {l:List Pce} {a:Int},Runs K b a l->∀ {p:Pce},l.getLast?=some p->p.til=b
 |[],a,h,p,hp=>by simp at hp
 |[x],a,h,p,hp=>by
  simp at hp;subst hp;exact h.2.2.2.2
 |x::y::r,a,h,p,hp=>Runs.last (l:=y::r) h.2.2.2.2 (by simpa using hp)
def Far(d t c:Int):Prop:=c<=d\/t<c
theorem jio{f u d t:Int}(h:d<=t)(hf:Far d t f)(hu:Far d t u):inS f u d=inS f u t:=by
 unfold inS;unfold Far at hf hu;rw[xc1,vq,vq];omega
theorem qd4{c d t:Int}(h:d<=t)(hc:Far d t c):decide (c<=d)=decide (c<=t):=by
 unfold Far at hc;rw[xc1,vq,vq];omega
theorem jde{α:Type}{p q:α->Bool}: ∀ {l:List α},(∀x∈l,p x=q x)->l.filter p=l.filter q
 |[],_=>rfl
 |x::l,h=>by
  rw[xc5,xc5,h x smq,jde fun y hy=>h y zfd]
theorem jh8{α:Type}{p q:α->Bool}: ∀ {l:List α},(∀x∈l,p x=q x)->l.any p=l.any q
 |[],_=>rfl
 |x::l,h=>by
  rw[List.any_cons,List.any_cons,h x smq,jh8 fun y hy=>h y zfd]
theorem jsq{α:Type}{p q:α->Bool}: ∀ {l:List α},(∀x∈l,p x=q x)->l.findIdx? p=l.findIdx? q
 |[],_=>rfl
 |x::l,h=>by
  rw[List.findIdx?_cons,List.findIdx?_cons,h x smq,jsq fun y hy=>h y zfd]
structure Quiet (r:Rgs) (f:Fil) (d t:Int):Prop where
 le:d<=t
 opn:Far d t f.opn
 cld:Far d t f.cld
 nts:∀n∈f.nts,Far d t n.rcd
 ofs:∀o∈r.ofs,Far d t o.frm/\Far d t o.til
 pls:∀o∈r.pls,Far d t o.frm/\Far d t o.til
 rls:∀o∈r.rls,Far d t o.frm/\Far d t o.til
 hls:∀o∈r.hls,Far d t o.frm/\Far d t o.til
 sls:∀s∈r.sls,(s.fls.any fun n=>decide (n=f.id))=true->Far d t s.day
 crs:∀s∈r.crs,(s.fls.any fun n=>decide (n=f.id))=true->Far d t s.day
 dps:∀s∈r.dps,s.fil=f.id->Far d t s.day
variable {r : Rgs}{f : Fil}{d t : Int}
theorem Quiet.state(h:Quiet r f d t):state f d=state f t:=by
 have:=h.le;have h1:=h.opn;have h2:=h.cld;unfold Far at h1 h2;unfold Arc.state;by_cases a:d<f.opn
 .rw[ve a,ve omq]
 have a':¬t<f.opn:=omq;rw[vd a,vd a'];by_cases b:d<f.cld
 .have b':t<f.cld:=omq;rw[ve b,ve b']
 have b':¬t<f.cld:=omq;rw[vd b,vd b']
theorem qb5{c:Int}(h:d<=t)(hc:Far d t c):onD c d=onD c t:=by
 unfold Far at hc;unfold onD;by_cases a:d<c
 .rw[ve a,ve omq]
 rw[vd a,vd omq]
theorem Quiet.trig(h:Quiet r f d t)(s:Str):trig f s d=trig f s t:=by
 have hk:jj f d=jj f t:=jde fun n hn=>qd4 h.le (h.nts n hn);unfold Arc.trig;rw[qb5 h.le h.opn,qb5 h.le h.cld];unfold best own;rw[hk]
theorem Quiet.cls(h:Quiet r f d t):bd r.pls f d=bd r.pls f t:=by
 have hi:idx r.pls d=idx r.pls t:=by
  unfold idx ix;rw[jsq fun p hp=>jio h.le (h.pls p hp).1 (h.pls p hp).2]
 unfold bd;rw[hi]
theorem Quiet.rules(h:Quiet r f d t):au r f d=au r f t:=by
 have ha:∀s,∀q∈r.rls,appB s d q=appB s t q:=fun s q hq=>by
  unfold appB;rw[jio h.le (h.rls q hq).1 (h.rls q hq).2]
 have hl:∀s,bp r.rls s d=bp r.rls s t:=fun s=>by
  unfold bp;rw[jde (ha s)]
 unfold au;rw[h.cls];split
 .refine jde fun q hq=>?_;rw[ha _ q hq,hl]
 rfl
theorem jko{day:Int}{l:List Int}(h:d<=t)(hf:(l.any fun n=>decide (n=f.id))=true->Far d t day):cu d f day l=cu t f day l:=by
 unfold cu;cases e:l.any fun n=>decide (n=f.id) with
 |false=>rw[yz,yz]
 |true=>rw[qd4 h (hf e)]
theorem Quiet.gone1(h:Quiet r f d t):gone1 r f d=gone1 r f t:=jh8 fun c hc=>jko h.le (h.crs c hc)
theorem Quiet.gone2(h:Quiet r f d t):gone2 r f d=gone2 r f t:=jh8 fun c hc=>jko h.le fun e=>h.dps c hc (by simpa using e)
theorem Quiet.sel(h:Quiet r f d t):selB r f d=selB r f t:=jh8 fun c hc=>jko h.le (h.sls c hc)
theorem jwp{l:List Ofc}{n:Int}{o:Ofc}(h:av l n=some o):o∈l:=xb0 h
theorem Quiet.chainF(h:Quiet r f d t):∀(n:Nat) (o:Ofc),o∈r.ofs->chainF r.ofs d n o=chainF r.ofs t n o
 |0,o,_=>rfl
 |n+1,o,ho=>by
  have he:jh r.ofs d o=jh r.ofs t o:=by
   unfold jh;rw[jio h.le (h.ofs o ho).1 (h.ofs o ho).2]
  unfold Arc.chainF;rw[he];cases e:jh r.ofs t o with
  |none=>rfl
  |some q=>
   have hq:q∈r.ofs:=by
    unfold jh at e;split at e
    .cases e
    split at e
    .cases e
    exact jwp e
   simp only;rw[h.chainF n q hq]
theorem Quiet.chain(h:Quiet r f d t)(n:Int):chain r.ofs n d=chain r.ofs n t:=by
 unfold Arc.chain;split
 .rfl
 cases e:av r.ofs n with
 |none=>rfl
 |some o=>exact h.chainF _ o (jwp e)
theorem Quiet.hold(h:Quiet r f d t):bf r.ofs r.pls r.hls f d=bf r.ofs r.pls r.hls f t:=by
 unfold bf;rw[jde fun x hx=>?_];unfold ga nj;rw[jio h.le (h.hls x hx).1 (h.hls x hx).2,h.chain,h.cls]
def kdB(s:Int)(g1 g2 e:Bool)(k w late hd m:Bool):Int:=
 if s=0 then 0 else if g1=true then 1 else if g2=true then 2 else if e=true then 0 else if s=1 then 3 else if k=true then 4 else if w=true then 5 else if late=true then 6 else if hd=true then 7 else if m=true then 9 else 8
theorem Quiet.kind(h:Quiet r f d t)(b:Bool):kdB (Arc.state f d) (Arc.gone1 r f d) (Arc.gone2 r f d) (decide (au r f d=[])) ((au r f d).find? jy).isSome ((au r f d).find? (dn f d)).isSome b (decide (bf r.ofs r.pls r.hls f d≠[])) ((au r f d).any ni || selB r f d)=
  kdB (Arc.state f t) (Arc.gone1 r f t) (Arc.gone2 r f t) (decide (au r f t=[])) ((au r f t).find? jy).isSome ((au r f t).find? (dn f t)).isSome b (decide (bf r.ofs r.pls r.hls f t≠[])) ((au r f t).any ni || selB r f t):=by
 have hw:dn f d=dn f t:=by funext q;unfold dn;rw[h.trig]
 rw[h.state,h.gone1,h.gone2,h.rules,h.hold,h.sel,hw]
end Go.Arc
namespace Go.Arc
open Go.Ab
variable {n:Int}{fs:List Fil}{l:List Int}{x:Elm}{i:Nat}{j:Nat}{y:Dep}
def qe8(ps:List (Int×Bool)):List Int:=ps.map (·.1)
theorem se{x:Int}(h:fstE (x::l)=0):x=0/\fstE l=0:=by
 unfold fstE at h;by_cases hx:x≠0
 .rw[ve hx] at h;exact absurd h hx
 rw[vd hx] at h;exact⟨omq,h⟩
structure OkG (r:Rgs):Prop where
 ofs:(fm r.ofs).2=0
 pls:(check r.pls).2=0
 fls:(jv r.ofs r.pls r.fls).2=0
 rls:(ia r.rls).2=0
 hls:(ib r.hls).2=0
 sls:eg r.fls [] (selE r)=0
 crs:eg r.fls (selE r) (crtE r)=0
 dps:eg r.fls (selE r++crtE r) (depE r)=0
theorem jj1{r:Rgs}(h:checkG r=0):OkG r:=by
 unfold checkG at h;obtain⟨h1,h⟩:=se h;obtain⟨h2,h⟩:=se h;obtain⟨h3,h⟩:=se h;obtain⟨h4,h⟩:=se h;obtain⟨h5,h⟩:=se h;obtain⟨h6,h⟩:=se h;obtain⟨h7,h⟩:=se h;obtain⟨h8,h⟩:=se h;exact⟨h1,h2,h3,h4,h5,h6,h7,h8⟩
theorem OkG.zero{r:Rgs}(h:OkG r):checkG r=0:=by
 unfold checkG;rw[h.ofs,h.pls,h.fls,h.rls,h.hls,h.sls,h.crs,h.dps];rfl
theorem OkG.goodR{r:Rgs}(h:OkG r):goodR r.rls=true:=by unfold Arc.goodR;rw[h.rls];rfl
theorem OkG.goodL{r:Rgs}(h:OkG r):goodL r.pls=true:=by unfold Arc.goodL;rw[h.pls];rfl
theorem OkG.goodO{r:Rgs}(h:OkG r):goodO r.ofs=true:=by unfold Arc.goodO;rw[h.ofs];rfl
theorem ji8{fs:List Fil}: ∀(l pre:List Elm) (last:Option Elm),elsE fs pre last l=0->∀(i:Nat) x,l[i]?=some x->∃q,elmE fs (pre++l.take i) q x=0
 |[],_,_,_,i,x,hx=>by simp at hx
 |y::r,pre,last,h,0,x,hx=>by
  simp only[List.getElem?_cons_zero,vk] at hx;subst hx;unfold elsE at h;by_cases h0:elmE fs pre last y≠0
  .exact zc7
  exact⟨last,by rw[List.take_zero,xd];omega⟩
 |y::r,pre,last,h,i+1,x,hx=>by
  unfold elsE at h;by_cases h0:elmE fs pre last y≠0
  .exact zc7
  rw[vd h0] at h;obtain⟨q,hq⟩:=ji8 r (pre++[y]) (some y) h i x zfi;exact⟨q,by rw[List.take_succ_cons,List.append_cons];exact hq⟩
theorem jsd{c:Prop}[Decidable c]{a b:Int}(ha:a≠0)(hb:b≠0):(if c then a else b)≠0:=by split<;>assumption
theorem jm7{pre:List Elm}{q:Option Elm}(h:elmE fs pre q x=0)(hg:x.gone=true)(hn:n∈x.fls):cj pre n=false:=by
 cases e:cj pre n
 .rfl
 exfalso;have h6:x.gone=true/\x.fls.any (cj pre)=true:=⟨hg,yd.2 ⟨n,hn,e⟩⟩;unfold elmE at h;rw[ve h6] at h;exact jsd dcq (jsd dcq (jsd dcq dcq)) h
theorem jm0{l:List Elm}(hx:x∈l)(hg:x.gone=true)(hn:n∈x.fls):cj l n=true:=by
 unfold cj;rw[yd];exact⟨x,hx,by rw[hg,xar,yd];exact⟨n,hn,vl rfl⟩⟩
theorem jbo{pre l:List Elm}(h:eg fs pre l=0):elsE fs pre none l=0:=by
 unfold eg at h;split at h
 .cases h
 exact h
theorem jyx{α:Type}{l:List α}{x:α}(hx:l[i]?=some x)(h:i<j):x∈l.take j:=xci.2 ⟨i,by rw[yx,ve h];exact hx⟩
theorem OkG.crt1{r:Rgs}(h:OkG r){x y:Crt}(hx:r.crs[i]?=some x)(hy:r.crs[j]?=some y)(hn:n∈x.fls)(hm:n∈y.fls):i=j:=by
 have key:∀ {i j:Nat} {x y:Crt},r.crs[i]?=some x->r.crs[j]?=some y->n∈x.fls->n∈y.fls->¬i<j:=fun {i j x y} hx hy hn hm hij=>by
  have hy':(crtE r)[j]?=some y.el:=by unfold crtE;rw[xe,hy];rfl
  have hx':(crtE r)[i]?=some x.el:=by unfold crtE;rw[xe,hx];rfl
  obtain⟨q,hq⟩:=ji8 _ _ _ (jbo h.crs) j _ hy';have h1:=jm7 hq rfl hm;have hm2:x.el∈selE r++(crtE r).take j:=xdf _ (jyx hx' hij);rw[jm0 hm2 rfl hn] at h1;cases h1
 have:=key hx hy hn hm;have:=key hy hx hm hn;omega
theorem OkG.crt_dep{r:Rgs}(h:OkG r){x:Crt}(hx:x∈r.crs)(hy:y∈r.dps)(hn:y.fil∈x.fls):False:=by
 obtain⟨j,hj⟩:=xm hy;have hy':(depE r)[j]?=some y.el:=by unfold depE;rw[xe,hj];rfl
 obtain⟨q,hq⟩:=ji8 _ _ _ (jbo h.dps) j _ hy';have h1:=jm7 hq rfl (n:=y.fil) (xn.2 rfl);have hm2:x.el∈selE r++crtE r++(depE r).take j:=xd6 _ (xdf _ (by unfold crtE;exact ya.2 ⟨x,hx,rfl⟩));rw[jm0 hm2 rfl hn] at h1;cases h1
theorem OkG.dep1{r:Rgs}(h:OkG r){x:Dep}(hx:r.dps[i]?=some x)(hy:r.dps[j]?=some y)(hn:x.fil=y.fil):i=j:=by
 have key:∀ {i j:Nat} {x y:Dep},r.dps[i]?=some x->r.dps[j]?=some y->x.fil=y.fil->¬i<j:=fun {i j x y} hx hy hn hij=>by
  have hy':(depE r)[j]?=some y.el:=by unfold depE;rw[xe,hy];rfl
  have hx':(depE r)[i]?=some x.el:=by unfold depE;rw[xe,hx];rfl
  obtain⟨q,hq⟩:=ji8 _ _ _ (jbo h.dps) j _ hy';have h1:=jm7 hq rfl (n:=y.fil) (xn.2 rfl);have hm2:x.el∈selE r++crtE r++(depE r).take j:=xdf _ (jyx hx' hij);rw[jm0 hm2 rfl (xn.2 hn.symm)] at h1;cases h1
 have:=key hx hy hn;have:=key hy hx hn.symm;omega
def hasI(n:Int)(l:List Int):Bool:=l.any fun f=>decide (f=n)
theorem jnn: hasI n l=true↔n∈l:=by
 unfold hasI;rw[yd];constructor
 .rintro⟨x,hx,h⟩;have:=xj h;subst this;exact hx
 intro h;exact⟨n,h,vl rfl⟩
def jjg(r:Rgs)(n:Int)(c d:Nat):Int×Int:=match (r.crs.take c).find? fun x=>hasI n x.fls with
 |some x=>(x.day,1)
 |none=>match (r.dps.take d).find? fun x=>decide (x.fil=n) with
  |some x=>(x.day,2)
  |none=>(0,0)
theorem OkG.gone{r:Rgs}(h:OkG r)(f:Fil):(∃t,jjg r f.id r.crs.length r.dps.length=(t,1)/\∀d,gone1 r f d=decide (t<=d)/\gone2 r f d=false)\/
  (∃t,jjg r f.id r.crs.length r.dps.length=(t,2)/\∀d,gone1 r f d=false/\gone2 r f d=decide (t<=d))\/
  (jjg r f.id r.crs.length r.dps.length=(0,0)/\∀d,gone1 r f d=false/\gone2 r f d=false):=by
 have g1:∀d,gone1 r f d=r.crs.any fun c=>decide (c.day<=d) && hasI f.id c.fls:=fun d=>rfl
 have g2:∀d,gone2 r f d=r.dps.any fun c=>decide (c.day<=d) && decide (c.fil=f.id):=fun d=>by
  unfold gone2 cu;congr 1
  funext c
  simp
 unfold jjg;rw[yk,yk];cases e:r.crs.find? fun x=>hasI f.id x.fls with
 |some x=>
  left;have hx:=xb0 e;have hn:f.id∈x.fls:=jnn.1 (yu (p:=fun x:Crt=>hasI f.id x.fls) e);refine⟨x.day,rfl,fun d=>⟨?_,?_⟩⟩
  .rw[g1];obtain⟨i,hi⟩:=xm hx;by_cases hd:x.day<=d
   .rw[vl hd,yd];exact⟨x,hx,by rw[vl hd,jnn.2 hn];rfl⟩
   rw[vw hd,yf];intro y hy;obtain⟨j,hj⟩:=xm hy;by_cases hm:f.id∈y.fls
   .have:=h.crt1 hi hj hn hm;subst this;rw[hi] at hj;cases hj;rw[vw hd];simp
   have:hasI f.id y.fls=false:=by
    cases e2:hasI f.id y.fls
    .rfl
    exact absurd (jnn.1 e2) hm
   rw[this,yz];simp
  rw[g2,yf];intro y hy;by_cases hm:y.fil=f.id
  .exact absurd (h.crt_dep hx hy (by rw[hm];exact hn)) id
  rw[vw hm,yz];simp
 |none=>
  right
  have hno:∀d,gone1 r f d=false:=fun d=>by
   rw[g1,yf];intro y hy;have:=yq.1 e y hy
   have h2:hasI f.id y.fls=false:=by
    cases e2:hasI f.id y.fls
    .rfl
    exact absurd e2 this
   rw[h2,yz];simp
  cases e3:r.dps.find? fun x=>decide (x.fil=f.id) with
  |some x=>
   left;have hx:=xb0 e3;have hn:x.fil=f.id:=xj (yu (p:=fun x:Dep=>decide (x.fil=f.id)) e3);refine⟨x.day,rfl,fun d=>⟨hno d,?_⟩⟩;rw[g2];obtain⟨i,hi⟩:=xm hx;by_cases hd:x.day<=d
   .rw[vl hd,yd];exact⟨x,hx,by rw[vl hd,vl hn];rfl⟩
   rw[vw hd,yf];intro y hy;obtain⟨j,hj⟩:=xm hy;by_cases hm:y.fil=f.id
   .have:=h.dep1 hi hj (hn.trans hm.symm);subst this;rw[hi] at hj;cases hj;rw[vw hd];simp
   rw[vw hm,yz];simp
  |none=>
   right;refine⟨rfl,fun d=>⟨hno d,?_⟩⟩;rw[g2,yf];intro y hy;have:=yq.1 e3 y hy
   have h2:decide (y.fil=f.id)=false:=by
    cases e2:decide (y.fil=f.id)
    .rfl
    exact absurd e2 this
   rw[h2,yz];simp
theorem OkG.rule{r:Rgs}(h:OkG r){q:Rul}(hq:q∈r.rls):Arc.goodR [q]=true/\1<=q.id/\q.id<=1073741824/\0<=q.yrs/\q.yrs<=200/\1<=q.act/\q.act<=3:=by
 obtain⟨i,hi⟩:=xm hq;have hlt:=(gsi.1 hi).1;have h0:=(ky h.rls).2 i hlt;unfold oz at h0;rw[hi] at h0;simp only at h0;by_cases hb:badR q
 .rw[ve hb] at h0;cases h0
 rw[vd hb] at h0;by_cases hp:lx r.rls i q=true
 .rw[ve hp] at h0;cases h0
 rw[vd hp] at h0
 have hgood:Arc.goodR [q]=true:=by
  unfold Arc.goodR ia;rw[jav smq fun j hj=>?_]
  .rfl
  have hj0:j=0:=by simp at hj;omega
  subst hj0
  show (if badR q then(2:Int) else if lx [q] 0 q=true then 5 else ie q)=0
  rw[vd hb,vd (show ¬lx [q] 0 q=true from fun e=>by cases e)];exact h0
 unfold badR idB at hb;simp only[xbl] at hb;refine⟨hgood,?_⟩;omega
end Go.Arc
namespace Go.Arc
open Go.Ab
variable {r : Rgs}{f : Fil}{d : Int}
end Go.Arc
namespace Go.Arc
open Go.Ab
variable {r:Rgs}{f:Fil}{d:Int}{i:Nat}
def ut(r:Rgs)(x:Hld):Rgs:= { r with hls:=r.hls++[x] }
theorem qgi(os:List Ofc)(ps:List Plan)(l:List Hld)(x:Hld)(f:Fil)(d:Int):bf os ps (l++[x]) f d=bf os ps l f d++(if ga os ps x f d=true then [x.id] else []):=by
 unfold bf;rw[xbj,xz];congr 1;by_cases h:ga os ps x f d=true
 .rw[ve h,xc5,ve h];rfl
 rw[vd h,xc5,vd h];rfl
theorem qvj(l:List Hld)(h:Hld):tb l 0 h=false:=by unfold tb;rw[ve rfl]
theorem qay{l:List Hld}{h q:Hld}(h0:i≠0)(hq:l[i-1]?=some q):tb l i h=decide (h.id<=q.id):=by unfold tb;rw[vd h0,hq]
theorem jzx(l:List Hld)(i:Nat)(d:Int):(cutH l i d).length=l.length:=by
 unfold cutH;split<;>simp
def endE(q:Option Elm):List Elm->Option Elm
 |[]=>q
 |x::l=>endE (some x) l
theorem jxh{fs:List Fil}{x:Elm}: ∀(l pre:List Elm) (q:Option Elm),elsE fs pre q l=0->elmE fs (pre++l) (endE q l) x=0->elsE fs pre q (l++[x])=0
 |[],pre,q,_,h=>by
  rw[xd] at h
  show (if elmE fs pre q x≠0 then elmE fs pre q x else elsE fs (pre++[x]) (some x) [])=0
  have h:elmE fs pre q x=0:=h;rw[vd (fun e=>e h)];rfl
 |y::l,pre,q,h0,h=>by
  unfold elsE at h0;by_cases hy:elmE fs pre q y≠0
  .rw[ve hy] at h0;exact absurd h0 hy
  rw[vd hy] at h0
  show (if elmE fs pre q y≠0 then elmE fs pre q y else elsE fs (pre++[y]) (some y) (l++[x]))=0
  rw[vd hy];exact jxh l (pre++[y]) (some y) h0 (by rw[xb];exact h)
theorem jxf:∀(l:List Elm) (q:Option Elm) (x:Elm),endE q (l++[x])=some x
 |[],_,_=>rfl
 |y::l,_,x=>jxf l (some y) x
theorem qjp(l:List Sel)(r:List Elm)(n:Int):cj (l.map Sel.el++r) n=cj r n:=by
 unfold cj;rw[xcf]
 have:((l.map Sel.el).any fun x=>x.gone && x.fls.any fun f=>decide (f=n))=false:=by
  rw[List.any_map,yf];intro x _
  exact fun hc=>by
   have hc:(false && (x.fls.any fun f=>decide (f=n)))=true:=hc;rw[xau] at hc;cases hc
 rw[this,xav]
def ur(r:Rgs)(i:Nat)(g:Fil):Rgs:= { r with fls:=r.fls.set i g }
theorem juv{f g:Fil}{d:Int}(h:∀s,trig g s d=trig f s d):∀(l:List Rul) (x:Int×Int),fq g d l x=fq f d l x
 |[],x=>rfl
 |q::l,x=>by
  unfold fq;have:dueF g d q=dueF f d q:=by unfold dueF;rw[h]
  rw[this];exact juv h l _
theorem qqj{n:Note}(hd:d<n.rcd):vdt (ur r i (cn f n)) (cn f n) d=vdt r f d:=by
 have ht:∀s,trig (cn f n) s d=trig f s d:=fun s=>qm6 s hd;have e1:au (ur r i (cn f n)) (cn f n) d=au r f d:=rfl;have e2:bf (ur r i (cn f n)).ofs (ur r i (cn f n)).pls (ur r i (cn f n)).hls (cn f n) d=bf r.ofs r.pls r.hls f d:=rfl;have e3:dn (cn f n) d=dn f d:=funext fun q=>by unfold dn;rw[ht]
 have e4:gone1 (ur r i (cn f n)) (cn f n) d=gone1 r f d:=rfl;have e5:gone2 (ur r i (cn f n)) (cn f n) d=gone2 r f d:=rfl;have e6:selB (ur r i (cn f n)) (cn f n) d=selB r f d:=rfl;have e7:state (cn f n) d=state f d:=rfl;have e8:(cn f n).id=f.id:=rfl;have e9:=juv ht (au r f d) (-1,0);unfold vdt;rw[e1,e2,e3,e4,e5,e6,e7,e8];simp only[e9]
theorem qql{x:Hld}(hd:d<x.frm):vdt (ut r x) f d=vdt r f d:=by
 have hc:ga r.ofs r.pls x f d=false:=by
  unfold ga inS;rw[vw omq,xau]
 have e2:bf r.ofs r.pls (r.hls++[x]) f d=bf r.ofs r.pls r.hls f d:=by
  rw[qgi,vd (by rw[hc];decide),xd]
 have e1:au (ut r x) f d=au r f d:=rfl;have e4:gone1 (ut r x) f d=gone1 r f d:=rfl;have e5:gone2 (ut r x) f d=gone2 r f d:=rfl;have e6:selB (ut r x) f d=selB r f d:=rfl;unfold vdt;rw[e1,e4,e5,e6,show bf (ut r x).ofs (ut r x).pls (ut r x).hls f d=bf r.ofs r.pls r.hls f d from e2]
def td(r:Rgs)(s:Sel):Rgs:= { r with sls:=r.sls++[s] }
theorem qv4{s:Sel}(hd:d<s.day):vdt (td r s) f d=vdt r f d:=by
 have hs:selB (td r s) f d=selB r f d:=by
  unfold selB td;simp only;rw[xcf];have:cu d f s.day s.fls=false:=by unfold cu;rw[vw omq,xau]
  simp[this]
 have e1:au (td r s) f d=au r f d:=rfl;have e4:gone1 (td r s) f d=gone1 r f d:=rfl;have e5:gone2 (td r s) f d=gone2 r f d:=rfl;have e2:bf (td r s).ofs (td r s).pls (td r s).hls f d=bf r.ofs r.pls r.hls f d:=rfl;unfold vdt;rw[e1,e2,e4,e5,hs]
structure Gat (ps:List (Int×Bool)) (S:List Int):Prop where
 mem:∀x,x∈qe8 ps↔x∈S
 nd:(qe8 ps).Nodup
 len:ps.length<=S.length
end Go.Arc
namespace Go.Arc
open Go.Ab
variable {r : Rgs}{f : Fil}{d e a : Int}
theorem Runs.len{K:Int->Int}{b:Int}: ∀ {l:List Pce} {a:Int},Runs K b a l->a+l.length<=b
 |[],a,h=>by have:a=b:=h;simp;omega
 |p::l,a,h=>by
  have:=h.2.2.2.2.len;have:=h.2.1;simp only[List.length_cons];omega
end Go.Arc
namespace Go.Arc
open Go.Ab
structure Stp where
 kind:Int
 num:Int
 fst:Int
 lst:Int
 txt:Str
 deriving DecidableEq
abbrev Stp.cs(s:Stp):List V:=[vi s.kind,vi s.num,vi s.fst,vi s.lst,.str s.txt]
end Go.Arc
namespace Go.Arc
open Go.Ab
variable {r : Rgs}{f : Fil}{d : Int}
theorem jhr:(d<f.opn/\(vdt r f d).kind=0)\/(¬d<f.opn/\gone1 r f d=true/\(vdt r f d).kind=1)\/(¬d<f.opn/\gone1 r f d=false/\gone2 r f d=true/\(vdt r f d).kind=2)\/
  (¬d<f.opn/\gone1 r f d=false/\gone2 r f d=false/\((vdt r f d).kind=0\/(vdt r f d).kind=3\/(vdt r f d).kind=4\/
   ((vdt r f d).kind=5/\(vdt r f d).hls=[]/\∃q∈au r f d,dn f d q=true)\/
   ((∀q∈au r f d,dn f d q=false)/\((vdt r f d).kind=6\/(vdt r f d).kind=7\/(vdt r f d).kind=8\/(vdt r f d).kind=9)))):=by
 have hs:state f d=0↔d<f.opn:=by
  unfold Arc.state;by_cases h1:d<f.opn
  .simp[h1]
  by_cases h2:d<f.cld<;>simp[h1,h2]
 by_cases h0:d<f.opn
 .exact .inl ⟨h0,by simp only[vdt];rw[ve (hs.2 h0)]⟩
 refine .inr ?_;have h0':¬state f d=0:=fun e=>h0 (hs.1 e);cases h1:gone1 r f d with
 |true=>exact .inl ⟨h0,rfl,by simp only[vdt];rw[vd h0',ve h1]⟩
 |false=>
  refine .inr ?_;have h1':¬gone1 r f d=true:=by rw[h1];exact Bool.false_ne_true
  cases h2:gone2 r f d with
  |true=>exact .inl ⟨h0,rfl,rfl,by simp only[vdt];rw[vd h0',vd h1',ve h2]⟩
  |false=>
   refine .inr ⟨h0,rfl,rfl,?_⟩;have h2':¬gone2 r f d=true:=by rw[h2];exact Bool.false_ne_true
   simp only[vdt];rw[vd h0',vd h1',vd h2'];by_cases h3:au r f d=[]
   .rw[ve h3];exact .inl rfl
   rw[vd h3];by_cases h4:state f d=1
   .rw[ve h4];exact .inr (.inl rfl)
   rw[vd h4];cases h5:(au r f d).find? jy with
   |some q=>exact .inr (.inr (.inl rfl))
   |none=>
    cases h6:(au r f d).find? (dn f d) with
    |some q=>exact .inr (.inr (.inr (.inl ⟨rfl,rfl,q,xb0 h6,yu (p:=dn f d) h6⟩)))
    |none=>
     refine .inr (.inr (.inr (.inr ⟨fun q hq=>eq_false_of_ne_true (yq.1 h6 q hq),?_⟩)))
     dsimp only
     by_cases h7:d<=(fq f d (au r f d) (-1,0)).1
     .rw[ve h7];exact .inl rfl
     rw[vd h7];by_cases h8:bf r.ofs r.pls r.hls f d≠[]
     .rw[ve h8];exact .inr (.inl rfl)
     rw[vd h8];by_cases h9:(au r f d).any ni=true\/selB r f d=true
     .rw[ve h9];exact .inr (.inr (.inr rfl))
     rw[vd h9];exact .inr (.inr (.inl rfl))
end Go.Arc
namespace Go.Arc
open Go.Ab
variable {r:Rgs}
abbrev decS(n:Int):Str:=Lib.itoa n
theorem qxq{n:Int}(h:¬n<0):decS n=Lib.decDigits n.toNat:=vd h
theorem ee{α:Type}(p:α->Bool)(l:List α):(ix p l= -1/\l.find? p=none)\/∃(k:Nat) (q:α),ix p l=k/\k<l.length/\l[k]?=some q/\q∈l/\l.find? p=some q:=by
 unfold ix;cases h:l.findIdx? p with
 |none=>
  left;rw[xcl] at h;exact⟨rfl,yq.2 fun x hx=>by simp[h x hx]⟩
 |some k=>
  right;obtain⟨hk,h1,h2⟩:=xbb.1 h;exact⟨k,l[k],rfl,hk,gge hk,xbo hk,List.find?_eq_some_iff_getElem.2 ⟨h1,k,hk,rfl,fun j hj=>by simpa using h2 j hj⟩⟩
def askE(r:Rgs)(id:Int):Int:=if checkG r≠0 then 1 else if az r.fls id<0 then 7 else 0
theorem xae{id:Int}(h:checkG r≠0):askE r id=1:=ve h
theorem xad{id:Int}(h:checkG r=0)(h2:az r.fls id<0):askE r id=7:=by unfold askE;rw[vd (fun e=>e h),ve h2]
theorem qds{id:Int}(h:checkG r=0)(h2:¬az r.fls id<0):askE r id=0:=by unfold askE;rw[vd (fun e=>e h),vd h2]
def filA(r:Rgs)(id:Int):Fil:=match r.fls.find? (ci id) with
 |some f=>f
 |none=>⟨0,0,0,0,[],[],0,[]⟩
theorem jeo{id:Int}(h:¬az r.fls id<0):∃k:Nat,az r.fls id=k/\k<r.fls.length/\r.fls[k]?=some (filA r id)/\filA r id∈r.fls/\(filA r id).id=id:=by
 rcases ee (ci id) r.fls with⟨h1,-⟩|⟨k,q,h1,h2,h3,h4,h5⟩
 .exact absurd (show az r.fls id<0 by unfold az;rw[h1];decide) h
 have he:filA r id=q:=by unfold filA;rw[h5]
 rw[he];exact⟨k,h1,h2,h3,h4,xj (p:=q.id=id) (show ci id q=true from yu (p:=ci id) h5)⟩
def onE(r:Rgs)(id d:Int):Int:=if askE r id≠0 then askE r id else if dayG d=false then 2 else 0
def vdtZ:Vdt:=⟨0,0,0,0,0,[]⟩
def onV(r:Rgs)(id d:Int):Vdt:=if onE r id d=0 then vdt r (filA r id) d else vdtZ
theorem qs7(h:r.Fit){id:Int}(h2:¬az r.fls id<0):(filA r id).Fit:=by
 obtain⟨k,-,-,-,hm,-⟩:=jeo h2;exact h.fls.2 _ hm
theorem qdr{id:Int}(h:askE r id=0):checkG r=0/\¬az r.fls id<0:=by
 unfold askE at h;split at h
 .cases h
 rename_i h1;split at h
 .cases h
 exact⟨omq,by assumption⟩
def xorU(a b:Int):Int:=bitF .xor .u64 a b
def andU(a b:Int):Int:=bitF .and .u64 a b
def orU(a b:Int):Int:=bitF .or .u64 a b
def notU(a:Int):Int:=notF .u64 a
def rotU(x n:Int):Int:=orU (shF true .u64 x n) (shF false .u64 x (64-n))
def atU(l:List Int)(i:Nat):Int:=l.getD i 0
def rotL:List Int:=[0,1,62,28,27,36,44,6,55,20,3,10,43,25,39,41,45,15,21,8,18,2,61,56,14]
def conL:List Int:=[1,32898,9223372036854808714,9223372039002292224,32907,2147483649,9223372039002292353,9223372036854808585,138,136,2147516425,2147483658,2147516555,9223372036854775947,9223372036854808713,9223372036854808579,9223372036854808578,9223372036854775936,32778,9223372039002259466,9223372039002292353,9223372036854808704,2147483649,9223372039002292232]
def iz(a:List Int)(k:Nat):List Int:=(List.range k).foldl (fun s i=>s.set (i % 5) (xorU (atU s (i % 5)) (atU a i))) (List.replicate 5 0)
def jja(a:List Int)(i:Nat):Int:=xorU (xorU (atU a i) (atU (iz a 25) ((i+4) % 5))) (rotU (atU (iz a 25) ((i+1) % 5)) 1)
def posF(i:Nat):Nat:=i / 5+5*((2*(i % 5)+3*(i / 5)) % 5)
def layF(g:Nat->Nat)(p:Nat->Nat)(v:Nat->Int)(k:Nat)(b:List Int):List Int:=(List.range k).foldl (fun b j=>b.set (p (g j)) (v (g j))) b
def tr5(j:Nat):Nat:=j / 5+5*(j % 5)
def bF(a:List Int):List Int:=layF id posF (fun i=>rotU (jja a i) (atU rotL i)) 25 (List.replicate 25 0)
def chiF(b:List Int)(i:Nat):Int:=xorU (atU b i) (andU (notU (atU b ((i % 5+1) % 5+5*(i / 5)))) (atU b ((i % 5+2) % 5+5*(i / 5))))
def outF(b:List Int):List Int:=layF id id (chiF b) 25 (List.replicate 25 0)
def qp(a:List Int)(c:Int):List Int:=(outF (bF a)).set 0 (xorU (atU (outF (bF a)) 0) c)
def tc(a:List Int):List Int:=conL.foldl qp a
def eatF(s:List Int)(d:Str)(k:Nat):List Int:=(List.range k).foldl (fun s i=>s.set (i / 8) (xorU (atU s (i / 8)) (shF true .u64 ((d.getD i 0).toNat:Int) (8*((i % 8:Nat):Int))))) s
def gb(s:List Int)(d:Str):List Int:=tc (eatF s d 136)
attribute [irreducible] tc gb
def absF:Nat->List Int->Str->List Int×Str
 |0,s,d=>(s,d)
 |n+1,s,d=>if 136<=d.length then absF n (gb s (d.take 136)) (d.drop 136) else(s,d)
def orB(b:UInt8):UInt8:=UInt8.ofNat (bitF .or .u8 (b.toNat:Int) 128).toNat
def jfp(l:Str):Str:=l.set (l.length-1) (orB (l.getD (l.length-1) 0))
def padF(d:Str):Str:=jfp (d++6::List.replicate (135-d.length) 0)
def digF(s:List Int)(k:Nat):Str:=(List.range k).map fun i=>UInt8.ofNat (IntKind.wrap .u8 (shF false .u64 (atU s (i / 8)) (8*((i % 8:Nat):Int)))).toNat
def du:List Int:=List.replicate 25 0
def sumD(d:Str):Str:=digF (gb (absF d.length du d).1 (padF (absF d.length du d).2)) 32
theorem jmr(d:Str):(sumD d).length=32:=by
 unfold sumD digF;rw[vm,List.length_range]
theorem qah:∀(n:Nat) (s:List Int) (d:Str),d.length<=n->(absF n s d).2.length<136
 |0,s,d,h=>by
  show d.length<136
  omega
 |n+1,s,d,h=>by
  unfold absF;by_cases h1:136<=d.length
  .rw[ve h1];exact qah n _ _ (by rw[xw];omega)
  rw[vd h1]
  show d.length<136
  omega
theorem jng(g p:Nat->Nat)(v:Nat->Int)(k:Nat)(b:List Int):(layF g p v k b).length=b.length:=by
 unfold layF
 induction List.range k generalizing b with
 |nil=>rfl
 |cons j l ih=>rw[List.foldl_cons,ih,yc]
theorem jwr(g p:Nat->Nat)(v:Nat->Int)(k:Nat)(b:List Int):layF g p v (k+1) b=(layF g p v k b).set (p (g k)) (v (g k)):=by
 unfold layF;exact zef
theorem jub(a:List Int)(k:Nat):iz a (k+1)=(iz a k).set (k % 5) (xorU (atU (iz a k) (k % 5)) (atU a k)):=by
 unfold iz;exact zef
theorem jw7(a:List Int)(k:Nat):(iz a k).length=5:=by
 induction k with
 |zero=>rfl
 |succ k ih=>rw[jub,yc,ih]
theorem jxj(s:List Int)(d:Str)(k:Nat):eatF s d (k+1)=(eatF s d k).set (k / 8) (xorU (atU (eatF s d k) (k / 8)) (shF true .u64 ((d.getD k 0).toNat:Int) (8*((k % 8:Nat):Int)))):=by
 unfold eatF;exact zef
theorem jzk(s:List Int)(d:Str)(k:Nat):(eatF s d k).length=s.length:=by
 induction k with
 |zero=>rfl
 |succ k ih=>rw[jxj,yc,ih]
theorem jul(a:List Int)(c:Int):(qp a c).length=25:=by
 rw[qp,yc,outF,jng,List.length_replicate]
theorem jm2:∀(l:List Int) (a:List Int),a.length=25->(l.foldl qp a).length=25
 |[],a,h=>h
 |c::l,a,_=>by
  have hr:=jul a c;rw[List.foldl_cons];exact jm2 l (qp a c) hr
theorem qmn(a:List Int)(h:a.length=25):(tc a).length=25:=by
 rw[tc];exact jm2 conL a h
theorem jh7(s:List Int)(d:Str)(h:s.length=25):(gb s d).length=25:=by
 have he:(eatF s d 136).length=25:=(jzk s d 136).trans h;rw[gb];exact qmn (eatF s d 136) he
theorem jml:∀(n:Nat) (s:List Int) (d:Str),s.length=25->(absF n s d).1.length=25
 |0,s,d,h=>h
 |n+1,s,d,h=>by
  have hb:=jh7 s (d.take 136) h;rw[absF];by_cases h1:136<=d.length
  .rw[ve h1];exact jml n (gb s (d.take 136)) (d.drop 136) hb
  rw[vd h1];exact h
theorem qre(d:Str)(h:d.length<136):(padF d).length=136:=by
 unfold padF jfp;rw[yc,vr,List.length_cons,List.length_replicate];omega
def qee:List Stp->List Stp->Option Nat
  |[],[]=>none
  |a::l,b::x=>if a=b then(qee l x).map (· + 1) else some 0
  |[],_::_=>some 0
  |_::_,[]=>some 0
def jsh(l x:List Stp):Int:=match qee l x with
 |some i=>i
 |none=> -1
def jjl(s:Str):Prop:=∀c∈s,32<=c.toNat
theorem jjl.app{s t:Str}(h:jjl s)(g:jjl t):jjl (s++t):=fun c hc=>(xbu.1 hc).elim (h c) (g c)
end Go.Arc
namespace Go.Arc
open Go.Ab
variable {r : Rgs}{f : Fil}{d : Int}
structure FactS (r:Rgs) (f:Fil) (d:Int) (s:Stp):Prop where
 opn:s.kind=8->s.fst=f.opn/\s.lst=f.cld
 cls:s.kind=1->s.txt=(bd r.pls f d).1/\((bd r.pls f d).2=0↔0<s.num)
 trg:s.kind=3->∃(i:Nat) (q:Rul),gt r.rls s.num=i/\r.rls[i]?=some q/\trig f q.trg d=some (s.fst,s.lst)
 due:s.kind=4->∃(i:Nat) (q:Rul) (t:Int×Int),gt r.rls s.num=i/\r.rls[i]?=some q/\trig f q.trg d=some t/\dueR q t.1 t.2=some s.lst
 sel:s.kind=5->∃c∈r.sls,c.smp=s.num/\c.day=s.fst/\cu d f c.day c.fls=true
end Go.Arc
