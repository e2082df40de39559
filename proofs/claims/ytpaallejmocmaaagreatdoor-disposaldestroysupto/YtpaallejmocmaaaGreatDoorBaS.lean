/- A part of this claim. -/
import Derived.Test.YtpaallejmocmaaaGreatDoorBaN
import Derived.KernelRfl
import Derived.Test.YtpaallejmocmaaaGreatDoorBaD
import Derived.Lib.ItoaNum
namespace Go.Arc
open Go.Ab
variable {l:List Ofc}{o:Ofc}{d:Int}{n:Int}
def jl(l:List Ofc)(d:Int)(o:Ofc):Option Ofc:=if inS o.frm o.til d=true then none else match o.nxt with
 |[]=>none
 |x::_=>ar l x
def chainF(l:List Ofc)(d:Int):Nat->Ofc->List Int
 |0,o=>[o.id]
 |n+1,o=>match jl l d o with
  |none=>[o.id]
  |some q=>o.id::chainF l d n q
def chain(l:List Ofc)(n d:Int):List Int:=if dy l=false then [] else match ar l n with
 |none=>[]
 |some o=>chainF l d 1048577 o
theorem qln(h:dy l=true):l.length<=32/\∀i,i<l.length->fv l i=0:=by
 have h0:(fy l).2=0:=by simpa [dy] using h
 obtain⟨h1,h2⟩:=om h0;exact⟨omq,h2⟩
theorem qgb{i:Nat}(ho:l[i]?=some o)(h:fv l i=0):¬badO o/\name o.name=true/\dw l o=0/\∀q,i≠0->l[i-1]?=some q->q.id<o.id:=by
 by_cases h1:badO o
 .rw[ry ho h1] at h;cases h
 cases hn:name o.name
 .rw[jmo ho h1 hn] at h;cases h
 by_cases h0:i=0
 .subst h0;rw[jl5 ho h1 hn] at h;exact⟨h1,rfl,h,fun q hne=>absurd rfl hne⟩
 have hlt:=(gsi.1 ho).1;obtain⟨q,hq,-,-⟩:=ac (l:=l) (k:=i-1) omq;by_cases hle:o.id<=q.id
 .rw[jmn ho h1 hn h0 hq hle] at h;cases h
 rw[jmm ho h1 hn h0 hq hle] at h;refine⟨h1,rfl,h,fun q' _ hq'=>?_⟩;rw[hq] at hq';cases hq';omega
theorem qfa(h:dw l o=0):∀n∈o.nxt,∃q,ar l n=some q/\q.frm=o.til:=by
 unfold dw at h;split at h
 .cases h
 split at h
 .cases h
 split at h
 .cases h
 rename_i h1 h2 h3;intro n hn;have h2':(o.nxt.any fun n=>(ar l n).isNone)=false:=by simpa using h2
 have h3':(o.nxt.any fun n=> !decide (frmO l n=o.til))=false:=by simpa using h3
 have g2:=vn.1 h2' n hn;have g3:=vn.1 h3' n hn;cases e:ar l n with
 |none=>rw[e] at g2;simp at g2
 |some q=>
  refine⟨q,rfl,?_⟩;have:frmO l n=q.frm:=by unfold frmO;rw[e]
  rw[this] at g3;simpa using g3
theorem ed(h:ar l n=some o):∃i:Nat,l[i]?=some o:=xc (qv5 h)
theorem jga(h:dy l=true)(ho:ar l n=some o):0<=o.frm/\o.frm<o.til/\o.til<=1048576/\∀n∈o.nxt,∃q,ar l n=some q/\q.frm=o.til:=by
 obtain⟨i,hi⟩:=ed ho;have hlt:=(gsi.1 hi).1;obtain⟨h1,-,h2,-⟩:=qgb hi ((qln h).2 i hlt)
 have hg:bm o.frm o.til=true:=by
  cases e:bm o.frm o.til
  .exact absurd (.inr (.inr (.inl e))) h1
  rfl
 simp[bm] at hg;exact⟨hg.1,hg.2.1,hg.2.2,qfa h2⟩
theorem jxb(h:dy l=false):chain l n d=[]:=by unfold chain;rw[um h]
theorem juz(h:ar l n=none):chain l n d=[]:=by
 unfold chain;split
 .rfl
 rw[h]
theorem juy(h:dy l=true)(ho:ar l n=some o):chain l n d=chainF l d 1048577 o:=by
 unfold chain;rw[ul (by simp[h]),ho]
theorem jgl(n:Nat)(h:jl l d o=none):chainF l d n o=[o.id]:=by
 cases n with
 |zero=>rfl
 |succ n=>simp only[chainF,h]
theorem jte{q:Ofc}(n:Nat)(h:jl l d o=some q):chainF l d (n+1) o=o.id::chainF l d n q:=by simp only[chainF,h]
theorem jy7(h:inS o.frm o.til d=true):jl l d o=none:=by unfold jl;rw[um h]
theorem jvt(h:o.nxt=[]):jl l d o=none:=by unfold jl;rw[h];split<;>rfl
theorem ju1{x:Int}{r:List Int}(h:inS o.frm o.til d=false)(h':o.nxt=x::r):jl l d o=ar l x:=by
 unfold jl;rw[ul (by simp[h]),h']
theorem jv0(l:List Ofc)(d:Int):∀(n:Nat) (o:Ofc),(chainF l d n o).length<=n+1
 |0,_=>by simp[chainF]
 |n+1,o=>by
  simp only[chainF];split
  .simp
  have:=jv0 l d n ‹_›;simp only[List.length_cons];omega
structure Hld where
 id:Int
 kind:Int
 obj:Int
 cls:Str
 why:Str
 frm:Int
 til:Int
 deriving DecidableEq
abbrev Hld.cs(h:Hld):List V:=[vi h.id,vi h.kind,vi h.obj,.str h.cls,.str h.why,vi h.frm,vi h.til]
abbrev hlds(l:List Hld):V:=.slice 7 (l.map Hld.cs)
def Hld.Fit(h:Hld):Prop:=h.cls.length<=1048576/\h.why.length<=1048576
def uj(l:List Hld):Prop:=l.length<=1048576/\∀h∈l,h.Fit
def idB(n:Int):Bool:=decide (1<=n/\n<=1073741824)
def ga(h:Hld):Int:=if h.kind≠3 then(if idB h.obj=false\/h.cls≠[] then 1 else 0) else if h.obj≠0 then 1 else if(ak h.cls).isNone=true then 3 else 0
def badH(h:Hld):Prop:=idB h.id=false\/h.kind<1\/3<h.kind\/bm h.frm h.til=false
instance (h:Hld):Decidable (badH h):=inferInstanceAs (Decidable (_\/_))
def uc(l:List Hld)(i:Nat)(h:Hld):Bool:=match (if i=0 then none else l[i-1]?) with|some q=>decide (h.id<=q.id)|none=>false
def lz(l:List Hld)(i:Nat):Int:=match l[i]? with
 |none=>0
 |some h=>if badH h then 2 else if uc l i h=true then 5 else if ga h≠0 then ga h else if name h.why=false then 4 else 0
def ji(l:List Hld):Int×Int:=chk 64 l.length (lz l)
def pj(os:List Ofc)(ps:List Plan)(h:Hld)(f:Fil)(d:Int):Bool:=
 if h.kind=1 then decide (h.obj=f.id) else if h.kind=2 then(chain os f.ofc d).any (fun y=>decide (h.obj=y)) else
 if h.kind=3 then decide ((bu ps f d).2=0) && bx (bu ps f d).1 h.cls else false
def pb(os:List Ofc)(ps:List Plan)(h:Hld)(f:Fil)(d:Int):Bool:=inS h.frm h.til d && pj os ps h f d
def cg(os:List Ofc)(ps:List Plan)(l:List Hld)(f:Fil)(d:Int):List Int:=(l.filter fun h=>pb os ps h f d).map (·.id)
end Go.Arc
namespace Go.Arc
variable {d:Nat}
def bgn(n:Nat):Nat:=365*n+(n+3) / 4+(n+399) / 400-(n+99) / 100
def az(n:Nat):Bool:=decide (n % 4=0) && (decide (n % 100≠0) || decide (n % 400=0))
theorem jnr(n k:Nat)(hk:0<k):(n+1+(k-1)) / k=(n+(k-1)) / k+(if n % k=0 then 1 else 0):=by
 have e:n+1+(k-1)=n+k:=omq;rw[e,Nat.add_div_right _ hk];have hd:=qw1 n k;have hm:=Nat.mod_lt n hk;generalize hq:n / k=q at hd;generalize hr:n % k=r at hd hm;by_cases h0:r=0
 .subst h0;have:n+(k-1)=(k-1)+k*q:=omq;rw[um rfl,this,Nat.add_mul_div_left _ _ hk,qwy omq];omega
 have:n+(k-1)=(r-1)+k*(q+1):=by rw[Nat.mul_add];omega
 rw[ul h0,this,Nat.add_mul_div_left _ _ hk,qwy omq];omega
theorem jho(n:Nat):bgn (n+1)=bgn n+365+(if az n=true then 1 else 0):=by
 have a4:=jnr n 4 dcq;have a100:=jnr n 100 dcq;have a400:=jnr n 400 dcq;have h1:(n+99) / 100<=n:=omq;have k1:n % 400=0->n % 100=0:=omq;have k2:n % 100=0->n % 4=0:=omq;simp only[Nat.reduceSub] at a4 a100 a400;unfold bgn az;rw[a4,a100,a400];generalize (n+3) / 4=x at *;generalize (n+99) / 100=y at *;generalize (n+399) / 400=z at *;by_cases c:n % 400=0
 .have b:=k1 c;have a:=k2 b;simp[a,b,c];omega
 by_cases b:n % 100=0
 .have a:=k2 b;simp[a,b,c];omega
 by_cases a:n % 4=0
 .simp[a,b,c];omega
 simp[a,b,c];omega
theorem qcv(n:Nat):bgn n<bgn (n+1):=by rw[jho];omega
theorem jn6{a b:Nat}(h:a<=b):bgn a<=bgn b:=by
  induction b with
  | zero => have : a = 0 := omq
            subst this;exact uv _
  | succ b ih=>
    by_cases e:a=b+1
    . subst e;exact uv _
    have:=qcv b;have:=ih omq;omega
theorem pd(n:Nat):bgn n<=366*n:=by
 induction n with
 |zero=>decide
 |succ n ih=>rw[jho];split<;>omega
theorem qcw(n:Nat):365*n<=bgn n:=by
 have h1:(n+99) / 100<=(n+3) / 4+(n+399) / 400:=omq;unfold bgn;omega
def yrF:Nat->Nat->Nat->Nat
 |0,n,_=>n
 |k+1,n,d=>if d<bgn (n+1) then n else yrF k (n+1) d
def yr(d:Nat):Nat:=yrF (d+1) 0 d
theorem qc3{d m:Nat}(h1:bgn m<=d)(h2:d<bgn (m+1)):∀(k n:Nat),n<=m->m<=n+k->yrF k n d=m
 |0,n,a,b=>by simp only[yrF];omega
 |k+1,n,a,b=>by
  simp only[yrF];split
  .rename_i h;rcases vo n m with hlt|hge
   .have:=jn6 (show n+1<=m by omega);omega
   omega
  rename_i h;rcases vo n m with hlt|hge
  .exact qc3 h1 h2 k (n+1) omq omq
  have:n=m:=omq;subst this;omega
theorem jqm{m:Nat}(h1:bgn m<=d)(h2:d<bgn (m+1)):yr d=m:=qc3 h1 h2 _ 0 (uq _) (by have:=qcw m;omega)
theorem jnp(d:Nat):bgn (yr d)<=d/\d<bgn (yr d+1):=by
 have:∃m,bgn m<=d/\d<bgn (m+1):=by
  induction d with
  |zero=>exact⟨0,dcq,dcq⟩
  |succ d ih=>
   obtain⟨m,h1,h2⟩:=ih;by_cases h:d+1<bgn (m+1)
   .exact⟨m,omq,h⟩
   exact⟨m+1,omq,by have:=qcv (m+1);omega⟩
 obtain⟨m,h1,h2⟩:=this;rw[jqm h1 h2];exact⟨h1,h2⟩
def qd7:List Nat:=[31,28,31,30,31,30,31,31,30,31,30,31]
def lenM(l:Bool)(m:Nat):Nat:=if m=2/\l=true then 29 else(qd7[m-1]?).getD 0
def sumM(l:Bool):Nat->Nat
 |0=>0
 |m+1=>if m=0 then 0 else sumM l m+lenM l m
theorem qri(l:Bool):sumM l 13=365+(if l=true then 1 else 0):=by cases l<;>decide
def monF(l:Bool):Nat->Nat->Nat->Nat×Nat
 |0,m,d=>(m,d)
 |k+1,m,d=>if d<lenM l m then(m,d) else monF l k (m+1) (d-lenM l m)
def mon(l:Bool)(d:Nat):Nat×Nat:=monF l 12 1 d
def date (d:Nat):Nat×Nat×Nat:=(yr d,(mon (az (yr d)) (d-bgn (yr d))).1,(mon (az (yr d)) (d-bgn (yr d))).2)
theorem jvu(l:Bool):∀(k m d:Nat),1<=m->m+k=13->d<sumM l 13-sumM l m->1<=(monF l k m d).1/\(monF l k m d).1<=12/\(monF l k m d).2<lenM l (monF l k m d).1/\d+sumM l m=(monF l k m d).2+sumM l (monF l k m d).1
 |0,m,d,_,hk,hd=>by
  have:m=13:=omq;subst this;omega
 |k+1,m,d,h1,hk,hd=>by
  simp only[monF];split
  .rename_i h;exact⟨h1,(by omega:m<=12),h,rfl⟩
  rename_i h;have hs:sumM l (m+1)=sumM l m+lenM l m:=by simp only[sumM];rw[ul omq]
  obtain⟨a,b,c,e⟩:=jvu l k (m+1) (d-lenM l m) omq omq omq;exact⟨a,b,c,omq⟩
theorem jma{l:Bool}(h:d<sumM l 13):1<=(mon l d).1/\(mon l d).1<=12/\(mon l d).2<lenM l (mon l d).1/\d=(mon l d).2+sumM l (mon l d).1:=by
 have:=jvu l 12 1 d (uv _) rfl (by simpa [sumM] using h);simpa [mon,sumM] using this
theorem joj(d:Nat):d-bgn (yr d)<sumM (az (yr d)) 13:=by
 obtain⟨h1,h2⟩:=jnp d;rw[qri];rw[jho] at h2;omega
def yearsN(d n:Nat):Nat:=
 let x:=date d
 if 2870<x.1+n then 1048575 else min (bgn (x.1+n)+sumM (az (x.1+n)) x.2.1+min (x.2.2+1) (lenM (az (x.1+n)) x.2.1)-1) 1048575
def yearEndN(d:Nat):Nat:=min (bgn (yr d+1)-1) 1048575
end Go.Arc
namespace Go.Arc
open Go.Ab
structure Rul where
 id:Int
 cls:Str
 trg:Str
 yrs:Int
 yend:Bool
 act:Int
 frm:Int
 til:Int
abbrev Rul.cs(r:Rul):List V:=[vi r.id,.str r.cls,.str r.trg,vi r.yrs,vb r.yend,vi r.act,vi r.frm,vi r.til]
abbrev ruls(l:List Rul):V:=.slice 8 (l.map Rul.cs)
def Rul.Fit(r:Rul):Prop:=r.cls.length<=1048576/\r.trg.length<=1048576
def rn(l:List Rul):Prop:=l.length<=1048576/\∀r∈l,r.Fit
def badR(r:Rul):Prop:=idB r.id=false\/r.yrs<0\/200<r.yrs\/r.act<1\/3<r.act\/bm r.frm r.til=false
instance (r:Rul):Decidable (badR r):=inferInstanceAs (Decidable (_\/_))
def mf(l:List Rul)(i:Nat)(r:Rul):Bool:=match (if i=0 then none else l[i-1]?) with|some q=>decide (r.id<=q.id)|none=>false
def fa(s:Str):Bool:=s.any fun b=>b == 34
def ie(r:Rul):Int:=
 if(ak r.cls).isNone=true then 3 else if name r.trg=false\/fa r.trg=true then 4 else
 if r.act=3/\(r.trg≠ot\/r.yrs≠0\/r.yend=true) then 1 else 0
def jh(l:List Rul)(i:Nat):Int:=match l[i]? with
 |none=>0
 |some r=>if badR r then 2 else if mf l i r=true then 5 else ie r
def fh(l:List Rul):Int×Int:=chk 64 l.length (jh l)
def goodR(l:List Rul):Bool:=(fh l).2 == 0
def pq(n:Int)(r:Rul):Bool:=decide (r.id=n)
def jcr(l:List Rul)(n:Int):Int:=ix (pq n) l
def bf(s:Str):Nat:=match ak s with|some l=>l.length|none=>0
def appB(s:Str)(d:Int)(r:Rul):Bool:=inS r.frm r.til d && bx s r.cls
def ba(l:List Rul)(s:Str)(d:Int):Nat:=(l.filter (appB s d)).foldl (fun m r=>max m (bf r.cls)) 0
def dp(l:List Rul)(s:Str)(d:Int):List Int:=(l.filter fun r=>appB s d r && (bf r.cls == ba l s d)).map (·.id)
def datB(a b:Int):Bool:=decide (0<=a) && decide (a<=b) && decide (b<=1048575)
def dueR(r:Rul)(a b:Int):Option Int:=if goodR [r]=true/\datB a b=true then
  some ((if r.yend=true then yearEndN (yearsN b.toNat r.yrs.toNat) else yearsN b.toNat r.yrs.toNat:Nat):Int) else none
abbrev dueV(r:Rul)(a b:Int):V:=match dueR r a b with
 |some d=>.tup [vi d,vi 0]
 |none=>.tup [vi 0,vi 1]
structure Clk where
 id:Int
 role:Int
 name:Str
 frm:Int
 til:Int
structure Sel where
 smp:Int
 day:Int
 fls:List Int
structure Prp where
 id:Int
 day:Int
 clk:Int
 fls:List Int
 wdr:Int
structure Apv where
 prp:Int
 day:Int
 clk:Int
structure Crt where
 num:Int
 prp:Int
 day:Int
 fls:List Int
 bef:Str
 dig:Str
structure Dep where
 fil:Int
 day:Int
abbrev Clk.cs(c:Clk):List V:=[vi c.id,vi c.role,.str c.name,vi c.frm,vi c.til]
abbrev Sel.cs(s:Sel):List V:=[vi s.smp,vi s.day,ints s.fls]
abbrev Prp.cs(p:Prp):List V:=[vi p.id,vi p.day,vi p.clk,ints p.fls,vi p.wdr]
abbrev Apv.cs(a:Apv):List V:=[vi a.prp,vi a.day,vi a.clk]
abbrev Crt.cs(c:Crt):List V:=[vi c.num,vi c.prp,vi c.day,ints c.fls,.str c.bef,.str c.dig]
abbrev Dep.cs(d:Dep):List V:=[vi d.fil,vi d.day]
abbrev clks(l:List Clk):V:=.slice 5 (l.map Clk.cs)
abbrev sels(l:List Sel):V:=.slice 3 (l.map Sel.cs)
abbrev prps(l:List Prp):V:=.slice 5 (l.map Prp.cs)
abbrev apvs(l:List Apv):V:=.slice 3 (l.map Apv.cs)
abbrev crts(l:List Crt):V:=.slice 6 (l.map Crt.cs)
abbrev deps(l:List Dep):V:=.slice 2 (l.map Dep.cs)
structure Rgs where
 ofs:List Ofc
 pls:List Plan
 fls:List Fil
 rls:List Rul
 hls:List Hld
 cks:List Clk
 sls:List Sel
 pps:List Prp
 aps:List Apv
 crs:List Crt
 dps:List Dep
 chg:Int
abbrev Rgs.cs(r:Rgs):List V:=[ofcs r.ofs,ay r.pls,fils r.fls,ruls r.rls,hlds r.hls,clks r.cks,sels r.sls,prps r.pps,apvs r.aps,crts r.crs,deps r.dps,vi r.chg]
structure Rgs.Fit (r:Rgs):Prop where
 ofs:gq r.ofs
 pls:Fits r.pls
 fls:jb9 r.fls
 rls:rn r.rls
 hls:uj r.hls
 cks:r.cks.length<=1048576/\∀c∈r.cks,c.name.length<=1048576
 sls:r.sls.length<=1048576/\∀s∈r.sls,s.fls.length<=1048576
 pps:r.pps.length<=1048576/\∀p∈r.pps,p.fls.length<=1048576
 aps:r.aps.length<=1048576
 crs:r.crs.length<=1048576/\∀c∈r.crs,c.fls.length<=1048576/\c.bef.length<=1048576/\c.dig.length<=1048576
 dps:r.dps.length<=1048576
def dayG(d:Int):Bool:=decide (0<=d) && decide (d<=1048575)
def hasF(l:List Fil)(n:Int):Bool:=l.any fun f=>decide (f.id=n)
def risI:List Int->Bool
 |a::b::r=>decide (a<b) && risI (b::r)
 |_=>true
structure Elm where
 id:Int
 day:Int
 fls:List Int
 gone:Bool
abbrev Elm.cs(x:Elm):List V:=[vi x.id,vi x.day,ints x.fls,vb x.gone]
abbrev elms(l:List Elm):V:=.slice 4 (l.map Elm.cs)
def Sel.el(s:Sel):Elm:=⟨s.smp,s.day,s.fls,false⟩
def Crt.el(c:Crt):Elm:=⟨c.num,c.day,c.fls,true⟩
def Dep.el(d:Dep):Elm:=⟨1,d.day,[d.fil],true⟩
def ax(l:List Elm)(n:Int):Bool:=l.any fun x=>x.gone && x.fls.any fun f=>decide (f=n)
def elmE(fs:List Fil)(pre:List Elm)(last:Option Elm)(x:Elm):Int:=
 if idB x.id=false\/dayG x.day=false then 2 else if x.fls.all (hasF fs)=false then 7 else
 if risI x.fls=false\/(match last with|some q=>decide (x.day<q.day)|none=>false)=true then 5 else
 if x.gone=true/\x.fls.any (ax pre)=true then 6 else 0
def elsE(fs:List Fil):List Elm->Option Elm->List Elm->Int
 |_,_,[]=>0
 |pre,last,x::r=>if elmE fs pre last x≠0 then elmE fs pre last x else elsE fs (pre++[x]) (some x) r
def cm(fs:List Fil)(pre l:List Elm):Int:=if 1024<l.length then 8 else elsE fs pre none l
def fstE:List Int->Int
 |[]=>0
 |e::r=>if e≠0 then e else fstE r
def selE(r:Rgs):List Elm:=r.sls.map Sel.el
def crtE(r:Rgs):List Elm:=r.crs.map Crt.el
def depE(r:Rgs):List Elm:=r.dps.map Dep.el
def checkG(r:Rgs):Int:=fstE [(fy r.ofs).2,(check r.pls).2,(jr r.ofs r.pls r.fls).2,(fh r.rls).2,(ji r.hls).2,
 cm r.fls [] (selE r),cm r.fls (selE r) (crtE r),cm r.fls (selE r++crtE r) (depE r)]
structure Vdt where
 kind:Int
 fil:Int
 day:Int
 rule:Int
 due:Int
 hls:List Int
abbrev Vdt.cs(v:Vdt):List V:=[vi v.kind,vi v.fil,vi v.day,vi v.rule,vi v.due,ints v.hls]
def ao(r:Rgs)(f:Fil)(d:Int):List Rul:=if(bu r.pls f d).2=0 then r.rls.filter fun q=>appB (bu r.pls f d).1 d q && (bf q.cls == ba r.rls (bu r.pls f d).1 d) else []
def dueF(f:Fil)(d:Int)(q:Rul):Option Int:=(trig f q.trg d).bind fun t=>dueR q t.1 t.2
def bw(f:Fil)(d:Int):List Rul->Int×Int->Int×Int
 |[],x=>x
 |q::r,x=>bw f d r (match dueF f d q with|some t=>if x.1<t then(t,q.id) else x|none=>x)
def ib(d:Int)(f:Fil)(day:Int)(l:List Int):Bool:=decide (day<=d) && l.any fun n=>decide (n=f.id)
def gone1(r:Rgs)(f:Fil)(d:Int):Bool:=r.crs.any fun c=>ib d f c.day c.fls
def gone2(r:Rgs)(f:Fil)(d:Int):Bool:=r.dps.any fun c=>ib d f c.day [c.fil]
def selB(r:Rgs)(f:Fil)(d:Int):Bool:=r.sls.any fun s=>ib d f s.day s.fls
def gl(q:Rul):Bool:=decide (q.act=3)
def dx(q:Rul):Bool:=decide (q.act=2)
def ct(f:Fil)(d:Int)(q:Rul):Bool:=(trig f q.trg d).isNone
def vdt(r:Rgs)(f:Fil)(d:Int):Vdt:=
 let l:=ao r f d
 let x:=bw f d l (-1,0)
 let hs:=cg r.ofs r.pls r.hls f d
 if state f d=0 then ⟨0,f.id,d,0,0,[]⟩ else if gone1 r f d=true then ⟨1,f.id,d,0,0,[]⟩ else if gone2 r f d=true then ⟨2,f.id,d,0,0,[]⟩ else
 if l=[] then ⟨0,f.id,d,0,0,[]⟩ else if state f d=1 then ⟨3,f.id,d,0,0,[]⟩ else
 match l.find? gl with
 |some q=>⟨4,f.id,d,q.id,0,[]⟩
 |none=>match l.find? (ct f d) with
  |some q=>⟨5,f.id,d,q.id,0,[]⟩
  |none=>if d<=x.1 then ⟨6,f.id,d,x.2,x.1,[]⟩ else if hs≠[] then ⟨7,f.id,d,x.2,x.1,hs⟩ else
   if l.any dx=true\/selB r f d=true then ⟨9,f.id,d,x.2,x.1,[]⟩ else ⟨8,f.id,d,x.2,x.1,[]⟩
def xorU(a b:Int):Int:=bitF .xor .u64 a b
def andU(a b:Int):Int:=bitF .and .u64 a b
def orU(a b:Int):Int:=bitF .or .u64 a b
def notU(a:Int):Int:=notF .u64 a
def rotU(x n:Int):Int:=orU (shF true .u64 x n) (shF false .u64 x (64-n))
def atU(l:List Int)(i:Nat):Int:=l.getD i 0
def rotL:List Int:=[0,1,62,28,27,36,44,6,55,20,3,10,43,25,39,41,45,15,21,8,18,2,61,56,14]
def conL:List Int:=[1,32898,9223372036854808714,9223372039002292224,32907,2147483649,9223372039002292353,9223372036854808585,138,136,2147516425,2147483658,2147516555,9223372036854775947,9223372036854808713,9223372036854808579,9223372036854808578,9223372036854775936,32778,9223372039002259466,9223372039002292353,9223372036854808704,2147483649,9223372039002292232]
def dk(a:List Int)(k:Nat):List Int:=(List.range k).foldl (fun s i=>s.set (i % 5) (xorU (atU s (i % 5)) (atU a i))) (List.replicate 5 0)
def pg(a:List Int)(i:Nat):Int:=xorU (xorU (atU a i) (atU (dk a 25) ((i+4) % 5))) (rotU (atU (dk a 25) ((i+1) % 5)) 1)
def posF(i:Nat):Nat:=i / 5+5*((2*(i % 5)+3*(i / 5)) % 5)
def layF(g:Nat->Nat)(p:Nat->Nat)(v:Nat->Int)(k:Nat)(b:List Int):List Int:=(List.range k).foldl (fun b j=>b.set (p (g j)) (v (g j))) b
def tr5(j:Nat):Nat:=j / 5+5*(j % 5)
def bF(a:List Int):List Int:=layF id posF (fun i=>rotU (pg a i) (atU rotL i)) 25 (List.replicate 25 0)
def chiF(b:List Int)(i:Nat):Int:=xorU (atU b i) (andU (notU (atU b ((i % 5+1) % 5+5*(i / 5)))) (atU b ((i % 5+2) % 5+5*(i / 5))))
def outF(b:List Int):List Int:=layF id id (chiF b) 25 (List.replicate 25 0)
def lq(a:List Int)(c:Int):List Int:=(outF (bF a)).set 0 (xorU (atU (outF (bF a)) 0) c)
def nt(a:List Int):List Int:=conL.foldl lq a
def eatF(s:List Int)(d:Str)(k:Nat):List Int:=(List.range k).foldl (fun s i=>s.set (i / 8) (xorU (atU s (i / 8)) (shF true .u64 ((d.getD i 0).toNat:Int) (8*((i % 8:Nat):Int))))) s
def de(s:List Int)(d:Str):List Int:=nt (eatF s d 136)
attribute [irreducible] nt de
def absF:Nat->List Int->Str->List Int×Str
 |0,s,d=>(s,d)
 |n+1,s,d=>if 136<=d.length then absF n (de s (d.take 136)) (d.drop 136) else(s,d)
def orB(b:UInt8):UInt8:=UInt8.ofNat (bitF .or .u8 (b.toNat:Int) 128).toNat
def ig(l:Str):Str:=l.set (l.length-1) (orB (l.getD (l.length-1) 0))
def padF(d:Str):Str:=ig (d++6::List.replicate (135-d.length) 0)
def digF(s:List Int)(k:Nat):Str:=(List.range k).map fun i=>UInt8.ofNat (IntKind.wrap .u8 (shF false .u64 (atU s (i / 8)) (8*((i % 8:Nat):Int)))).toNat
def bq:List Int:=List.replicate 25 0
def sumD(d:Str):Str:=digF (de (absF d.length bq d).1 (padF (absF d.length bq d).2)) 32
theorem jdv(d:Str):(sumD d).length=32:=by
 unfold sumD digF;rw[ut,List.length_range]
theorem jzn:∀(n:Nat) (s:List Int) (d:Str),d.length<=n->(absF n s d).2.length<136
 |0,s,d,h=>by
  show d.length<136
  omega
 |n+1,s,d,h=>by
  unfold absF;by_cases h1:136<=d.length
  .rw[um h1];exact jzn n _ _ (by rw[xo];omega)
  rw[ul h1]
  show d.length<136
  omega
theorem tg(g p:Nat->Nat)(v:Nat->Int)(k:Nat)(b:List Int):(layF g p v k b).length=b.length:=by
 unfold layF
 induction List.range k generalizing b with
 |nil=>rfl
 |cons j l ih=>rw[List.foldl_cons,ih,qwn]
theorem td(g p:Nat->Nat)(v:Nat->Int)(k:Nat)(b:List Int):layF g p v (k+1) b=(layF g p v k b).set (p (g k)) (v (g k)):=by
 unfold layF;exact zeq
theorem jjk(a:List Int)(k:Nat):dk a (k+1)=(dk a k).set (k % 5) (xorU (atU (dk a k) (k % 5)) (atU a k)):=by
 unfold dk;exact zeq
theorem jgo(a:List Int)(k:Nat):(dk a k).length=5:=by
 induction k with
 |zero=>rfl
 |succ k ih=>rw[jjk,qwn,ih]
theorem jl9(s:List Int)(d:Str)(k:Nat):eatF s d (k+1)=(eatF s d k).set (k / 8) (xorU (atU (eatF s d k) (k / 8)) (shF true .u64 ((d.getD k 0).toNat:Int) (8*((k % 8:Nat):Int)))):=by
 unfold eatF;exact zeq
theorem jmr(s:List Int)(d:Str)(k:Nat):(eatF s d k).length=s.length:=by
 induction k with
 |zero=>rfl
 |succ k ih=>rw[jl9,qwn,ih]
theorem bF_tr(v:Nat->Int):layF tr5 posF v 25 (List.replicate 25 0)=layF id posF v 25 (List.replicate 25 0):=krq
theorem jhd(g:Nat->Nat)(v:Nat->Int)(b:List Int){i:Nat}(hi:i<b.length):∀k:Nat,((∃j,j<k/\g j=i)->(layF g id v k b)[i]?=some (v i))/\((∀j,j<k->g j≠i)->(layF g id v k b)[i]?=b[i]?)
 |0=>⟨fun⟨j,h,_⟩=>absurd h (yf j),fun _=>rfl⟩
 |k+1=>by
  obtain⟨h1,h2⟩:=jhd g v b hi k;rw[td,show id (g k)=g k from rfl];have hl:i<(layF g id v k b).length:=by rw[tg];exact hi
  refine⟨fun⟨j,hj,he⟩=>?_,fun h=>?_⟩
  .by_cases hg:g k=i
   .subst hg;rw[List.getElem?_set_self hl]
   rw[List.getElem?_set_ne (fun e=>hg e)];refine h1 ⟨j,?_,he⟩;rcases vo j k with h|h
   .exact h
   exact absurd (by rw[<- he,show j=k by omega]) hg
  rw[List.getElem?_set_ne (fun e=>h k (Nat.lt_succ_self k) e)];exact h2 fun j hj=>h j (Nat.lt_succ_of_lt hj)
theorem jyb(g:Nat->Nat)(v:Nat->Int)(b:List Int)(hb:b.length=25)(hg:∀i,i<25->∃j,j<25/\g j=i):layF g id v 25 b=(List.range 25).map v:=by
 apply List.ext_getElem?;intro i;by_cases hi:i<25
 .rw[(jhd g v b omq 25).1 (hg i hi),vm,List.getElem?_range hi];rfl
 rw[yy (by rw[tg];omega),yy (by rw[ut,List.length_range];omega)]
theorem qru(v:Nat->Int)(b:List Int)(hb:b.length=25):layF tr5 id v 25 b=layF id id v 25 (List.replicate 25 0):=by
 rw[jyb tr5 v b hb (fun i hi=>⟨tr5 i,by unfold tr5;omega,by unfold tr5;omega⟩),jyb id v _ qx0 (fun i hi=>⟨i,hi,rfl⟩)]
theorem jjn(a:List Int)(c:Int):(lq a c).length=25:=by
 rw[lq,qwn,outF,tg,qx0]
theorem jl2:∀(l:List Int) (a:List Int),a.length=25->(l.foldl lq a).length=25
 |[],a,h=>h
 |c::l,a,_=>by
  have hr:=jjn a c;rw[List.foldl_cons];exact jl2 l (lq a c) hr
theorem ql3(a:List Int)(h:a.length=25):(nt a).length=25:=by
 rw[nt];exact jl2 conL a h
theorem jdi(s:List Int)(d:Str)(h:s.length=25):(de s d).length=25:=by
 have he:(eatF s d 136).length=25:=(jmr s d 136).trans h;rw[de];exact ql3 (eatF s d 136) he
theorem jln:∀(n:Nat) (s:List Int) (d:Str),s.length=25->(absF n s d).1.length=25
 |0,s,d,h=>h
 |n+1,s,d,h=>by
  have hb:=jdi s (d.take 136) h;rw[absF];by_cases h1:136<=d.length
  .rw[um h1];exact jln n (de s (d.take 136)) (d.drop 136) hb
  rw[ul h1];exact h
theorem jy3(d:Str)(h:d.length<136):(padF d).length=136:=by
 unfold padF ig;rw[qwn,ve,List.length_cons,qx0];omega
def ri(n:Nat):Nat:=135-n % 136
def kx(d:Str):Str:=ig (d++6::List.replicate (ri d.length) 0)
def pv:Nat->List Int->Str->List Int
 |0,s,_=>s
 |n+1,s,d=>pv n (de s (d.take 136)) (d.drop 136)
theorem ql9(a b:Str)(h:b≠[]):ig (a++b)=a++ig b:=by
 have hb:0<b.length:=xj.2 h;unfold ig;rw[ve,show a.length+b.length-1=a.length+(b.length-1) by omega,List.set_append_right _ _ omq,show a.length+(b.length-1)-a.length=b.length-1 by omega];congr 3;simp only[qvd];rw[xe omq,show a.length+(b.length-1)-a.length=b.length-1 by omega]
theorem jtj(s:List Int)(d:Str)(h:d.length<136):pv (d.length / 136+1) s (kx d)=de s (padF d):=by
 have e1:d.length / 136=0:=omq
 have e2:kx d=padF d:=by
  unfold kx padF ri;rw[Nat.mod_eq_of_lt omq]
 have e3:(padF d).length=136:=jy3 d omq;rw[e1,e2,pv,pv,xn omq]
theorem jv5:∀(n:Nat) (s:List Int) (d:Str),d.length<=n->pv (d.length / 136+1) s (kx d)=de (absF n s d).1 (padF (absF n s d).2)
 |0,s,d,h=>by
  rw[jtj s d omq,absF]
 |n+1,s,d,h=>by
  by_cases h1:136<=d.length
  .rw[absF,um h1];have ih:=jv5 n (de s (d.take 136)) (d.drop 136) (by rw[xo];omega);rw[<- ih];have e1:d.length / 136+1=(d.drop 136).length / 136+1+1:=by rw[xo];omega
   have e2:kx d=d.take 136++kx (d.drop 136):=by
    have h3:ri (d.drop 136).length=ri d.length:=by
     unfold ri;rw[xo];omega
    have h4:kx (d.drop 136)=ig (d.drop 136++6::List.replicate (ri d.length) 0):=by rw[kx,h3]
    rw[h4,<- ql9 _ _ smq,<- vt,qvv,kx]
   have e3:(d.take 136).length=136:=by rw[vz];omega
   rw[e1,e2,pv,List.take_left' e3,List.drop_left' e3]
  rw[absF,ul h1,jtj s d omq]
theorem qkp(d:Str):sumD d=digF (pv (d.length / 136+1) bq (kx d)) 32:=by
 unfold sumD;rw[jv5 d.length bq d (uv _)]
theorem jss{os:List Ofc}{ps:List Plan}{l:List Fil}{i:Nat}{f:Fil}(hi:l[i]?=some f)(h:iq os ps l i=0):¬badF f/\ku l i f=false/\name f.title=true/\nk os f.ofc f.opn=true/\qo ps f=false/\jf f=0:=by
 by_cases h1:badF f
 .rw[ol hi h1] at h;cases h
 rw[jmp hi h1] at h;cases h2:ku l i f
 .rw[h2,ul smq] at h;cases h3:name f.title
  .rw[h3,um rfl] at h;cases h
  rw[h3,ul smq] at h;cases h4:nk os f.ofc f.opn
  .rw[h4,um rfl] at h;cases h
  rw[h4,ul smq] at h;cases h5:qo ps f
  .rw[h5,ul smq] at h;exact⟨h1,rfl,rfl,rfl,rfl,h⟩
  rw[h5,um rfl] at h;cases h
 rw[h2,um rfl] at h;cases h
theorem qe7{f:Fil}(h:jf f=0):¬ 16<f.nts.length/\(f.nts.any fun n=> !fk n.name)=false/\(f.nts.any fun n=> !ip f n)=false/\qg f.nts=false:=by
 by_cases h1:16<f.nts.length
 .rw[jjw h1] at h;cases h
 cases h2:f.nts.any fun n=> !fk n.name
 .cases h3:f.nts.any fun n=> !ip f n
  .rw[jjv h1 h2 h3] at h;cases h4:qg f.nts
   .exact⟨h1,rfl,rfl,rfl⟩
   rw[h4,um rfl] at h;cases h
  rw[jg7 h1 h2 h3] at h;cases h
 rw[jjx h1 h2] at h;cases h
theorem qb1(f:Rul->Nat):∀(l:List Rul) (m:Nat),m<=l.foldl (fun m r=>max m (f r)) m/\∀r∈l,f r<=l.foldl (fun m r=>max m (f r)) m
 |[],m=>⟨uv _,fun r hr=>nomatch hr⟩
 |x::l,m=>by
  obtain⟨h1,h2⟩:=qb1 f l (max m (f x));rw[List.foldl_cons];refine⟨xa (Nat.le_max_left _ _) h1,fun r hr=>?_⟩;rcases vg.1 hr with rfl|hr
  .exact xa (Nat.le_max_right _ _) h1
  exact h2 r hr
theorem qpx{l:List Rul}{s:Str}{d:Int}{r:Rul}(hr:r∈l)(ha:appB s d r=true):bf r.cls<=ba l s d:=
 (qb1 (fun r=>bf r.cls) (l.filter (appB s d)) 0).2 r (yp.2 ⟨hr,ha⟩)
theorem sz{l:List Rul}{s:Str}{d:Int}{x:Rul}(ha:appB s d x=false):ba (l++[x]) s d=ba l s d:=by
 unfold ba;rw[qw4];simp[ha]
theorem mr{l:List Rul}{s:Str}{d:Int}{x:Rul}(ha:appB s d x=true):ba (l++[x]) s d=max (ba l s d) (bf x.cls):=by
 unfold ba;rw[qw4];simp[ha,List.foldl_append]
def gm(l:List Rul)(s:Str)(d:Int)(n:Nat):List Int:=(l.filter fun r=>appB s d r && (bf r.cls == n)).map (·.id)
theorem sw(l:List Rul)(s:Str)(d:Int):dp l s d=gm l s d (ba l s d):=rfl
theorem mt(l:List Rul)(s:Str)(d:Int)(n:Nat)(x:Rul):gm (l++[x]) s d n=gm l s d n++(if appB s d x=true/\bf x.cls=n then [x.id] else []):=by
 unfold gm;rw[qw4,vy];congr 1;by_cases h:appB s d x=true/\bf x.cls=n
 .rw[um h];simp[h.1,h.2]
 rw[ul h];cases h1:appB s d x
 .simp[h1]
 have h2:¬bf x.cls=n:=fun e=>h ⟨h1,e⟩;simp[h1,h2]
theorem qjm{l:List Rul}{s:Str}{d:Int}{n:Nat}(h:ba l s d<n):gm l s d n=[]:=by
 unfold gm;rw[List.map_eq_nil_iff,List.filter_eq_nil_iff];intro r hr hc;simp only[uw,qvc] at hc;have:=qpx hr hc.1;omega
theorem jnj{l:List Rul}{s:Str}{d:Int}{x:Rul}(ha:appB s d x=false):dp (l++[x]) s d=dp l s d:=by
 rw[sw,sw,sz ha,mt,ul (by simp[ha]),vw]
theorem jzk{l:List Rul}{s:Str}{d:Int}{x:Rul}(ha:appB s d x=true)(h:ba l s d<bf x.cls):dp (l++[x]) s d=[x.id]:=by
 rw[sw,mr ha,Nat.max_eq_right omq,mt,um ⟨ha,rfl⟩,qjm h,List.nil_append]
theorem jzl{l:List Rul}{s:Str}{d:Int}{x:Rul}(ha:appB s d x=true)(h:bf x.cls=ba l s d):dp (l++[x]) s d=dp l s d++[x.id]:=by
 rw[sw,sw,mr ha,qw8 omq,mt,um ⟨ha,h⟩]
theorem jzj{l:List Rul}{s:Str}{d:Int}{x:Rul}(ha:appB s d x=true)(h:bf x.cls<ba l s d):dp (l++[x]) s d=dp l s d:=by
 rw[sw,sw,mr ha,qw8 omq,mt,ul omq,vw]
theorem sx{l:List Rul}{k:Nat}{x:Rul}(h:l[k]?=some x):l.take (k+1)=l.take k++[x]:=by
 obtain⟨hlt,rfl⟩:=gsi.1 h;rw[qva hlt]
theorem jxw{l:List Rul}(h:goodR l=true){i:Nat}{q r:Rul}(hq:l[i]?=some q)(hr:l[i+1]?=some r):q.id<r.id:=by
 have hz:(chk 64 l.length (jh l)).2=0:=by
  have:=h;unfold goodR fh at this;exact eq_of_beq this
 obtain⟨-,ha⟩:=om hz;have hlt:=(gsi.1 hr).1;have h0:=ha (i+1) hlt;unfold jh at h0;rw[hr] at h0;simp only at h0;by_cases hb:badR r
 .rw[um hb] at h0;cases h0
 rw[ul hb] at h0;by_cases hp:mf l (i+1) r=true
 .rw[um hp] at h0;cases h0
 unfold mf at hp;rw[ul (yx i),qwv,hq] at hp;simp only[vr] at hp;omega
theorem jzy{l:List Rul}(h:goodR l=true){i:Nat}{q:Rul}(hq:l[i]?=some q):∀(n:Nat) {r:Rul},l[i+1+n]?=some r->q.id<r.id
 |0,r,hr=>jxw h hq hr
 |n+1,r,hr=>by
  have hlt:=(gsi.1 hr).1;have hlt2:i+1+n<l.length:=omq;have h1:=jzy h hq n (gge hlt2);have h2:=jxw h (gge hlt2) hr;omega
theorem qpn{l:List Rul}(h:goodR l=true){i:Nat}{q:Rul}(hq:l[i]?=some q):jcr l q.id=i:=by
 refine(nv (k:=i) (fun e he=>?_) hq (by simp[pq])).symm;obtain⟨j,hj⟩:=xc he
 have hji:j<i:=by
  have:=(gsi.1 hj).1;rw[vz] at this;omega
 rw[List.getElem?_take_of_lt hji] at hj;have:=jzy h hj (i-(j+1)) (r:=q) (by rw[show j+1+(i-(j+1))=i by omega];exact hq);unfold pq;exact ux omq
theorem jwd{l:List Rul}(h:goodR l=true){q:Rul}(hq:q∈l):∃i:Nat,i<l.length/\l[i]?=some q/\jcr l q.id=i:=by
 obtain⟨i,hi⟩:=xc hq;exact⟨i,(gsi.1 hi).1,hi,qpn h hi⟩
theorem jg3{r:Rgs}{f:Fil}{d:Int}{q:Rul}(h:q∈ao r f d):q∈r.rls:=by
 unfold ao at h;split at h
 .exact(yp.1 h).1
 cases h
theorem jd9(r:Rgs)(f:Fil)(d:Int):(ao r f d).length<=r.rls.length:=by
 unfold ao;split
 .exact qwe _ _
 exact uq _
theorem jtu{r:Rgs}{f:Fil}{d:Int}(h:(bu r.pls f d).2=0):dp r.rls (bu r.pls f d).1 d=(ao r f d).map (·.id):=by
 unfold ao dp;rw[um h]
theorem jtv{r:Rgs}{f:Fil}{d:Int}(h:(bu r.pls f d).2≠0):ao r f d=[]:=ul h
def me(f:Fil)(d:Int)(x:Int×Int)(q:Rul):Int×Int:=match dueF f d q with
 |some t=>if x.1<t then(t,q.id) else x
 |none=>x
theorem jk1(f:Fil)(d:Int):∀(l:List Rul) (x:Int×Int),bw f d l x=l.foldl (me f d) x
 |[],_=>rfl
 |_::r,_=>jk1 f d r _
theorem jk0(f:Fil)(d:Int){l:List Rul}{k:Nat}{q:Rul}(x:Int×Int)(h:l[k]?=some q):bw f d (l.take (k+1)) x=me f d (bw f d (l.take k) x) q:=by
 rw[sx h,jk1,jk1,qvk];rfl
theorem jtp{f:Fil}{d:Int}{x:Int×Int}{q:Rul}(h:dueF f d q=none):me f d x q=x:=by unfold me;rw[h]
theorem jdw{f:Fil}{d:Int}{x:Int×Int}{q:Rul}{t:Int}(h:dueF f d q=some t)(ht:x.1<t):me f d x q=(t,q.id):=by unfold me;rw[h];exact um ht
theorem jls{f:Fil}{d:Int}{x:Int×Int}{q:Rul}{t:Int}(h:dueF f d q=some t)(ht:¬x.1<t):me f d x q=x:=by unfold me;rw[h];exact ul ht
theorem qsi{f:Fil}{d:Int}{q:Rul}(h:trig f q.trg d=none):dueF f d q=none:=by unfold dueF;rw[h];rfl
theorem jys{f:Fil}{d:Int}{q:Rul}{a b:Int}(h:trig f q.trg d=some (a,b)):dueF f d q=dueR q a b:=by unfold dueF;rw[h];rfl
def pw(l:List Int)(i:Nat):Bool:=match l[i-1]?,l[i]? with
 |some x,some y=>decide (0<i) && decide (y<x)
 |_,_=>false
def srtI(l:List Int):Bool:= !(List.range l.length).any (pw l)
theorem jp2{l:List Int}{i:Nat}(h0:i≠0){x y:Int}(hx:l[i-1]?=some x)(hy:l[i]?=some y):pw l i=decide (y<x):=by
 unfold pw;rw[hx,hy];simp;omega
theorem qbv(l:List Int):pw l 0=false:=by
 unfold pw;split
 .rfl
 rfl
theorem jzu{l:List Int}{i:Nat}(hi:i<l.length)(h:pw l i=true):srtI l=false:=by
 unfold srtI;rw[show (List.range l.length).any (pw l)=true from vp.2 ⟨i,List.mem_range.2 hi,h⟩];rfl
theorem jxu{l:List Int}(h:∀j,j<l.length->pw l j=false):srtI l=true:=by
 unfold srtI
 rw[show (List.range l.length).any (pw l)=false from by
  rw[vn];intro j hj
  rw[h j (List.mem_range.1 hj)];decide]
 rfl
theorem qon(l:List Int):srtI l=true↔∀(i:Nat) x y,l[i]?=some x->l[i+1]?=some y->x<=y:=by
 constructor
 .intro h i x y hx hy;by_cases hlt:y<x
  .have hb:pw l (i+1)=true:=by rw[jp2 (yx i) zfc hy];simpa using hlt
   rw[jzu (gsi.1 hy).1 hb] at h;cases h
  omega
 intro h;refine jxu fun j hj=>?_;cases j with
 |zero=>exact qbv l
 |succ i=>
  have hi:i<l.length:=omq;rw[jp2 (yx i) (x:=l[i]) (y:=l[i+1]) (by simp[hi]) (gge hj)];have:=h i _ _ (gge hi) (gge hj);exact zdb
theorem oh:∀l:List Int,risI l=true↔∀(i:Nat) x y,l[i]?=some x->l[i+1]?=some y->x<y
 |[]=>by simp[risI]
 |[a]=>by simp[risI]
 |a::b::r=>by
  have ih:=oh (b::r);unfold risI;simp only[uw,vr];rw[ih];constructor
  .rintro⟨h1,h2⟩ i x y hx hy;cases i with
   |zero=>simp at hx hy;omega
   |succ i=>exact h2 i x y (by simpa using hx) (by simpa using hy)
  intro h;exact⟨h 0 a b rfl rfl,fun i x y hx hy=>h (i+1) x y zfc (by simpa using hy)⟩
def ub(K:List Int)(x:Int):List Int:=if K.getLast?=some x then K else K++[x]
def bh(l:List Int):List Int:=l.foldl ub []
theorem qho(K:List Int)(x:Int):(ub K x).getLast?=some x:=by
 unfold ub;split
 .assumption
 simp
theorem qkr(K:List Int)(x:Int):(ub K x).length<=K.length+1:=by
 unfold ub;split
 .omega
 simp
theorem jfz{l:List Int}{k:Nat}{x:Int}(h:l[k]?=some x):l.take (k+1)=l.take k++[x]:=by
 obtain⟨hlt,rfl⟩:=gsi.1 h;rw[qva hlt]
theorem jdh{l:List Int}{k:Nat}{x:Int}(h:l[k]?=some x):bh (l.take (k+1))=ub (bh (l.take k)) x:=by
 rw[jfz h];unfold bh;rw[qvk];rfl
theorem jur{l:List Int}{k:Nat}{x:Int}(h:l[k]?=some x):(bh (l.take (k+1))).getLast?=some x:=by
 rw[jdh h];exact qho _ _
theorem jlf(l:List Int):∀k,(bh (l.take k)).length<=k
 |0=>by simp[bh]
 |k+1=>by
  have ih:=jlf l k;cases h:l[k]? with
  |none=>
   have:l.length<=k:=by simpa using h
   rw[xn omq];rw[xn this] at ih;omega
  |some x=>
   rw[jdh h];have:=qkr (bh (l.take k)) x;omega
theorem jgj{l:List Int}{k:Nat}{x y:Int}(hk:0<k)(hy:l[k-1]?=some y)(hx:l[k]?=some x)(h:x=y):bh (l.take (k+1))=bh (l.take k):=by
 obtain⟨j,rfl⟩:∃j,k=j+1:=⟨k-1,omq⟩;rw[jdh hx];unfold ub;rw[um (by rw[jur (by simpa using hy),h])]
theorem jke{l:List Int}{k:Nat}{x y:Int}(hk:0<k)(hy:l[k-1]?=some y)(hx:l[k]?=some x)(h:x≠y):bh (l.take (k+1))=bh (l.take k)++[x]:=by
 obtain⟨j,rfl⟩:∃j,k=j+1:=⟨k-1,omq⟩;rw[jdh hx];unfold ub;rw[ul (by rw[jur (by simpa using hy)];simp;omega)]
theorem jle{l:List Int}{x:Int}(hx:l[0]?=some x):bh (l.take 1)=[x]:=by
 rw[jdh hx];rfl
theorem jus(l:List Int):∀k,k<=l.length->((bh (l.take k)).length=k↔∀(i:Nat) x y,i+1<k->l[i]?=some x->l[i+1]?=some y->x≠y)
 |0,_=>by simp[bh]
 |1,h=>by
  rw[jle (gge (show 0<l.length by omega))];simp
 |k+2,h=>by
  have ih:=jus l (k+1) omq;have hlen:=jlf l (k+1);have hk1:k+1<l.length:=omq;have hx:=gge hk1;have hy:=gge (show k<l.length by omega);by_cases e:l[k+1]=l[k]
  .rw[jgj (Nat.succ_pos k) hy hx e];constructor
   .intro g;simp only[Nat.succ_eq_add_one] at g;omega
   intro g;exact absurd e.symm (g k _ _ omq hy hx)
  rw[jke (Nat.succ_pos k) hy hx e,ve];constructor
  .intro g i x y hi gx gy;by_cases hik:i=k
   .subst hik;rw[hy] at gx;rw[hx] at gy;cases gx;cases gy;exact fun hh=>e hh.symm
   exact ih.1 (by simp at g;omega) i x y omq gx gy
  intro g;have:=ih.2 fun i x y hi gx gy=>g i x y omq gx gy;simp;omega
theorem qro(l:List Int):(srtI l && decide (((bh l).length:Int)=l.length))=risI l:=by
 have h1:=qon l;have h2:=oh l;have h3:=jus l l.length (uv _);rw[vk] at h3;rw[qw6,uw,vr,h1,h2];constructor
 .rintro⟨g1,g2⟩ i x y hx hy;have:=h3.1 omq i x y (gsi.1 hy).1 hx hy;have:=g1 i x y hx hy;omega
 intro g;refine⟨fun i x y hx hy=>by have:=g i x y hx hy;omega,?_⟩;have:=h3.2 fun i x y _ hx hy=>by have:=g i x y hx hy;omega
 omega
def upG:List (Int×Bool)->Int->Bool->List (Int×Bool)
 |[],f,b=>[(f,b)]
 |(g,c)::r,f,b=>if f=g then(f,b)::r else(g,c)::upG r f b
def getG:List (Int×Bool)->Int->Bool
 |[],_=>false
 |(g,c)::r,f=>if f=g then c else getG r f
def mapG(ps:List (Int×Bool)):List (V×V):=ps.map fun q=>(vi q.1,vb q.2)
def jf5:List (Int×Bool)->Int->Option V
 |[],_=>none
 |(g,c)::r,f=>if f=g then some (vb c) else jf5 r f
theorem jwe(ps:List (Int×Bool))(f:Int):(jf5 ps f).getD (vb false)=vb (getG ps f):=by
 induction ps with
 |nil=>rfl
 |cons q r ih=>
  unfold jf5 getG;by_cases h:f=q.1
  .rw[um h,um h];rfl
  rw[ul h,ul h];exact ih
theorem jl3(f:Int):∀ps,rh (vi f) (mapG ps)=some (jf5 ps f)
 |[]=>rfl
 |(g,c)::r=>by
  have ih:=jl3 f r;unfold mapG at ih;simp only[mapG,vl,rh,kw,uy,jf5];by_cases h:f=g
  .simp[h]
  simp only[h,qw3,va];exact ih
theorem jsf(f:Int)(b:Bool):∀ps,nj (vi f) (vb b) (mapG ps)=some (mapG (upG ps f b))
 |[]=>rfl
 |(g,c)::r=>by
  have ih:=jsf f b r;unfold mapG at ih;simp only[mapG,vl,nj,kw,uy,upG];by_cases h:f=g
  .simp[h]
  simp only[h,qw3,va,ih,Option.map_some,vl]
theorem qcp(f n:Int)(b:Bool):∀ps,getG (upG ps f b) n=if n=f then b else getG ps n
 |[]=>by
  unfold upG getG getG;by_cases h:n=f<;>simp[h]
 |(g,c)::r=>by
  have ih:=qcp f n b r;unfold upG;by_cases h:f=g
  .rw[um h];unfold getG;by_cases h2:n=f
   .simp[h2]
   rw[ul h2,ul h2,ul (by rw[<- h];exact h2)]
  rw[ul h];unfold getG;by_cases h2:n=g
  .rw[um h2,um h2,ul (fun e=>h (e.symm.trans h2))]
  rw[ul h2,ul h2,ih]
def addG(ps:List (Int×Bool))(fs:List Int)(g:Bool):List (Int×Bool):=fs.foldl (fun ps f=>upG ps f (getG ps f || g)) ps
theorem qaz(n:Int)(g:Bool):∀(fs:List Int) ps,getG (addG ps fs g) n=(getG ps n || (g && fs.any fun f=>decide (f=n)))
 |[],ps=>by simp[addG]
 |f::r,ps=>by
  have ih:=qaz n g r (upG ps f (getG ps f || g));unfold addG at ih ⊢;rw[List.foldl_cons,ih,qcp];by_cases h:n=f
  .subst h;cases g<;>cases getG ps n<;>simp
  have h':¬f=n:=fun e=>h e.symm;simp[h,h']
theorem qra(ps:List (Int×Bool)){fs:List Int}{k:Nat}{f:Int}(g:Bool)(h:fs[k]?=some f):addG ps (fs.take (k+1)) g=upG (addG ps (fs.take k) g) f (getG (addG ps (fs.take k) g) f || g):=by
 rw[jfz h];unfold addG;rw[qvk];rfl
theorem jgv(l:List Elm)(x:Elm)(n:Int):ax (l++[x]) n=(ax l n || (x.gone && x.fls.any fun f=>decide (f=n))):=by
 unfold ax;rw[qwm];simp
theorem jyf{ps:List (Int×Bool)}{pre:List Elm}(h:∀n,getG ps n=ax pre n)(x:Elm):∀n,getG (addG ps x.fls x.gone) n=ax (pre++[x]) n:=fun n=>by
 rw[qaz,jgv,h]
def elsM(fs:List Fil):List Elm->Option Elm->List (Int×Bool)->List Elm->List (Int×Bool)
 |_,_,ps,[]=>ps
 |pre,last,ps,x::r=>if elmE fs pre last x≠0 then ps else elsM fs (pre++[x]) (some x) (addG ps x.fls x.gone) r
theorem jyq(fs:List Fil):∀(l:List Elm) (pre:List Elm) (last:Option Elm) (ps:List (Int×Bool)),(∀n,getG ps n=ax pre n)->elsE fs pre last l=0->∀n,getG (elsM fs pre last ps l) n=ax (pre++l) n
 |[],pre,last,ps,h,_=>fun n=>by rw[vw];exact h n
 |x::r,pre,last,ps,h,he=>fun n=>by
  unfold elsE at he;unfold elsM;by_cases hx:elmE fs pre last x≠0
  .rw[um hx] at he;exact absurd he hx
  rw[ul hx] at he ⊢;rw[jyq fs r (pre++[x]) (some x) _ (jyf h x) he n,vt];rfl
theorem jwn{fs:List Fil}{l:List Elm}{k:Nat}{x:Elm}(hx:l[k]?=some x)(pre:List Elm)(last:Option Elm):elsE fs pre last (l.drop k)=if elmE fs pre last x≠0 then elmE fs pre last x else elsE fs (pre++[x]) (some x) (l.drop (k+1)):=by
 obtain⟨hlt,rfl⟩:=gsi.1 hx;exact zdg
theorem qlv{fs:List Fil}{l:List Elm}{k:Nat}{x:Elm}(hx:l[k]?=some x)(pre:List Elm)(last:Option Elm)(ps:List (Int×Bool)):elsM fs pre last ps (l.drop k)=if elmE fs pre last x≠0 then ps else elsM fs (pre++[x]) (some x) (addG ps x.fls x.gone) (l.drop (k+1)):=by
 obtain⟨hlt,rfl⟩:=gsi.1 hx;exact zdg
def ca(l:List Elm)(k:Nat):Option Elm:=if k=0 then none else l[k-1]?
theorem jso{l:List Elm}{k:Nat}{x:Elm}(hx:l[k]?=some x):ca l (k+1)=some x:=by
 unfold ca;rw[ul (yx k),qwv];exact hx
theorem jg0{l:List Elm}{k:Nat}{x:Elm}(h:l[k]?=some x):l.take (k+1)=l.take k++[x]:=by
 obtain⟨hlt,rfl⟩:=gsi.1 h;rw[qva hlt]
structure Pce where
 frm:Int
 til:Int
 val:Int
 deriving DecidableEq
abbrev Pce.cs(p:Pce):List V:=[vi p.frm,vi p.til,vi p.val]
def addP:List Pce->Int->Int->Int->List Pce
 |[],c,e,k=>[⟨c,e,k⟩]
 |[p],c,e,k=>if p.val=k then [⟨p.frm,e,p.val⟩] else [p,⟨c,e,k⟩]
 |p::q::r,c,e,k=>p::addP (q::r) c e k
def Runs(K:Int->Int)(b:Int):Int->List Pce->Prop
 |a,[]=>a=b
 |a,p::r=>p.frm=a/\a<p.til/\(∀d,a<=d->d<p.til->K d=p.val)/\(∀q,r.head?=some q->q.val≠p.val)/\Runs K b p.til r
theorem Runs.le{K:Int->Int}{b:Int}: ∀ {l:List Pce} {a:Int},Runs K b a l->a<=b
 |[],a,h=>by have:a=b:=h;omega
 |p::r,a,h=>by have h1:=h.2.1;have h2:=Runs.le h.2.2.2.2;omega
theorem Runs.head{K:Int->Int}{b:Int}{l:List Pce}{a:Int}(h:Runs K b a l){q:Pce}(hq:l.head?=some q):K a=q.val:=by
 cases l with
 |nil=>cases hq
 |cons p r=>
  simp only[List.head?_cons,uu] at hq;subst hq;exact h.2.2.1 a (Int.le_refl _) h.2.1
theorem Runs.ne{K:Int->Int}{b a:Int}{l:List Pce}(h:Runs K b a l)(hab:a<b):l≠[]:=fun e=>by
 subst e;have:a=b:=h;omega
theorem qo8{l:List Pce}{c e k:Int}{q x:Pce}(hx:l.head?=some x)(h:(addP l c e k).head?=some q):q.val=x.val:=by
 match l,hx with
 |[p],hx=>
  simp only[List.head?_cons,uu] at hx;subst hx;unfold addP at h;split at h
  .simp only[List.head?_cons,uu] at h;rw[<- h]
  simp only[List.head?_cons,uu] at h;rw[<- h]
 |p::y::r,hx=>
  simp only[List.head?_cons,uu] at hx;subst hx;unfold addP at h;simp only[List.head?_cons,uu] at h;rw[<- h]
theorem Runs.add{K:Int->Int}{c e k:Int}(hce:c<e)(hk:∀d,c<=d->d<e->K d=k):∀ {l:List Pce} {a:Int},Runs K c a l->Runs K e a (addP l c e k)
 |[],a,h=>by
  have h:a=c:=h;subst h;exact⟨rfl,hce,hk,(fun q hq=>nomatch hq),rfl⟩
 |[p],a,h=>by
  obtain⟨h1,h2,h3,-,h5⟩:=h;have h5:p.til=c:=h5;unfold addP;by_cases hv:p.val=k
  .rw[um hv];refine⟨h1,by show a<e;omega,fun d g1 g2=>?_,(fun q hq=>nomatch hq),rfl⟩;by_cases hd:d<p.til
   .exact h3 d g1 hd
   exact(hk d omq g2).trans hv.symm
  rw[ul hv];refine⟨h1,h2,h3,fun q hq=>?_,⟨h5.symm,by rw[h5];exact hce,fun d g1 g2=>hk d omq g2,(fun q hq=>nomatch hq),rfl⟩⟩;simp only[List.head?_cons,uu] at hq;rw[<- hq];exact fun e=>hv e.symm
 |p::x::r,a,h=>by
  obtain⟨h1,h2,h3,h4,h5⟩:=h;unfold addP;refine⟨h1,h2,h3,fun q hq=>?_,Runs.add hce hk h5⟩;rw[qo8 (x:=x) rfl hq];exact h4 x rfl
theorem Runs.at{K:Int->Int}{b:Int}: ∀ {l:List Pce} {a:Int},Runs K b a l->∀ {i:Nat} {p:Pce},l[i]?=some p->a<=p.frm/\p.frm<p.til/\p.til<=b/\∀d,p.frm<=d->d<p.til->K d=p.val
 |[],a,h,i,p,hp=>by simp at hp
 |x::r,a,h,0,p,hp=>by
  simp only[List.getElem?_cons_zero,uu] at hp;subst hp;exact⟨by rw[h.1];exact Int.le_refl _,by rw[h.1];exact h.2.1,Runs.le h.2.2.2.2,by rw[h.1];exact h.2.2.1⟩
 |x::r,a,h,i+1,p,hp=>by
  have:=Runs.at h.2.2.2.2 (i:=i) (p:=p) (by simpa using hp);have h2:=h.2.1;exact⟨omq,this.2⟩
theorem Runs.step{K:Int->Int}{b:Int}: ∀ {l:List Pce} {a:Int},Runs K b a l->∀ {i:Nat} {p q:Pce},l[i]?=some p->l[i+1]?=some q->p.til=q.frm/\q.val≠p.val
 |[],a,h,i,p,q,hp,hq=>by simp at hp
 |[x],a,h,i,p,q,hp,hq=>by simp at hq
 |x::y::r,a,h,0,p,q,hp,hq=>by
  simp at hp hq;subst hp;subst hq;exact⟨h.2.2.2.2.1.symm,h.2.2.2.1 _ rfl⟩
 |x::y::r,a,h,i+1,p,q,hp,hq=>Runs.step h.2.2.2.2 (i:=i) (by simpa using hp) (by simpa using hq)
theorem Runs.last{K:Int->Int}{b:Int}: ∀ {l:List Pce} {a:Int},Runs K b a l->∀ {p:Pce},l.getLast?=some p->p.til=b
 |[],a,h,p,hp=>by simp at hp
 |[x],a,h,p,hp=>by
  simp at hp;subst hp;exact h.2.2.2.2
 |x::y::r,a,h,p,hp=>Runs.last (l:=y::r) h.2.2.2.2 (by simpa using hp)
def Far(d t c:Int):Prop:=c<=d\/t<c
theorem jhx{f u d t:Int}(h:d<=t)(hf:Far d t f)(hu:Far d t u):inS f u d=inS f u t:=by
 unfold inS;unfold Far at hf hu;rw[qw6,vr,vr];omega
theorem qcm{c d t:Int}(h:d<=t)(hc:Far d t c):decide (c<=d)=decide (c<=t):=by
 unfold Far at hc;rw[qw6,vr,vr];omega
theorem jcv{α:Type}{p q:α->Bool}: ∀ {l:List α},(∀x∈l,p x=q x)->l.filter p=l.filter q
 |[],_=>rfl
 |x::l,h=>by
  rw[qwq,qwq,h x smq,jcv fun y hy=>h y zfj]
theorem jgn{α:Type}{p q:α->Bool}: ∀ {l:List α},(∀x∈l,p x=q x)->l.any p=l.any q
 |[],_=>rfl
 |x::l,h=>by
  rw[List.any_cons,List.any_cons,h x smq,jgn fun y hy=>h y zfj]
theorem jri{α:Type}{p q:α->Bool}: ∀ {l:List α},(∀x∈l,p x=q x)->l.findIdx? p=l.findIdx? q
 |[],_=>rfl
 |x::l,h=>by
  rw[List.findIdx?_cons,List.findIdx?_cons,h x smq,jri fun y hy=>h y zfj]
structure Quiet (r:Rgs) (f:Fil) (d t:Int):Prop where
 le:d<=t
 opn:Far d t f.opn
 cld:Far d t f.cld
 nts:∀n∈f.nts,Far d t n.rcd
 ofs:∀o∈r.ofs,Far d t o.frm/\Far d t o.til
 pls:∀o∈r.pls,Far d t o.frm/\Far d t o.til
 rls:∀o∈r.rls,Far d t o.frm/\Far d t o.til
 hls:∀o∈r.hls,Far d t o.frm/\Far d t o.til
 sls:∀s∈r.sls,(s.fls.any fun n=>decide (n=f.id))=true->Far d t s.day
 crs:∀s∈r.crs,(s.fls.any fun n=>decide (n=f.id))=true->Far d t s.day
 dps:∀s∈r.dps,s.fil=f.id->Far d t s.day
variable {r : Rgs}{f : Fil}{d t : Int}
theorem Far.sub{d t d' t' c:Int}(h:Far d t c)(h1:d<=d')(h2:t'<=t):Far d' t' c:=by unfold Far at h ⊢;omega
theorem Quiet.sub(h:Quiet r f d t){d' t':Int}(h1:d<=d')(h2:d'<=t')(h3:t'<=t):Quiet r f d' t':=
  ⟨h2,h.opn.sub h1 h3,h.cld.sub h1 h3,fun n hn=>(h.nts n hn).sub h1 h3,fun o ho=>⟨(h.ofs o ho).1.sub h1 h3,(h.ofs o ho).2.sub h1 h3⟩,fun o ho=>⟨(h.pls o ho).1.sub h1 h3,(h.pls o ho).2.sub h1 h3⟩,
   fun o ho=>⟨(h.rls o ho).1.sub h1 h3,(h.rls o ho).2.sub h1 h3⟩,fun o ho=>⟨(h.hls o ho).1.sub h1 h3,(h.hls o ho).2.sub h1 h3⟩,fun s hs e=>(h.sls s hs e).sub h1 h3,fun s hs e=>(h.crs s hs e).sub h1 h3,fun s hs e=>(h.dps s hs e).sub h1 h3⟩
theorem Quiet.state(h:Quiet r f d t):state f d=state f t:=by
 have:=h.le;have h1:=h.opn;have h2:=h.cld;unfold Far at h1 h2;unfold Arc.state;by_cases a:d<f.opn
 .rw[um a,um omq]
 have a':¬t<f.opn:=omq;rw[ul a,ul a'];by_cases b:d<f.cld
 .have b':t<f.cld:=omq;rw[um b,um b']
 have b':¬t<f.cld:=omq;rw[ul b,ul b']
theorem qab{c:Int}(h:d<=t)(hc:Far d t c):onD c d=onD c t:=by
 unfold Far at hc;unfold onD;by_cases a:d<c
 .rw[um a,um omq]
 rw[ul a,ul omq]
theorem Quiet.trig(h:Quiet r f d t)(s:Str):trig f s d=trig f s t:=by
 have hk:ii f d=ii f t:=jcv fun n hn=>qcm h.le (h.nts n hn);unfold Arc.trig;rw[qab h.le h.opn,qab h.le h.cld];unfold best own;rw[hk]
theorem Quiet.cls(h:Quiet r f d t):bu r.pls f d=bu r.pls f t:=by
 have hi:idx r.pls d=idx r.pls t:=by
  unfold idx ix;rw[jri fun p hp=>jhx h.le (h.pls p hp).1 (h.pls p hp).2]
 unfold bu;rw[hi]
theorem Quiet.rules(h:Quiet r f d t):ao r f d=ao r f t:=by
 have ha:∀s,∀q∈r.rls,appB s d q=appB s t q:=fun s q hq=>by
  unfold appB;rw[jhx h.le (h.rls q hq).1 (h.rls q hq).2]
 have hl:∀s,ba r.rls s d=ba r.rls s t:=fun s=>by
  unfold ba;rw[jcv (ha s)]
 unfold ao;rw[h.cls];split
 .refine jcv fun q hq=>?_;rw[ha _ q hq,hl]
 rfl
theorem Quiet.late(h:Quiet r f d t):∀(l:List Rul) (x:Int×Int),bw f d l x=bw f t l x
 |[],x=>rfl
 |q::l,x=>by
  unfold bw;have:dueF f d q=dueF f t q:=by unfold dueF;rw[h.trig]
  rw[this];exact h.late l _
theorem jjz{day:Int}{l:List Int}(h:d<=t)(hf:(l.any fun n=>decide (n=f.id))=true->Far d t day):ib d f day l=ib t f day l:=by
 unfold ib;cases e:l.any fun n=>decide (n=f.id) with
 |false=>rw[xm,xm]
 |true=>rw[qcm h (hf e)]
theorem Quiet.gone1(h:Quiet r f d t):gone1 r f d=gone1 r f t:=jgn fun c hc=>jjz h.le (h.crs c hc)
theorem Quiet.gone2(h:Quiet r f d t):gone2 r f d=gone2 r f t:=jgn fun c hc=>jjz h.le fun e=>h.dps c hc (by simpa using e)
theorem Quiet.sel(h:Quiet r f d t):selB r f d=selB r f t:=jgn fun c hc=>jjz h.le (h.sls c hc)
theorem jvw{l:List Ofc}{n:Int}{o:Ofc}(h:ar l n=some o):o∈l:=qv5 h
theorem Quiet.chainF(h:Quiet r f d t):∀(n:Nat) (o:Ofc),o∈r.ofs->chainF r.ofs d n o=chainF r.ofs t n o
 |0,o,_=>rfl
 |n+1,o,ho=>by
  have he:jl r.ofs d o=jl r.ofs t o:=by
   unfold jl;rw[jhx h.le (h.ofs o ho).1 (h.ofs o ho).2]
  unfold Arc.chainF;rw[he];cases e:jl r.ofs t o with
  |none=>rfl
  |some q=>
   have hq:q∈r.ofs:=by
    unfold jl at e;split at e
    .cases e
    split at e
    .cases e
    exact jvw e
   simp only;rw[h.chainF n q hq]
theorem Quiet.chain(h:Quiet r f d t)(n:Int):chain r.ofs n d=chain r.ofs n t:=by
 unfold Arc.chain;split
 .rfl
 cases e:ar r.ofs n with
 |none=>rfl
 |some o=>exact h.chainF _ o (jvw e)
theorem Quiet.hold(h:Quiet r f d t):cg r.ofs r.pls r.hls f d=cg r.ofs r.pls r.hls f t:=by
 unfold cg;rw[jcv fun x hx=>?_];unfold pb pj;rw[jhx h.le (h.hls x hx).1 (h.hls x hx).2,h.chain,h.cls]
def kdB(s:Int)(g1 g2 e:Bool)(k w late hd m:Bool):Int:=
 if s=0 then 0 else if g1=true then 1 else if g2=true then 2 else if e=true then 0 else if s=1 then 3 else if k=true then 4 else if w=true then 5 else if late=true then 6 else if hd=true then 7 else if m=true then 9 else 8
def dueL(r:Rgs)(f:Fil)(d:Int):Int:=(bw f d (ao r f d) (-1,0)).1
theorem jej(r:Rgs)(f:Fil)(d:Int):(vdt r f d).kind=kdB (Arc.state f d) (Arc.gone1 r f d) (Arc.gone2 r f d) (decide (ao r f d=[])) ((ao r f d).find? gl).isSome ((ao r f d).find? (ct f d)).isSome (decide (d<=dueL r f d)) (decide (cg r.ofs r.pls r.hls f d≠[])) ((ao r f d).any dx || selB r f d):=by
 unfold vdt kdB dueL;simp only[vr,qvt];split
 .rfl
 split
 .rfl
 split
 .rfl
 split
 .rfl
 split
 .rfl
 cases (ao r f d).find? gl with
 |some q=>rfl
 |none=>
  cases (ao r f d).find? (ct f d) with
  |some q=>rfl
  |none=>
   simp only[Option.isSome_none,vq,va];split
   .rfl
   split
   .rfl
   split<;>rfl
theorem qre(h:(vdt r f d).kind=6):(vdt r f d).due=dueL r f d/\d<=dueL r f d:=by
 unfold vdt at h ⊢;unfold dueL;simp only at h ⊢;split at h
 .cases h
 rename_i h1;rw[ul h1];split at h
 .cases h
 rename_i h1;rw[ul h1];split at h
 .cases h
 rename_i h1;rw[ul h1];split at h
 .cases h
 rename_i h1;rw[ul h1];split at h
 .cases h
 rename_i h1;rw[ul h1];cases e:(ao r f d).find? gl with
 |some q=>rw[e] at h;cases h
 |none=>
  rw[e] at h;simp only at h ⊢;cases e:(ao r f d).find? (ct f d) with
  |some q=>rw[e] at h;cases h
  |none=>
   rw[e] at h;simp only at h ⊢;split at h
   .rename_i h1;rw[um h1];exact⟨rfl,h1⟩
   split at h
   .cases h
   split at h<;>cases h
theorem qpc(s:Int)(g1 g2 e k w hd m:Bool):kdB s g1 g2 e k w true hd m=6\/∀b,kdB s g1 g2 e k w b hd m=kdB s g1 g2 e k w true hd m:=by
 unfold kdB;by_cases a:s=0
 .right;intro b;rw[um a,um a]
 rw[ul a];simp only[ul a];cases g1
 .cases g2
  .cases e
   .by_cases c:s=1
    .right;intro b;simp[c]
    cases k
    .cases w
     .left;simp[c]
     right;intro b;rfl
    right;intro b;rfl
   right;intro b;rfl
  right;intro b;rfl
 right;intro b;rfl
theorem Quiet.kind(h:Quiet r f d t)(b:Bool):kdB (Arc.state f d) (Arc.gone1 r f d) (Arc.gone2 r f d) (decide (ao r f d=[])) ((ao r f d).find? gl).isSome ((ao r f d).find? (ct f d)).isSome b (decide (cg r.ofs r.pls r.hls f d≠[])) ((ao r f d).any dx || selB r f d)=
  kdB (Arc.state f t) (Arc.gone1 r f t) (Arc.gone2 r f t) (decide (ao r f t=[])) ((ao r f t).find? gl).isSome ((ao r f t).find? (ct f t)).isSome b (decide (cg r.ofs r.pls r.hls f t≠[])) ((ao r f t).any dx || selB r f t):=by
 have hw:ct f d=ct f t:=by funext q;unfold ct;rw[h.trig]
 rw[h.state,h.gone1,h.gone2,h.rules,h.hold,h.sel,hw]
theorem Quiet.due(h:Quiet r f d t):dueL r f d=dueL r f t:=by unfold dueL;rw[h.rules,h.late]
theorem Quiet.other(h:Quiet r f d t)(h6:(vdt r f d).kind≠6):(vdt r f t).kind=(vdt r f d).kind:=by
 rw[jej] at h6;rw[jej,jej,<- h.kind,<- h.due];have hle:=h.le;by_cases hd:d<=dueL r f d
 .rw[ur hd] at h6 ⊢;rcases qpc (Arc.state f d) (Arc.gone1 r f d) (Arc.gone2 r f d) (decide (ao r f d=[])) ((ao r f d).find? gl).isSome ((ao r f d).find? (ct f d)).isSome (decide (cg r.ofs r.pls r.hls f d≠[])) ((ao r f d).any dx || selB r f d) with g|g
  .exact absurd g h6
  exact g _
 rw[ux hd,ux (show ¬t<=dueL r f d by omega)]
theorem Quiet.keep(h:Quiet r f d t)(h6:(vdt r f d).kind=6)(ht:t<=(vdt r f d).due):(vdt r f t).kind=6:=by
 obtain⟨h1,h2⟩:=qre h6;rw[h1] at ht;rw[jej,ur h2] at h6;rw[jej,<- h.kind,<- h.due,ur ht];exact h6
end Go.Arc
namespace Go.Arc
open Go.Ab
variable {n:Int}{f:Fil}{fs:List Fil}{l:List Int}{q:Rul}{d:Int}{x:Elm}{i:Nat}{j:Nat}{a:Int}{b:Int}{y:Dep}
def setG(ps:List (Int×Bool))(l:List Int):List (Int×Bool):=l.foldl (fun ps x=>upG ps x true) ps
def pk(ps:List (Int×Bool)):List Int:=ps.map (·.1)
theorem qar(x:Int)(b:Bool):∀ps,(∀y,y∈pk (upG ps x b)↔y=x\/y∈pk ps)/\((pk ps).Nodup->(pk (upG ps x b)).Nodup)
 |[]=>⟨fun y=>by simp[pk,upG],fun _=>by simp[pk,upG]⟩
 |(g,c)::r=>by
  obtain⟨h1,h2⟩:=qar x b r;unfold upG;by_cases h:x=g
  .rw[um h];subst h;exact⟨fun y=>by simp[pk],fun hn=>hn⟩
  rw[ul h];refine⟨fun y=>?_,fun hn=>?_⟩
  .have:=h1 y;simp only[pk,vl,vg] at this ⊢;rw[this];constructor
   .rintro (a|a|a)
    .exact .inr (.inl a)
    .exact .inl a
    exact .inr (.inr a)
   rintro (a|a|a)
   .exact .inr (.inl a)
   .exact .inl a
   exact .inr (.inr a)
  simp only[pk,vl,qwz] at hn ⊢;refine⟨fun hc=>?_,h2 hn.2⟩;rcases (h1 g).1 hc with e|e
  .exact h e.symm
  exact hn.1 e
theorem rx{x:Int}(h:fstE (x::l)=0):x=0/\fstE l=0:=by
 unfold fstE at h;by_cases hx:x≠0
 .rw[um hx] at h;exact absurd h hx
 rw[ul hx] at h;exact⟨omq,h⟩
structure OkG (r:Rgs):Prop where
 ofs:(fy r.ofs).2=0
 pls:(check r.pls).2=0
 fls:(jr r.ofs r.pls r.fls).2=0
 rls:(fh r.rls).2=0
 hls:(ji r.hls).2=0
 sls:cm r.fls [] (selE r)=0
 crs:cm r.fls (selE r) (crtE r)=0
 dps:cm r.fls (selE r++crtE r) (depE r)=0
theorem jpv{r:Rgs}(h:checkG r=0):OkG r:=by
 unfold checkG at h;obtain⟨h1,h⟩:=rx h;obtain⟨h2,h⟩:=rx h;obtain⟨h3,h⟩:=rx h;obtain⟨h4,h⟩:=rx h;obtain⟨h5,h⟩:=rx h;obtain⟨h6,h⟩:=rx h;obtain⟨h7,h⟩:=rx h;obtain⟨h8,h⟩:=rx h;exact⟨h1,h2,h3,h4,h5,h6,h7,h8⟩
theorem OkG.zero{r:Rgs}(h:OkG r):checkG r=0:=by
 unfold checkG;rw[h.ofs,h.pls,h.fls,h.rls,h.hls,h.sls,h.crs,h.dps];rfl
theorem OkG.goodR{r:Rgs}(h:OkG r):goodR r.rls=true:=by unfold Arc.goodR;rw[h.rls];rfl
theorem OkG.goodL{r:Rgs}(h:OkG r):goodL r.pls=true:=by unfold Arc.goodL;rw[h.pls];rfl
theorem jhl{fs:List Fil}: ∀(l pre:List Elm) (last:Option Elm),elsE fs pre last l=0->∀(i:Nat) x,l[i]?=some x->∃q,elmE fs (pre++l.take i) q x=0
 |[],_,_,_,i,x,hx=>by simp at hx
 |y::r,pre,last,h,0,x,hx=>by
  simp only[List.getElem?_cons_zero,uu] at hx;subst hx;unfold elsE at h;by_cases h0:elmE fs pre last y≠0
  .exact zde
  exact⟨last,by rw[List.take_zero,vw];omega⟩
 |y::r,pre,last,h,i+1,x,hx=>by
  unfold elsE at h;by_cases h0:elmE fs pre last y≠0
  .exact zde
  rw[ul h0] at h;obtain⟨q,hq⟩:=jhl r (pre++[y]) (some y) h i x zfc;exact⟨q,by rw[List.take_succ_cons,List.append_cons];exact hq⟩
theorem jr7{c:Prop}[Decidable c](ha:a≠0)(hb:b≠0):(if c then a else b)≠0:=by split<;>assumption
theorem jl8{pre:List Elm}{q:Option Elm}(h:elmE fs pre q x=0)(hg:x.gone=true)(hn:n∈x.fls):ax pre n=false:=by
 cases e:ax pre n
 .rfl
 exfalso;have h6:x.gone=true/\x.fls.any (ax pre)=true:=⟨hg,vp.2 ⟨n,hn,e⟩⟩;unfold elmE at h;rw[um h6] at h;exact jr7 dcq (jr7 dcq (jr7 dcq dcq)) h
theorem jkz{l:List Elm}(hx:x∈l)(hg:x.gone=true)(hn:n∈x.fls):ax l n=true:=by
 unfold ax;rw[vp];exact⟨x,hx,by rw[hg,yc,vp];exact⟨n,hn,ur rfl⟩⟩
theorem jbm{pre l:List Elm}(h:cm fs pre l=0):elsE fs pre none l=0:=by
 unfold cm at h;split at h
 .cases h
 exact h
theorem je0{α:Type}{l:List α}{x:α}(hx:l[i]?=some x)(h:i<j):x∈l.take j:=qw7.2 ⟨i,by rw[xt,um h];exact hx⟩
theorem OkG.crt1{r:Rgs}(h:OkG r){x y:Crt}(hx:r.crs[i]?=some x)(hy:r.crs[j]?=some y)(hn:n∈x.fls)(hm:n∈y.fls):i=j:=by
 have key:∀ {i j:Nat} {x y:Crt},r.crs[i]?=some x->r.crs[j]?=some y->n∈x.fls->n∈y.fls->¬i<j:=fun {i j x y} hx hy hn hm hij=>by
  have hy':(crtE r)[j]?=some y.el:=by unfold crtE;rw[vm,hy];rfl
  have hx':(crtE r)[i]?=some x.el:=by unfold crtE;rw[vm,hx];rfl
  obtain⟨q,hq⟩:=jhl _ _ _ (jbm h.crs) j _ hy';have h1:=jl8 hq rfl hm;have hm2:x.el∈selE r++(crtE r).take j:=qx2 _ (je0 hx' hij);rw[jkz hm2 rfl hn] at h1;cases h1
 have:=key hx hy hn hm;have:=key hy hx hm hn;omega
theorem OkG.crt_dep{r:Rgs}(h:OkG r){x:Crt}(hx:x∈r.crs)(hy:y∈r.dps)(hn:y.fil∈x.fls):False:=by
 obtain⟨j,hj⟩:=xc hy;have hy':(depE r)[j]?=some y.el:=by unfold depE;rw[vm,hj];rfl
 obtain⟨q,hq⟩:=jhl _ _ _ (jbm h.dps) j _ hy';have h1:=jl8 hq rfl (n:=y.fil) (xy.2 rfl);have hm2:x.el∈selE r++crtE r++(depE r).take j:=qwx _ (qx2 _ (by unfold crtE;exact xi.2 ⟨x,hx,rfl⟩));rw[jkz hm2 rfl hn] at h1;cases h1
theorem OkG.dep1{r:Rgs}(h:OkG r){x:Dep}(hx:r.dps[i]?=some x)(hy:r.dps[j]?=some y)(hn:x.fil=y.fil):i=j:=by
 have key:∀ {i j:Nat} {x y:Dep},r.dps[i]?=some x->r.dps[j]?=some y->x.fil=y.fil->¬i<j:=fun {i j x y} hx hy hn hij=>by
  have hy':(depE r)[j]?=some y.el:=by unfold depE;rw[vm,hy];rfl
  have hx':(depE r)[i]?=some x.el:=by unfold depE;rw[vm,hx];rfl
  obtain⟨q,hq⟩:=jhl _ _ _ (jbm h.dps) j _ hy';have h1:=jl8 hq rfl (n:=y.fil) (xy.2 rfl);have hm2:x.el∈selE r++crtE r++(depE r).take j:=qx2 _ (je0 hx' hij);rw[jkz hm2 rfl (xy.2 hn.symm)] at h1;cases h1
 have:=key hx hy hn;have:=key hy hx hn.symm;omega
def hasI(n:Int)(l:List Int):Bool:=l.any fun f=>decide (f=n)
theorem jmi: hasI n l=true↔n∈l:=by
 unfold hasI;rw[vp];constructor
 .rintro⟨x,hx,h⟩;have:=xp h;subst this;exact hx
 intro h;exact⟨n,h,ur rfl⟩
def dm(r:Rgs)(n:Int)(c d:Nat):Int×Int:=match (r.crs.take c).find? fun x=>hasI n x.fls with
 |some x=>(x.day,1)
 |none=>match (r.dps.take d).find? fun x=>decide (x.fil=n) with
  |some x=>(x.day,2)
  |none=>(0,0)
theorem OkG.gone{r:Rgs}(h:OkG r)(f:Fil):(∃t,dm r f.id r.crs.length r.dps.length=(t,1)/\∀d,gone1 r f d=decide (t<=d)/\gone2 r f d=false)\/
  (∃t,dm r f.id r.crs.length r.dps.length=(t,2)/\∀d,gone1 r f d=false/\gone2 r f d=decide (t<=d))\/
  (dm r f.id r.crs.length r.dps.length=(0,0)/\∀d,gone1 r f d=false/\gone2 r f d=false):=by
 have g1:∀d,gone1 r f d=r.crs.any fun c=>decide (c.day<=d) && hasI f.id c.fls:=fun d=>rfl
 have g2:∀d,gone2 r f d=r.dps.any fun c=>decide (c.day<=d) && decide (c.fil=f.id):=fun d=>by
  unfold gone2 ib;congr 1
  funext c
  simp
 unfold dm;rw[vk,vk];cases e:r.crs.find? fun x=>hasI f.id x.fls with
 |some x=>
  left;have hx:=qv5 e;have hn:f.id∈x.fls:=jmi.1 (qvs (p:=fun x:Crt=>hasI f.id x.fls) e);refine⟨x.day,rfl,fun d=>⟨?_,?_⟩⟩
  .rw[g1];obtain⟨i,hi⟩:=xc hx;by_cases hd:x.day<=d
   .rw[ur hd,vp];exact⟨x,hx,by rw[ur hd,jmi.2 hn];rfl⟩
   rw[ux hd,vn];intro y hy;obtain⟨j,hj⟩:=xc hy;by_cases hm:f.id∈y.fls
   .have:=h.crt1 hi hj hn hm;subst this;rw[hi] at hj;cases hj;rw[ux hd];simp
   have:hasI f.id y.fls=false:=by
    cases e2:hasI f.id y.fls
    .rfl
    exact absurd (jmi.1 e2) hm
   rw[this,xm];simp
  rw[g2,vn];intro y hy;by_cases hm:y.fil=f.id
  .exact absurd (h.crt_dep hx hy (by rw[hm];exact hn)) id
  rw[ux hm,xm];simp
 |none=>
  right
  have hno:∀d,gone1 r f d=false:=fun d=>by
   rw[g1,vn];intro y hy;have:=xw.1 e y hy
   have h2:hasI f.id y.fls=false:=by
    cases e2:hasI f.id y.fls
    .rfl
    exact absurd e2 this
   rw[h2,xm];simp
  cases e3:r.dps.find? fun x=>decide (x.fil=f.id) with
  |some x=>
   left;have hx:=qv5 e3;have hn:x.fil=f.id:=xp (qvs (p:=fun x:Dep=>decide (x.fil=f.id)) e3);refine⟨x.day,rfl,fun d=>⟨hno d,?_⟩⟩;rw[g2];obtain⟨i,hi⟩:=xc hx;by_cases hd:x.day<=d
   .rw[ur hd,vp];exact⟨x,hx,by rw[ur hd,ur hn];rfl⟩
   rw[ux hd,vn];intro y hy;obtain⟨j,hj⟩:=xc hy;by_cases hm:y.fil=f.id
   .have:=h.dep1 hi hj (hn.trans hm.symm);subst this;rw[hi] at hj;cases hj;rw[ux hd];simp
   rw[ux hm,xm];simp
  |none=>
   right;refine⟨rfl,fun d=>⟨hno d,?_⟩⟩;rw[g2,vn];intro y hy;have:=xw.1 e3 y hy
   have h2:decide (y.fil=f.id)=false:=by
    cases e2:decide (y.fil=f.id)
    .rfl
    exact absurd e2 this
   rw[h2,xm];simp
theorem OkG.rule{r:Rgs}(h:OkG r)(hq:q∈r.rls):Arc.goodR [q]=true/\1<=q.id/\q.id<=1073741824/\0<=q.yrs/\q.yrs<=200/\1<=q.act/\q.act<=3:=by
 obtain⟨i,hi⟩:=xc hq;have hlt:=(gsi.1 hi).1;have h0:=(om h.rls).2 i hlt;unfold jh at h0;rw[hi] at h0;simp only at h0;by_cases hb:badR q
 .rw[um hb] at h0;cases h0
 rw[ul hb] at h0;by_cases hp:mf r.rls i q=true
 .rw[um hp] at h0;cases h0
 rw[ul hp] at h0
 have hgood:Arc.goodR [q]=true:=by
  unfold Arc.goodR fh;rw[ir smq fun j hj=>?_]
  .rfl
  have hj0:j=0:=by simp at hj;omega
  subst hj0
  show (if badR q then(2:Int) else if mf [q] 0 q=true then 5 else ie q)=0
  rw[ul hb,ul (show ¬mf [q] 0 q=true from fun e=>by cases e)];exact h0
 unfold badR idB at hb;simp only[qvy] at hb;refine⟨hgood,?_⟩;omega
theorem OkG.file{r:Rgs}(h:OkG r)(hf:f∈r.fls):0<=f.opn/\f.opn<=1048575/\f.opn<=f.cld/\f.cld<=1048576/\1<=f.id/\∀n∈f.nts,dz n.fst n.lst=true/\f.opn<=n.rcd/\n.rcd<=1048575:=by
 obtain⟨i,hi⟩:=xc hf;have hlt:=(gsi.1 hi).1;have hz:=h.fls;unfold jr at hz;split at hz
 .cases hz
 have h0:=(om hz).2 i hlt;obtain⟨hb,-,-,-,-,hn⟩:=jss hi h0;obtain⟨-,-,hr,-⟩:=qe7 hn;unfold badF dayB at hb;simp only[qvy,not_or] at hb;refine⟨omq,omq,omq,omq,omq,fun n hn=>?_⟩;have:=vn.1 hr n hn;unfold ip dayB at this;simp only[qvu,Bool.not_eq_false,uw,vr] at this;exact⟨this.1,this.2.1,this.2.2⟩
theorem qgz(a b:Int):datB a b=dz a b:=by
 unfold datB dz;by_cases h1:0<=a<;>by_cases h2:a<=b<;>by_cases h3:b<=1048575<;>simp[h1,h2,h3]
theorem OkG.dat{r:Rgs}(h:OkG r)(hf:f∈r.fls){s:Str}(hd:d<=1048575)(ht:trig f s d=some (a,b)):datB a b=true:=by
 obtain⟨h1,h2,h3,h4,-,h5⟩:=h.file hf;unfold trig onD at ht;split at ht
 .split at ht
  .cases ht
  cases ht;exact zei
 split at ht
 .split at ht
  .cases ht
  cases ht;exact zei
 obtain⟨m,hm,he⟩:=msi.1 ht;have hmem:m∈own f s d:=(jlk hm).resolve_left smq;unfold own ii at hmem;have hmn:=(yp.1 (yp.1 hmem).1).1;cases he;rw[qgz];exact(h5 m hmn).1
theorem OkG.due{r:Rgs}(h:OkG r)(hf:f∈r.fls)(hq:q∈r.rls)(hd:d<=1048575)(ht:trig f q.trg d=some (a,b)):∃t,dueR q a b=some t/\dueF f d q=some t/\0<=t:=by
 have h1:=(h.rule hq).1;have h2:=h.dat hf hd ht;refine⟨((if q.yend=true then yearEndN (yearsN b.toNat q.yrs.toNat) else yearsN b.toNat q.yrs.toNat:Nat):Int),?_,?_,omq⟩
 .unfold dueR;rw[um ⟨h1,h2⟩]
 rw[jys ht];unfold dueR;rw[um ⟨h1,h2⟩]
def accT(f:Fil)(d:Int)(l:List Rul)(k:Nat):Int×Int:=if k=0 then(0,0) else(bw f d (l.take k) (-1,0))
theorem jyc{f:Fil}{d:Int}{l:List Rul}(hid:∀q∈l,1<=q.id)(hall:∀q∈l,∃t,dueF f d q=some t/\0<=t):∀k,0<k->k<=l.length->0<=(bw f d (l.take k) (-1,0)).1/\1<=(bw f d (l.take k) (-1,0)).2
 |0,h,_=>absurd h (qvz 0)
 |k+1,_,hk=>by
  obtain⟨q,hq,-,hm⟩:=ac (l:=l) (k:=k) omq;obtain⟨t,ht,h0⟩:=hall q hm;have h1:=hid q hm;rw[jk0 f d (-1,0) hq];by_cases hk0:k=0
  .subst hk0;have hlt:(bw f d (l.take 0) (-1,0)).1<t:=by show (-1:Int)<t;omega
   rw[jdw ht hlt];exact⟨h0,h1⟩
  have ih:=jyc hid hall k omq omq;by_cases hlt:(bw f d (l.take k) (-1,0)).1<t
  .rw[jdw ht hlt];exact⟨h0,h1⟩
  rw[jls ht hlt];exact ih
theorem qo9{l:List Rul}{k:Nat}{t:Int}(hid:∀q∈l,1<=q.id)(hall:∀q∈l.take k,∃t,dueF f d q=some t/\0<=t)(hq:l[k]?=some q)(ht:dueF f d q=some t)(h0:0<=t):
  ((accT f d l k).2=0/\accT f d l (k+1)=(t,q.id))\/((accT f d l k).2≠0/\(accT f d l k).1<t/\accT f d l (k+1)=(t,q.id))\/((accT f d l k).2≠0/\¬(accT f d l k).1<t/\accT f d l (k+1)=accT f d l k):=by
 have hs:accT f d l (k+1)=me f d (bw f d (l.take k) (-1,0)) q:=by
  unfold accT;rw[ul (yx k)];exact jk0 f d (-1,0) hq
 rw[hs];by_cases hk0:k=0
 .left;subst hk0;refine⟨rfl,jdw ht ?_⟩
  show (-1:Int)<t
  omega
 right;have hlt:=(gsi.1 hq).1;have hp:=jyc (f:=f) (d:=d) (l:=l.take k) (fun q h=>hid q (yu h)) hall k omq ze9;rw[List.take_take,Nat.min_self] at hp;have ha:accT f d l k=bw f d (l.take k) (-1,0):=by unfold accT;rw[ul hk0]
 rw[ha];by_cases hl:(bw f d (l.take k) (-1,0)).1<t
 .exact .inl ⟨omq,hl,jdw ht hl⟩
 exact .inr ⟨omq,hl,jls ht hl⟩
end Go.Arc
namespace Go.Arc
open Go.Ab
variable {r : Rgs}{f : Fil}{d : Int}
end Go.Arc
namespace Go.Arc
open Go.Ab
theorem qrr(l:List Hld)(h:Hld):uc l 0 h=false:=by unfold uc;rw[um rfl]
theorem qa2{l:List Hld}{i:Nat}{h q:Hld}(h0:i≠0)(hq:l[i-1]?=some q):uc l i h=decide (h.id<=q.id):=by unfold uc;rw[ul h0,hq]
def endE(q:Option Elm):List Elm->Option Elm
 |[]=>q
 |x::l=>endE (some x) l
theorem jwp{fs:List Fil}{x:Elm}: ∀(l pre:List Elm) (q:Option Elm),elsE fs pre q l=0->elmE fs (pre++l) (endE q l) x=0->elsE fs pre q (l++[x])=0
 |[],pre,q,_,h=>by
  rw[vw] at h
  show (if elmE fs pre q x≠0 then elmE fs pre q x else elsE fs (pre++[x]) (some x) [])=0
  have h:elmE fs pre q x=0:=h;rw[ul (fun e=>e h)];rfl
 |y::l,pre,q,h0,h=>by
  unfold elsE at h0;by_cases hy:elmE fs pre q y≠0
  .rw[um hy] at h0;exact absurd h0 hy
  rw[ul hy] at h0
  show (if elmE fs pre q y≠0 then elmE fs pre q y else elsE fs (pre++[y]) (some y) (l++[x]))=0
  rw[ul hy];exact jwp l (pre++[y]) (some y) h0 (by rw[vt];exact h)
theorem jwm:∀(l:List Elm) (q:Option Elm) (x:Elm),endE q (l++[x])=some x
 |[],_,_=>rfl
 |y::l,_,x=>jwm l (some y) x
theorem qi4(l:List Sel)(r:List Elm)(n:Int):ax (l.map Sel.el++r) n=ax r n:=by
 unfold ax;rw[qwm]
 have:((l.map Sel.el).any fun x=>x.gone && x.fls.any fun f=>decide (f=n))=false:=by
  rw[List.any_map,vn];intro x _
  exact fun hc=>by
   have hc:(false && (x.fls.any fun f=>decide (f=n)))=true:=hc;rw[qvg] at hc;cases hc
 rw[this,yb]
structure Gat (ps:List (Int×Bool)) (S:List Int):Prop where
 mem:∀x,x∈pk ps↔x∈S
 nd:(pk ps).Nodup
 len:ps.length<=S.length
theorem jzs(x:Int)(b:Bool):∀ps,(upG ps x b).length<=ps.length+1
 |[]=>uv _
 |(g,c)::r=>by
  have:=jzs x b r;unfold upG;split<;>simp only[List.length_cons]<;>omega
theorem Gat.up{ps:List (Int×Bool)}{S:List Int}(h:Gat ps S)(x:Int):Gat (upG ps x true) (S++[x]):=by
 obtain⟨h1,h2⟩:=qar x true ps;refine⟨fun y=>?_,h2 h.nd,?_⟩
 .rw[h1,h.mem,qw0,xy];exact or_comm
 have:=jzs x true ps;have:=h.len;rw[ve,List.length_singleton];omega
theorem Gat.set{S:List Int}: ∀(L:List Int) {ps:List (Int×Bool)},Gat ps S->Gat (setG ps L) (S++L)
 |[],ps,h=>by rw[vw];exact h
 |x::r,ps,h=>by
  have:=Gat.set r (h.up x);rw[vt] at this;exact this
end Go.Arc
namespace Go.Arc
open Go.Ab
variable {r : Rgs}{f : Fil}{d e a : Int}
theorem Runs.len{K:Int->Int}{b:Int}: ∀ {l:List Pce} {a:Int},Runs K b a l->a+l.length<=b
 |[],a,h=>by have:a=b:=h;simp;omega
 |p::l,a,h=>by
  have:=h.2.2.2.2.len;have:=h.2.1;simp only[List.length_cons];omega
end Go.Arc
namespace Go.Arc
open Go.Ab
structure Stp where
 kind:Int
 num:Int
 fst:Int
 lst:Int
 txt:Str
 deriving DecidableEq
abbrev Stp.cs(s:Stp):List V:=[vi s.kind,vi s.num,vi s.fst,vi s.lst,.str s.txt]
end Go.Arc
namespace Go.Arc
open Go.Ab
variable {r : Rgs}{f : Fil}{d : Int}
theorem qoe:(d<f.opn/\(vdt r f d).kind=0)\/(¬d<f.opn/\gone1 r f d=true/\(vdt r f d).kind=1)\/(¬d<f.opn/\gone1 r f d=false/\gone2 r f d=true/\(vdt r f d).kind=2)\/
  (¬d<f.opn/\gone1 r f d=false/\gone2 r f d=false/\((vdt r f d).kind=0\/(vdt r f d).kind=3\/(vdt r f d).kind=4\/
   ((vdt r f d).kind=5/\(vdt r f d).hls=[]/\∃q∈ao r f d,ct f d q=true)\/
   ((∀q∈ao r f d,ct f d q=false)/\((vdt r f d).kind=6\/(vdt r f d).kind=7\/(vdt r f d).kind=8\/(vdt r f d).kind=9)))):=by
 have hs:state f d=0↔d<f.opn:=by
  unfold Arc.state;by_cases h1:d<f.opn
  .simp[h1]
  by_cases h2:d<f.cld<;>simp[h1,h2]
 by_cases h0:d<f.opn
 .exact .inl ⟨h0,by simp only[vdt];rw[um (hs.2 h0)]⟩
 refine .inr ?_;have h0':¬state f d=0:=fun e=>h0 (hs.1 e);cases h1:gone1 r f d with
 |true=>exact .inl ⟨h0,rfl,by simp only[vdt];rw[ul h0',um h1]⟩
 |false=>
  refine .inr ?_;have h1':¬gone1 r f d=true:=by rw[h1];exact Bool.false_ne_true
  cases h2:gone2 r f d with
  |true=>exact .inl ⟨h0,rfl,rfl,by simp only[vdt];rw[ul h0',ul h1',um h2]⟩
  |false=>
   refine .inr ⟨h0,rfl,rfl,?_⟩;have h2':¬gone2 r f d=true:=by rw[h2];exact Bool.false_ne_true
   simp only[vdt];rw[ul h0',ul h1',ul h2'];by_cases h3:ao r f d=[]
   .rw[um h3];exact .inl rfl
   rw[ul h3];by_cases h4:state f d=1
   .rw[um h4];exact .inr (.inl rfl)
   rw[ul h4];cases h5:(ao r f d).find? gl with
   |some q=>exact .inr (.inr (.inl rfl))
   |none=>
    cases h6:(ao r f d).find? (ct f d) with
    |some q=>exact .inr (.inr (.inr (.inl ⟨rfl,rfl,q,qv5 h6,qvs (p:=ct f d) h6⟩)))
    |none=>
     refine .inr (.inr (.inr (.inr ⟨fun q hq=>eq_false_of_ne_true (xw.1 h6 q hq),?_⟩)))
     dsimp only
     by_cases h7:d<=(bw f d (ao r f d) (-1,0)).1
     .rw[um h7];exact .inl rfl
     rw[ul h7];by_cases h8:cg r.ofs r.pls r.hls f d≠[]
     .rw[um h8];exact .inr (.inl rfl)
     rw[ul h8];by_cases h9:(ao r f d).any dx=true\/selB r f d=true
     .rw[um h9];exact .inr (.inr (.inr rfl))
     rw[ul h9];exact .inr (.inr (.inl rfl))
end Go.Arc
namespace Go.Arc
open Go.Ab
variable {id:Int}{r:Rgs}
abbrev decS(n:Int):Str:=Lib.itoa n
theorem qbl{n:Int}(h:¬n<0):decS n=Lib.decDigits n.toNat:=ul h
theorem ly{α:Type}(p:α->Bool)(l:List α):(ix p l= -1/\l.find? p=none)\/∃(k:Nat) (q:α),ix p l=k/\k<l.length/\l[k]?=some q/\q∈l/\l.find? p=some q:=by
 unfold ix;cases h:l.findIdx? p with
 |none=>
  left;rw[qwt] at h;exact⟨rfl,xw.2 fun x hx=>by simp[h x hx]⟩
 |some k=>
  right;obtain⟨hk,h1,h2⟩:=qwb.1 h;exact⟨k,l[k],rfl,hk,gge hk,qwp hk,List.find?_eq_some_iff_getElem.2 ⟨h1,k,hk,rfl,fun j hj=>by simpa using h2 j hj⟩⟩
def askE(r:Rgs)(id:Int):Int:=if checkG r≠0 then 1 else if cv r.fls id<0 then 7 else 0
theorem qux(h:checkG r≠0):askE r id=1:=um h
theorem quw(h:checkG r=0)(h2:cv r.fls id<0):askE r id=7:=by unfold askE;rw[ul (fun e=>e h),um h2]
theorem qd2(h:checkG r=0)(h2:¬cv r.fls id<0):askE r id=0:=by unfold askE;rw[ul (fun e=>e h),ul h2]
def filA(r:Rgs)(id:Int):Fil:=match r.fls.find? (iw id) with
 |some f=>f
 |none=>⟨0,0,0,0,[],[],0,[]⟩
theorem jhj(h:¬cv r.fls id<0):∃k:Nat,cv r.fls id=k/\k<r.fls.length/\r.fls[k]?=some (filA r id)/\filA r id∈r.fls/\(filA r id).id=id:=by
 rcases ly (iw id) r.fls with⟨h1,-⟩|⟨k,q,h1,h2,h3,h4,h5⟩
 .exact absurd (show cv r.fls id<0 by unfold cv;rw[h1];decide) h
 have he:filA r id=q:=by unfold filA;rw[h5]
 rw[he];exact⟨k,h1,h2,h3,h4,xp (p:=q.id=id) (show iw id q=true from qvs (p:=iw id) h5)⟩
def onE(r:Rgs)(id d:Int):Int:=if askE r id≠0 then askE r id else if dayG d=false then 2 else 0
def vdtZ:Vdt:=⟨0,0,0,0,0,[]⟩
def onV(r:Rgs)(id d:Int):Vdt:=if onE r id d=0 then vdt r (filA r id) d else vdtZ
theorem qpo(h:r.Fit)(h2:¬cv r.fls id<0):(filA r id).Fit:=by
 obtain⟨k,-,-,-,hm,-⟩:=jhj h2;exact h.fls.2 _ hm
theorem qd1(h:askE r id=0):checkG r=0/\¬cv r.fls id<0:=by
 unfold askE at h;split at h
 .cases h
 rename_i h1;split at h
 .cases h
 exact⟨omq,by assumption⟩
theorem qqm{n:Nat}(h:n<10000000000):(Lib.decDigits n).length<=10:=by
 rw[Lib.decDigits_length];refine Nat.le_of_not_lt fun hlt=>?_
 have key:∀(k u:Nat),u<10 ^ (k+1)->Lib.nDigits u<=k+1:=by
  intro k
  induction k with
  |zero=>intro u hu;rw[Lib.nDigits_small (by simpa using hu)];exact uv _
  |succ k ih=>
   intro u hu;by_cases h10:u<10
   .rw[Lib.nDigits_small h10];omega
   exact zd6
 exact absurd (key 9 n h) omq
def qdc:List Stp->List Stp->Option Nat
  |[],[]=>none
  |a::l,b::x=>if a=b then(qdc l x).map (· + 1) else some 0
  |[],_::_=>some 0
  |_::_,[]=>some 0
def jra(l x:List Stp):Int:=match qdc l x with
 |some i=>i
 |none=> -1
def jir(s:Str):Prop:=∀c∈s,32<=c.toNat
theorem jir.app{s t:Str}(h:jir s)(g:jir t):jir (s++t):=fun c hc=>(qw0.1 hc).elim (h c) (g c)
end Go.Arc
namespace Go.Arc
open Go.Ab
variable {r : Rgs}{f : Fil}{d : Int}
structure FactS (r:Rgs) (f:Fil) (d:Int) (s:Stp):Prop where
 opn:s.kind=8->s.fst=f.opn/\s.lst=f.cld
 cls:s.kind=1->s.txt=(bu r.pls f d).1/\((bu r.pls f d).2=0↔0<s.num)
 trg:s.kind=3->∃(i:Nat) (q:Rul),jcr r.rls s.num=i/\r.rls[i]?=some q/\trig f q.trg d=some (s.fst,s.lst)
 due:s.kind=4->∃(i:Nat) (q:Rul) (t:Int×Int),jcr r.rls s.num=i/\r.rls[i]?=some q/\trig f q.trg d=some t/\dueR q t.1 t.2=some s.lst
 sel:s.kind=5->∃c∈r.sls,c.smp=s.num/\c.day=s.fst/\ib d f c.day c.fls=true
end Go.Arc
