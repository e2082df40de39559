/- A part of this claim. -/
import Derived.Test.YtpaallejmocmaaaGreatDoorBaS
namespace Go.Arc
open Go.Ab
variable {i:Nat}{l:List Int}{α:Type}{f:Fil}
def aq(l:List α)(i:Nat):Option α:=if i=0 then none else l[i-1]?
def jaw(q:Option Clk)(c:Clk):Bool:=match q with|some q=>decide (c.id<=q.id)|none=>false
def di(l:List Clk)(i:Nat):Int:=match l[i]? with
 |none=>0
 |some c=>if idB c.id=false\/c.role<1\/3<c.role\/bm c.frm c.til=false then 2 else if name c.name=false then 4 else
  if jaw (aq l i) c=true then 5 else 0
def fg(n d:Int)(c:Clk):Bool:=decide (c.id=n) && inS c.frm c.til d
def jy(l:List Clk)(n d:Int):Bool:=l.any (fg n d)
def ce(n:Int)(p:Prp):Bool:=decide (p.id=n)
def iy(l:List Prp)(n:Int):Int:=ix (ce n) l
def jem(n:Int)(c:Crt):Bool:=decide (c.prp=n)
def ml(l:List Crt)(n:Int):Bool:=l.any (jem n)
def nw(d f:Int)(q:Prp):Bool:=decide (d<q.wdr) && hasI f q.fls
def tl(l:List Prp)(d f:Int):Bool:=l.any (nw d f)
def wdrB(p:Prp):Bool:=(decide (p.day<=p.wdr) && decide (p.wdr<=1048575)) || decide (p.wdr=1048576)
def kq(q:Option Prp)(p:Prp):Bool:=match q with|some q=>decide (p.id<=q.id) || decide (p.day<q.day)|none=>false
def prpE(r:Rgs)(pre:List Prp)(q:Option Prp)(p:Prp):Int:=
 if idB p.id=false\/dayG p.day=false\/wdrB p=false then 2 else
 if kq q p=true then 5 else
 if jy r.cks p.clk p.day=false then 7 else if p.fls=[] then 9 else
 if p.fls.all (hasF r.fls)=false then 7 else if risI p.fls=false then 5 else
 if p.fls.any (tl pre p.day)=true then 6 else 0
def fb(r:Rgs)(i:Nat):Int:=match r.pps[i]? with
 |none=>0
 |some p=>prpE r (r.pps.take i) (aq r.pps i) p
def jv(a b:Apv):Bool:=decide (b.prp=a.prp) && decide (b.clk=a.clk)
def se(q:Option Apv)(a:Apv):Bool:=match q with|some q=>decide (a.day<q.day)|none=>false
def apvE(r:Rgs)(pre:List Apv)(q:Option Apv)(a:Apv)(p:Prp):Int:=
 if a.day<p.day\/1048575<a.day then 2 else
 if se q a=true then 5 else
 if p.wdr<=a.day then 11 else if jy r.cks a.clk a.day=false then 7 else if a.clk=p.clk then 22 else
 if pre.any (jv a)=true then 6 else 0
def dj(r:Rgs)(i:Nat):Int:=match r.aps[i]? with
 |none=>0
 |some a=>match r.pps.find? (ce a.prp) with
  |none=>7
  |some p=>apvE r (r.aps.take i) (aq r.aps i) a p
def crtB(c:Crt):Bool:=idB c.num && idB c.prp && dayG c.day && decide (1<=c.fls.length) && decide (c.fls.length<=256) && risI c.fls && c.fls.all idB && decide (c.bef.length=32)
def jeu:Str:=[99,101,114,116,105,102,105,99,97,116,101,32]
def jdl:Str:=[32,112,114,111,112,111,115,97,108,32]
def jet:Str:=[32,100,97,121,32]
def jei:Str:=[32,102,105,108,101,115]
def flsT(l:List Int):Str:=(l.map fun f=>32::decS f).flatten
def crtT(c:Crt):Str:=jeu++decS c.num++jdl++decS c.prp++jet++decS c.day++jei++flsT c.fls++10::c.bef
def digR(c:Crt):Str×Int:=if crtB c=true then(sumD (crtT c),0) else([],1)
def befC(l:List Crt)(i:Nat):Str:=match aq l i with
 |some c=>c.dig
 |none=>List.replicate 32 0
def sk(b:Str)(i:Nat)(c:Crt):Bool:=crtB c && decide (c.num=(i:Int)+1) && (c.dig == sumD (crtT c)) && (c.bef == b)
def dt(l:List Crt)(i:Nat):Bool:=match l[i]? with
 |some c=>sk (befC l i) i c
 |none=>false
def jia(l:List Crt):Int×Int:=chk 1024 l.length fun i=>if dt l i=true then 0 else 14
def dc(r:Rgs)(i:Nat):Int:=match r.crs[i]? with
 |none=>0
 |some c=>match r.pps.find? (ce c.prp) with
  |none=>7
  |some p=>if c.fls≠p.fls then 10 else if dt r.crs i=false then 14 else 0
def chkN(r:Rgs):List Int:=[(chk 32 r.cks.length (di r.cks)).2,(chk 1024 r.pps.length (fb r)).2,(chk 1024 r.aps.length (dj r)).2,(chk r.crs.length r.crs.length (dc r)).2]
def ea(r:Rgs):Int:=fstE (checkG r::chkN r)
def ic:Rgs:=⟨[],[],[],[],[],[],[],[],[],[],[],0⟩
def chgd(x:Rgs):Rgs×Int:=if ea x≠0 then(ic,ea x) else(x,0)
def morC(r:Rgs)(c:Crt):Rgs:= { r with crs:=r.crs++[c] }
def forA(n d:Int)(a:Apv):Bool:=decide (a.prp=n) && decide (a.day<=d)
def ui(n:Int)(c:Clk):Bool:=decide (c.id=n) && decide (c.role=2)
def apvB(r:Rgs)(n d:Int):Bool:=decide (2<=(r.aps.filter (forA n d)).length) && (r.aps.filter (forA n d)).any fun a=>r.cks.any (ui a.clk)
def ij(r:Rgs)(d f:Int):Bool:= !(decide (onE r f d=0) && decide ((onV r f d).kind=8))
def tn(r:Rgs)(p:Prp)(d:Int):Int:=if d<p.day then 5 else if p.wdr<=d\/ml r.crs p.id=true then 11 else if apvB r p.id d=false then 22 else
 if p.fls.any (ij r d)=true then 21 else 0
def kg(r:Rgs)(n d:Int):Int:=if ea r≠0 then 1 else match r.pps.find? (ce n) with
 |none=>7
 |some p=>if dayG d=false then 2 else tn r p d
def crtZ:Crt:=⟨0,0,0,[],[],[]⟩
def newC(r:Rgs)(n d:Int)(l:List Int):Crt:=⟨(r.crs.length:Int)+1,n,d,l,befC r.crs r.crs.length,[]⟩
def newD(r:Rgs)(n d:Int)(l:List Int):Crt:= { newC r n d l with dig:=sumD (crtT (newC r n d l)) }
def depB(l:List Int)(x:Dep):Bool:=hasI x.fil l
def mg(q:Option Crt)(d:Int):Bool:=match q with|some c=>decide (d<c.day)|none=>false
def desE(r:Rgs)(n d:Int):Int:=if kg r n d≠0 then kg r n d else match r.pps.find? (ce n) with
 |none=>7
 |some p=>if mg (aq r.crs r.crs.length) d=true then 5 else
  if r.dps.any (depB p.fls)=true then 6 else 0
def flsP(r:Rgs)(n:Int):List Int:=match r.pps.find? (ce n) with
 |none=>[]
 |some p=>p.fls
def desR(r:Rgs)(n d:Int):Rgs×Crt×Int:=if desE r n d≠0 then(ic,crtZ,desE r n d) else(morC r (newD r n d (flsP r n)),newD r n d (flsP r n),0)
theorem qlp: fstE l=0↔∀x∈l,x=0:=by
 induction l with
 |nil=>exact⟨fun _ x hx=>(xz hx).elim,fun _=>rfl⟩
 |cons a l ih=>
  constructor
  .intro h;obtain⟨h1,h2⟩:=rx h;intro x hx;rcases vg.1 hx with rfl|hx
   .exact h1
   exact ih.1 h2 x hx
  intro h;unfold fstE;rw[ul fun e=>e (h a (.head _))];exact ih.2 fun x hx=>h x (.tail _ hx)
theorem jfm{lim n:Nat}{f:Nat->Int}: (chk lim n f).2=0↔¬lim<n/\∀i,i<n->f i=0:=⟨om,fun h=>by rw[ir h.1 h.2]⟩
structure Ok14 (r:Rgs):Prop where
 g:checkG r=0
 ck:¬ 32<r.cks.length/\∀i,i<r.cks.length->di r.cks i=0
 pp:¬ 1024<r.pps.length/\∀i,i<r.pps.length->fb r i=0
 ap:¬ 1024<r.aps.length/\∀i,i<r.aps.length->dj r i=0
 cr:∀i,i<r.crs.length->dc r i=0
theorem jhb{r:Rgs}: ea r=0↔Ok14 r:=by
 unfold ea chkN;rw[qlp];constructor
 .intro h;exact⟨h _ smq,om (h _ smq),om (h _ smq),om (h _ smq),(om (h (chk r.crs.length r.crs.length (dc r)).2 smq)).2⟩
 intro h x hx;simp only[vg,xz,ya] at hx;rcases hx with rfl|rfl|rfl|rfl|rfl
 .exact h.g
 .exact jfm.2 h.ck
 .exact jfm.2 h.pp
 .exact jfm.2 h.ap
 exact jfm.2 ⟨qvz _,h.cr⟩
structure OkP (r:Rgs) (pre:List Prp) (q:Option Prp) (p:Prp):Prop where
 id:idB p.id=true
 day:dayG p.day=true
 wdr:wdrB p=true
 prev:∀x,q=some x->x.id<p.id/\x.day<=p.day
 clk:jy r.cks p.clk p.day=true
 ne:p.fls≠[]
 all:p.fls.all (hasF r.fls)=true
 ris:risI p.fls=true
 free:p.fls.any (tl pre p.day)=false
theorem ql1{r:Rgs}{pre:List Prp}{q:Option Prp}{p:Prp}: prpE r pre q p=0↔OkP r pre q p:=by
 unfold prpE;constructor
 .intro h;by_cases h1:idB p.id=false\/dayG p.day=false\/wdrB p=false
  .rw[um h1] at h;cases h
  rw[ul h1] at h;have h1a:¬idB p.id=false:=fun e=>h1 (.inl e);have h1b:¬dayG p.day=false:=fun e=>h1 (.inr (.inl e));have h1c:¬wdrB p=false:=fun e=>h1 (.inr (.inr e));by_cases h2:kq q p=true
  .rw[um h2] at h;cases h
  rw[ul h2] at h;by_cases h3:jy r.cks p.clk p.day=false
  .rw[um h3] at h;cases h
  rw[ul h3] at h;by_cases h4:p.fls=[]
  .rw[um h4] at h;cases h
  rw[ul h4] at h;by_cases h5:p.fls.all (hasF r.fls)=false
  .rw[um h5] at h;cases h
  rw[ul h5] at h;by_cases h6:risI p.fls=false
  .rw[um h6] at h;cases h
  rw[ul h6] at h;by_cases h7:p.fls.any (tl pre p.day)=true
  .rw[um h7] at h;cases h
  refine⟨by simpa using h1a,by simpa using h1b,by simpa using h1c,fun x hx=>?_,by simpa using h3,h4,by simpa using h5,by simpa using h6,by simpa using h7⟩;subst hx;unfold kq at h2;simp only[qvt,vr] at h2;omega
 intro h
 have h2:¬kq q p=true:=by
  cases q with
  |none=>exact fun e=>nomatch e
  |some x=>
   have:=h.prev x rfl;unfold kq;simp only[qvt,vr];omega
 rw[ul (by rw[h.id,h.day,h.wdr];decide),ul h2,ul (by rw[h.clk];decide),ul h.ne,ul (by rw[h.all];decide),ul (by rw[h.ris];decide),ul (by rw[h.free];decide)]
theorem Ok14.prp{r:Rgs}(h:Ok14 r){p:Prp}(hp:r.pps[i]?=some p):OkP r (r.pps.take i) (aq r.pps i) p:=by
 have:=h.pp.2 i (gsi.1 hp).1;unfold fb at this;rw[hp] at this;exact ql1.1 this
theorem Ok14.ids{r:Rgs}(h:Ok14 r):∀(j i:Nat) (p q:Prp),i<j->r.pps[i]?=some p->r.pps[j]?=some q->p.id<q.id
 |0,i,_,_,hij,_,_=>absurd hij (yf i)
 |j+1,i,p,q,hij,hp,hq=>by
  have hjl:j<r.pps.length:=by have:=(gsi.1 hq).1;omega
  obtain⟨x,hx⟩:∃x,r.pps[j]?=some x:=⟨_,gge hjl⟩;have h1:=(h.prp hq).prev x (by unfold aq;rw[ul (yx j)];exact hx);rcases vo i j with hlt|hge
  .have:=h.ids j i p x hlt hp hx;omega
  have:i=j:=omq;subst this;rw[hp] at hx;cases hx;exact h1.1
structure OkE (fs:List Fil) (pre:List Elm) (q:Option Elm) (x:Elm):Prop where
 id:idB x.id=true
 day:dayG x.day=true
 all:x.fls.all (hasF fs)=true
 ris:risI x.fls=true
 prev:∀y,q=some y->y.day<=x.day
 free:x.gone=true->x.fls.any (ax pre)=false
def jr6(q:Option Elm)(x:Elm):Bool:=match q with|some q=>decide (x.day<q.day)|none=>false
theorem qbb(fs:List Fil)(pre:List Elm)(q:Option Elm)(x:Elm):elmE fs pre q x=if idB x.id=false\/dayG x.day=false then 2 else if x.fls.all (hasF fs)=false then 7 else
  if risI x.fls=false\/jr6 q x=true then 5 else if x.gone=true/\x.fls.any (ax pre)=true then 6 else 0:=rfl
theorem jwq{fs:List Fil}{pre:List Elm}{q:Option Elm}{x:Elm}(h:elmE fs pre q x=0):OkE fs pre q x:=by
 rw[qbb] at h;by_cases h1:idB x.id=false\/dayG x.day=false
 .rw[um h1] at h;cases h
 rw[ul h1] at h;by_cases h2:x.fls.all (hasF fs)=false
 .rw[um h2] at h;cases h
 rw[ul h2] at h;by_cases h3:risI x.fls=false\/jr6 q x=true
 .rw[um h3] at h;cases h
 rw[ul h3] at h;by_cases h4:x.gone=true/\x.fls.any (ax pre)=true
 .rw[um h4] at h;cases h
 have h1a:¬idB x.id=false:=fun e=>h1 (.inl e);have h1b:¬dayG x.day=false:=fun e=>h1 (.inr e);have h3a:¬risI x.fls=false:=fun e=>h3 (.inl e);refine⟨by simpa using h1a,by simpa using h1b,by simpa using h2,by simpa using h3a,fun y hy=>?_,fun hg=>?_⟩
 .subst hy;have h3b:¬(decide (x.day<y.day))=true:=fun e=>h3 (.inr e);simp only[vr] at h3b;omega
 cases e:x.fls.any (ax pre) with
 |false=>rfl
 |true=>exact absurd ⟨hg,e⟩ h4
theorem qba{fs:List Fil}{pre:List Elm}{q:Option Elm}{x:Elm}(h:OkE fs pre q x):elmE fs pre q x=0:=by
 have h3:¬(risI x.fls=false\/jr6 q x=true):=by
  rintro (e|e)
  .rw[h.ris] at e;cases e
  cases q with
  |none=>cases e
  |some y=>
   have:=h.prev y rfl;have e:decide (x.day<y.day)=true:=e;simp only[vr] at e;omega
 have h4:¬(x.gone=true/\x.fls.any (ax pre)=true):=fun⟨hg,e⟩=>by
  rw[h.free hg] at e;cases e
 rw[qbb,ul (by rw[h.id,h.day];decide),ul (by rw[h.all];decide),ul h3,ul h4]
theorem jl7{fs:List Fil}{pre:List Elm}{q:Option Elm}{x:Elm}{l:List Elm}: elsE fs pre q (x::l)=0↔elmE fs pre q x=0/\elsE fs (pre++[x]) (some x) l=0:=by
 rw[elsE];constructor
 .intro h;by_cases h0:elmE fs pre q x≠0
  .exact zde
  rw[ul h0] at h;exact⟨omq,h⟩
 rintro⟨h1,h2⟩;rw[ul fun e=>e h1];exact h2
theorem jyo:∀(l:List Elm) (x z:Elm),endE (some x) l=some z->z=x\/z∈l
 |[],x,z,h=>by cases h;exact .inl rfl
 |y::l,x,z,h=>by
  rcases jyo l y z h with rfl|h
  .exact .inr (.head _)
  exact .inr (.tail _ h)
theorem jyp{fs:List Fil}: ∀(l pre:List Elm) (q:Option Elm),elsE fs pre q l=0->(∀y,q=some y->∀x∈l,y.day<=x.day)/\∀x∈l,∀z,endE q l=some z->x.day<=z.day
 |[],_,_,_=>⟨fun _ _ x hx=>(xz hx).elim,fun x hx=>(xz hx).elim⟩
 |x::l,pre,q,h=>by
  obtain⟨h1,h2⟩:=jl7.1 h;obtain⟨g1,g2⟩:=jyp l (pre++[x]) (some x) h2;have hx:=jwq h1;refine⟨fun y hy z hz=>?_,fun z hz w hw=>?_⟩
  .rcases vg.1 hz with rfl|hz
   .exact hx.prev y hy
   exact Int.le_trans (hx.prev y hy) (g1 x rfl z hz)
  rcases vg.1 hz with rfl|hz
  .rcases jyo l z w hw with rfl|hm
   .exact Int.le_refl _
   exact g1 z rfl w hm
  exact g2 z hz w hw
theorem jwo{fs:List Fil}: ∀(l pre pre':List Elm) (q:Option Elm),(∀x∈l,∀n∈x.fls,ax pre' n=ax pre n)->elsE fs pre q l=0->elsE fs pre' q l=0
 |[],_,_,_,_,_=>rfl
 |x::l,pre,pre',q,hg,h=>by
  obtain⟨h1,h2⟩:=jl7.1 h;have hx:=jwq h1;refine jl7.2 ⟨qba ⟨hx.id,hx.day,hx.all,hx.ris,hx.prev,fun e=>?_⟩,jwo l (pre++[x]) (pre'++[x]) (some x) (fun y hy n hn=>?_) h2⟩
  .rw[vn];intro n hn;rw[hg x (.head _) n hn];exact vn.1 (hx.free e) n hn
  rw[jgv,jgv,hg y (.tail _ hy) n hn]
theorem jrp(g:α->Elm)(l:List α):endE none (l.map g)=(l[l.length-1]?).map g\/l=[]:=by
 rcases List.eq_nil_or_concat l with e|⟨m,q,e⟩
 .exact .inr e
 left;rw[List.concat_eq_append] at e;subst e;rw[vy,List.map_singleton,jwm];simp
theorem Ok14.crt{r:Rgs}(h:Ok14 r){c:Crt}(hc:r.crs[i]?=some c):(∃p,r.pps.find? (ce c.prp)=some p/\c.fls=p.fls)/\sk (befC r.crs i) i c=true:=by
 have hz:=h.cr i (gsi.1 hc).1;unfold dc at hz;rw[hc] at hz;simp only at hz;cases hf:r.pps.find? (ce c.prp) with
 |none=>rw[hf] at hz;cases hz
 |some p=>
  rw[hf] at hz;simp only at hz;by_cases h1:c.fls≠p.fls
  .rw[um h1] at hz;cases hz
  rw[ul h1] at hz;by_cases h2:dt r.crs i=false
  .rw[um h2] at hz;cases hz
  refine⟨⟨p,rfl,qwo.1 h1⟩,?_⟩;unfold dt at h2;rw[hc] at h2;simpa using h2
theorem jhp{r:Rgs}(h:Ok14 r):(befC r.crs r.crs.length).length=32:=by
 unfold befC aq;by_cases h0:r.crs.length=0
 .rw[um h0];rfl
 rw[ul h0];obtain⟨c,hc⟩:∃c,r.crs[r.crs.length-1]?=some c:=⟨_,gge omq⟩;rw[hc];obtain⟨-,hl⟩:=h.crt hc;unfold sk at hl;simp only[uw,qvc] at hl
 show c.dig.length=32
 rw[hl.1.2];exact jdv _
theorem jhh{r:Rgs}{n:Int}{p:Prp}(hp:r.pps.find? (ce n)=some p):p.id=n/\∃k:Nat,r.pps[k]?=some p:=by
 exact⟨xp (p:=p.id=n) (show ce n p=true from qvs (p:=ce n) hp),xc (qv5 hp)⟩
theorem qug{r:Rgs}(h:OkG r)(hl:l.all (hasF r.fls)=true):l.all idB=true:=by
 rw[vj] at hl ⊢;intro n hn;obtain⟨f,hf,he⟩:=vp.1 (hl n hn);have he:=xp he;subst he;have hz:=h.fls;unfold jr at hz;split at hz
 .cases hz
 obtain⟨-,hz⟩:=om hz;obtain⟨i,hi⟩:=xc hf;have h0:=(jss hi (hz i (gsi.1 hi).1)).1;unfold badF at h0;unfold idB;refine ur ?_;omega
theorem qp1{r:Rgs}(h:Ok14 r)(hl:r.crs.length<1024){n d:Int}{p:Prp}(hp:r.pps.find? (ce n)=some p)(hd:dayG d=true)(h12:p.fls.length<=256) 
  (hlast:mg (aq r.crs r.crs.length) d=false) (hdep:r.dps.any (depB p.fls)=false) (hv:∀f∈p.fls,∀c∈r.crs,c.day<=d->hasI f c.fls=false):
  crtB (newC r n d p.fls)=true/\Ok14 (morC r (newD r n d p.fls)):=by
 obtain⟨hid,k,hk⟩:=jhh hp;have hP:=h.prp hk;have hG:=jpv h.g;have hnz:1<=p.fls.length:=xj.2 hP.ne
 have hB:crtB (newC r n d p.fls)=true:=by
  unfold crtB newC;simp only[uw,vr];refine⟨⟨⟨⟨⟨⟨⟨?_,?_⟩,hd⟩,hnz⟩,h12⟩,hP.ris⟩,qug hG hP.all⟩,jhp h⟩
  .unfold idB;refine ur ?_;omega
  rw[<- hid];exact hP.id
 refine⟨hB,?_⟩;obtain⟨c,hc⟩:∃c,newD r n d p.fls=c:=⟨_,rfl⟩;have hcn:c.num=(r.crs.length:Int)+1:=by rw[<- hc];rfl
 have hcp:c.prp=n:=by rw[<- hc];rfl
 have hcd:c.day=d:=by rw[<- hc];rfl
 have hcf:c.fls=p.fls:=by rw[<- hc];rfl
 have hcb:c.bef=befC r.crs r.crs.length:=by rw[<- hc];rfl
 have hcg:c.dig=sumD (crtT c):=by rw[<- hc];rfl
 have hcB:crtB c=true:=by rw[<- hc];exact hB
 rw[hc]
 have hlate:∀x∈r.crs,x.day<=d:=by
  intro x hx;have hm:x.el∈crtE r:=xi.2 ⟨x,hx,rfl⟩;obtain⟨-,h2⟩:=jyp _ _ _ (jbm hG.crs);have hne:r.crs.length≠0:=fun e=>by rw[xu e] at hx;cases hx
  obtain⟨y,hy⟩:∃y,r.crs[r.crs.length-1]?=some y:=⟨_,gge omq⟩
  have hyd:y.day<=d:=by
   unfold mg aq at hlast;rw[ul hne,hy] at hlast;simp only[qvy] at hlast;omega
  rcases jrp Crt.el r.crs with e|e
  .rw[hy] at e;have:=h2 x.el hm y.el e;have:x.day<=y.day:=this;omega
  rw[e] at hx;cases hx
 have hfree:∀f∈p.fls,ax (selE r++crtE r) f=false:=by
  intro f hf;rw[show ax (selE r++crtE r) f=ax (crtE r) f from qi4 _ _ _];unfold ax crtE;rw[List.any_map,vn];intro x hx e;have:=hv f hf x hx (hlate x hx);unfold hasI at this;simp only[Function.comp,Crt.el,yc] at e;rw[this] at e;cases e
 have hcr:crtE (morC r c)=crtE r++[c.el]:=by unfold crtE morC;rw[vy];rfl
 have hg':OkG (morC r c):=by
  refine⟨hG.ofs,hG.pls,hG.fls,hG.rls,hG.hls,hG.sls,?_,?_⟩
  .show cm r.fls (selE r) (crtE (morC r c))=0
   rw[hcr];unfold cm;rw[ul (by rw[ve,List.length_singleton];unfold crtE;rw[ut];omega)];refine jwp _ _ _ (jbm hG.crs) (qba ⟨?_,by show dayG c.day=true;rw[hcd];exact hd,by show c.fls.all (hasF r.fls)=true;rw[hcf];exact hP.all,by show risI c.fls=true;rw[hcf];exact hP.ris,fun y hy=>?_,fun _=>?_⟩)
   .show idB c.num=true
    rw[hcn];unfold idB;refine ur ?_;omega
   .rcases jrp Crt.el r.crs with e|e
    .have hy:endE none (r.crs.map Crt.el)=some y:=hy;rw[e] at hy;obtain⟨z,hz,rfl⟩:=msi.1 hy
     show z.day<=c.day
     rw[hcd];exact hlate z (vc hz)
    have hy:endE none (r.crs.map Crt.el)=some y:=hy;rw[e] at hy;cases hy
   show c.fls.any _=false
   rw[hcf,vn];intro f hf;rw[hfree f hf];decide
  show cm r.fls (selE r++crtE (morC r c)) (depE r)=0
  have hz:=jbm hG.dps
  have hlen:¬ 1024<(depE r).length:=by
   have:=hG.dps;unfold cm at this;split at this
   .cases this
   assumption
  unfold cm;rw[ul hlen,hcr,<- vt];refine jwo _ _ _ _ (fun x hx m hm=>?_) hz;rw[jgv];obtain⟨y,hy,rfl⟩:=xi.1 hx;have hm:m∈[y.fil]:=hm;rw[xy] at hm;subst hm;have:=vn.1 hdep y hy;unfold depB hasI at this
  have e:(c.el.gone && c.el.fls.any fun f=>decide (f=y.fil))=false:=by
   show (true && c.fls.any fun f=>decide (f=y.fil))=false
   rw[hcf,yc];exact yz.2 this
  rw[e,xx]
 refine⟨hg'.zero,h.ck,h.pp,h.ap,fun i hi=>?_⟩;have hi:i<(r.crs++[c]).length:=hi;unfold dc;have e1:(morC r c).crs=r.crs++[c]:=rfl;have e2:(morC r c).pps=r.pps:=rfl;rw[e1,e2]
 have hbef:∀j,j<=r.crs.length->befC (r.crs++[c]) j=befC r.crs j:=fun j hj=>by
  unfold befC aq;by_cases h0:j=0
  .rw[um h0,um h0]
  rw[ul h0,ul h0,xb omq]
 rcases vo i r.crs.length with hlt|hge
 .have hz:=h.cr i hlt;unfold dc dt at hz;unfold dt;rw[hbef i omq,xb hlt];exact hz
 have hie:i=r.crs.length:=by rw[ve,List.length_singleton] at hi;omega
 subst hie;have hget:(r.crs++[c])[r.crs.length]?=some c:=by simp
 have hlk:dt (r.crs++[c]) r.crs.length=true:=by
  unfold dt;rw[hget,hbef _ (uv _)];unfold sk;simp only[hcB,hcn,hcb,<- hcg,qv9,yt,qw9]
 rw[hget];simp only;rw[hcp,hp];simp only;rw[ul (fun e=>e hcf),hlk,ul dcq]
theorem vdt8{r:Rgs}{d:Int}(h:(vdt r f d).kind=8):¬d<f.opn/\gone1 r f d=false/\gone2 r f d=false:=by
 rcases qoe (r:=r) (f:=f) (d:=d) with⟨-,e⟩|⟨-,-,e⟩|⟨-,-,-,e⟩|⟨h0,h1,h2,-⟩
 .rw[e] at h;cases h
 .rw[e] at h;cases h
 .rw[e] at h;cases h
 exact⟨h0,h1,h2⟩
theorem qpb{r:Rgs}{d f:Int}(h:ij r d f=false):onE r f d=0/\(onV r f d).kind=8/\(vdt r (filA r f) d).kind=8:=by
 unfold ij at h;simp only[Bool.not_eq_false',uw,vr] at h;refine⟨h.1,h.2,?_⟩;have:=h.2;unfold onV at this;rw[um h.1] at this;exact this
theorem qtt{r:Rgs}{id d:Int}(h:onE r id d=0):checkG r=0/\¬cv r.fls id<0/\dayG d=true:=by
 unfold onE at h;by_cases h0:askE r id≠0
 .exact zde
 rw[ul h0] at h;by_cases h1:dayG d=false
 .rw[um h1] at h;cases h
 obtain⟨a,b⟩:=qd1 (qwo.1 h0);exact⟨a,b,by simpa using h1⟩
theorem qts{r:Rgs}{id d:Int}(h1:checkG r=0)(h2:¬cv r.fls id<0)(h3:dayG d=true):onE r id d=0:=by
 unfold onE;rw[qd2 h1 h2,ul (fun e=>e rfl),ul (by rw[h3];decide)]
structure Rdy (r:Rgs) (n d:Int) (p:Prp):Prop where
 ok:Ok14 r
 fp:r.pps.find? (ce n)=some p
 day:dayG d=true
 from_:p.day<=d
 wdr:d<p.wdr
 cert:ml r.crs n=false
 apv:apvB r n d=true
 fls:∀f∈p.fls,ij r d f=false
theorem jg5{r:Rgs}{n d:Int}: kg r n d=0↔∃p,Rdy r n d p:=by
 unfold kg;constructor
 .intro h;by_cases h1:ea r≠0
  .rw[um h1] at h;cases h
  rw[ul h1] at h;have hok:=jhb.1 (qwo.1 h1);cases hp:r.pps.find? (ce n) with
  |none=>rw[hp] at h;cases h
  |some p=>
   rw[hp] at h;simp only at h;obtain⟨hid,-⟩:=jhh hp;by_cases h2:dayG d=false
   .rw[um h2] at h;cases h
   rw[ul h2] at h;unfold tn at h;rw[hid] at h;by_cases c1:d<p.day
   .rw[um c1] at h;cases h
   rw[ul c1] at h;by_cases c2:p.wdr<=d\/ml r.crs n=true
   .rw[um c2] at h;cases h
   rw[ul c2] at h;by_cases c3:apvB r n d=false
   .rw[um c3] at h;cases h
   rw[ul c3] at h;by_cases c4:p.fls.any (ij r d)=true
   .rw[um c4] at h;cases h
   have c2a:¬p.wdr<=d:=fun e=>c2 (.inl e);have c2b:¬ml r.crs n=true:=fun e=>c2 (.inr e);refine⟨p,hok,hp,by simpa using h2,omq,omq,by simpa using c2b,by simpa using c3,fun f hf=>?_⟩;cases e:ij r d f with
   |false=>rfl
   |true=>exact absurd (vp.2 ⟨f,hf,e⟩) c4
 rintro⟨p,h⟩;obtain⟨hid,-⟩:=jhh h.fp;rw[ul fun e=>e (jhb.2 h.ok),h.fp];simp only;unfold tn;rw[hid,ul (by rw[h.day];decide),ul (by have:=h.from_;omega),ul,ul (by rw[h.apv];decide),ul]
 .intro e;obtain⟨f,hf,hk⟩:=vp.1 e;rw[h.fls f hf] at hk;cases hk
 rintro (e|e)
 .have:=h.wdr;omega
 rw[h.cert] at e;cases e
def desP(r:Rgs)(n d:Int):Rgs×Crt×Int:=if desE r n d≠0 then(ic,crtZ,desE r n d) else
 if crtB (newC r n d (flsP r n))=false then(ic,crtZ,1) else
 if ea (morC r (newD r n d (flsP r n)))≠0 then(ic,crtZ,ea (morC r (newD r n d (flsP r n)))) else(morC r (newD r n d (flsP r n)),newD r n d (flsP r n),0)
structure Des (r:Rgs) (n d:Int) (p:Prp):Prop where
 rdy:Rdy r n d p
 last:mg (aq r.crs r.crs.length) d=false
 dep:r.dps.any (depB p.fls)=false
theorem jms{r:Rgs}{n d:Int}: desE r n d=0↔∃p,Des r n d p:=by
 unfold desE;constructor
 .intro h;by_cases h1:kg r n d≠0
  .rw[um h1] at h;exact absurd h h1
  rw[ul h1] at h;obtain⟨p,hp⟩:=jg5.1 (qwo.1 h1);rw[hp.fp] at h;simp only at h;by_cases c1:mg (aq r.crs r.crs.length) d=true
  .rw[um c1] at h;cases h
  rw[ul c1] at h;by_cases c2:r.dps.any (depB p.fls)=true
  .rw[um c2] at h;cases h
  exact⟨p,hp,by simpa using c1,by simpa using c2⟩
 rintro⟨p,h⟩;rw[ul fun e=>e (jg5.2 ⟨p,h.rdy⟩),h.rdy.fp];simp only;rw[ul (by rw[h.last];decide),ul (by rw[h.dep];decide)]
theorem qpj{r:Rgs}{d:Int}(h:gone1 r f d=false){c:Crt}(hc:c∈r.crs)(hd:c.day<=d):hasI f.id c.fls=false:=by
 have:=vn.1 h c hc;unfold ib at this;rw[ur hd,yc] at this;exact yz.2 this
theorem Des.ok{r:Rgs}{n d:Int}{p:Prp}(h:Des r n d p)(hl:r.crs.length<1024)(hp:p.fls.length<=256):crtB (newC r n d p.fls)=true/\Ok14 (morC r (newD r n d p.fls)):=by
 refine qp1 h.rdy.ok hl h.rdy.fp h.rdy.day hp h.last h.dep fun f hf c hc hcd=>?_;obtain⟨h1,-,h3⟩:=qpb (h.rdy.fls f hf);obtain⟨-,h5,-⟩:=qtt h1;obtain⟨k,-,-,-,-,hid⟩:=jhj h5;have:=qpj (vdt8 h3).2.1 hc hcd;rw[hid] at this;exact this
theorem jgw{r:Rgs}{n:Int}{p:Prp}(h:r.pps.find? (ce n)=some p):flsP r n=p.fls:=by unfold flsP;rw[h]
theorem qbg{r:Rgs}(n d:Int)(hl:r.crs.length<1024)(hp:∀p∈r.pps,p.fls.length<=256):desP r n d=desR r n d:=by
 unfold desP desR;by_cases h:desE r n d≠0
 .rw[um h,um h]
 rw[ul h,ul h];obtain⟨p,hD⟩:=jms.1 (qwo.1 h);obtain⟨h1,h2⟩:=hD.ok hl (hp p (qv5 hD.rdy.fp));rw[jgw hD.rdy.fp,h1,ul dcq,ul fun e=>e (jhb.2 h2)]
theorem jnz{l:List Int}(h:risI l=true):∀(j i:Nat) (x y:Int),i<=j->l[i]?=some x->l[j]?=some y->x<=y
 |0,i,x,y,hij,hx,hy=>by
  have:i=0:=omq;subst this;rw[hx] at hy;cases hy;exact Int.le_refl _
 |j+1,i,x,y,hij,hx,hy=>by
  rcases vo i (j+1) with hlt|hge
  .have hjl:j<l.length:=by have:=(gsi.1 hy).1;omega
   obtain⟨z,hz⟩:∃z,l[j]?=some z:=⟨_,gge hjl⟩;have h1:=jnz h j i x z omq hx hz;have h2:=(oh l).1 h j z y hz hy;omega
  have:i=j+1:=omq;subst this;rw[hx] at hy;cases hy;exact Int.le_refl _
theorem qot(h:risI l=true){a b:Int}(ha:l[0]?=some a)(hb:l[l.length-1]?=some b):l.all idB=(decide (1<=a) && decide (b<=1073741824)):=by
 rw[qw6,vj,uw,vr,vr];constructor
 .intro hA;have h1:=xp (hA a (vc ha));have h2:=xp (hA b (vc hb));exact⟨h1.1,h2.2⟩
 rintro⟨h1,h2⟩ n hn;obtain⟨i,hi⟩:=xc hn;have hl:=(gsi.1 hi).1;have g1:=jnz h i 0 a n (uq _) ha hi;have g2:=jnz h (l.length-1) i n b omq hi hb;exact ur ⟨omq,omq⟩
structure OkC (q:Option Clk) (c:Clk):Prop where
 id:idB c.id=true
 role:1<=c.role/\c.role<=3
 span:bm c.frm c.til=true
 name:name c.name=true
 prev:∀x,q=some x->x.id<c.id
theorem qh1{l:List Clk}{c:Clk}(hc:l[i]?=some c)(h:di l i=0):OkC (aq l i) c:=by
 unfold di at h;rw[hc] at h;simp only at h;by_cases h1:idB c.id=false\/c.role<1\/3<c.role\/bm c.frm c.til=false
 .rw[um h1] at h;cases h
 rw[ul h1] at h;by_cases h2:Arc.name c.name=false
 .rw[um h2] at h;cases h
 rw[ul h2] at h;by_cases h3:jaw (aq l i) c=true
 .rw[um h3] at h;cases h
 have a1:¬idB c.id=false:=fun e=>h1 (.inl e);have a2:¬c.role<1:=fun e=>h1 (.inr (.inl e));have a3:¬ 3<c.role:=fun e=>h1 (.inr (.inr (.inl e)));have a4:¬bm c.frm c.til=false:=fun e=>h1 (.inr (.inr (.inr e)));refine⟨by simpa using a1,omq,by simpa using a4,by simpa using h2,fun x hx=>?_⟩;rw[hx] at h3;have h3:¬(decide (c.id<=x.id))=true:=h3;simp only[vr] at h3;omega
theorem Ok14.clk{r:Rgs}(h:Ok14 r){c:Clk}(hc:r.cks[i]?=some c):OkC (aq r.cks i) c:=
 qh1 hc (h.ck.2 i (gsi.1 hc).1)
theorem Ok14.cids{r:Rgs}(h:Ok14 r):∀(j i:Nat) (p q:Clk),i<j->r.cks[i]?=some p->r.cks[j]?=some q->p.id<q.id
 |0,i,_,_,hij,_,_=>absurd hij (yf i)
 |j+1,i,p,q,hij,hp,hq=>by
  have hjl:j<r.cks.length:=by have:=(gsi.1 hq).1;omega
  obtain⟨x,hx⟩:∃x,r.cks[j]?=some x:=⟨_,gge hjl⟩;have h1:=(h.clk hq).prev x (by unfold aq;rw[ul (yx j)];exact hx);rcases vo i j with hlt|hge
  .have:=h.cids j i p x hlt hp hx;omega
  have:i=j:=omq;subst this;rw[hp] at hx;cases hx;exact h1
theorem Ok14.cInj{r:Rgs}(h:Ok14 r){j:Nat}{p q:Clk}(hp:r.cks[i]?=some p)(hq:r.cks[j]?=some q)(he:p.id=q.id):i=j:=by
 rcases qww i j with hl|hl|hl
 .have:=h.cids j i p q hl hp hq;omega
 .exact hl
 have:=h.cids i j q p hl hq hp;omega
def jr8(n:Int)(c:Clk):Bool:=decide (c.id=n)
theorem Ok14.one{r:Rgs}(h:Ok14 r){n d:Int}(hc:jy r.cks n d=true):∃(k:Nat) (c:Clk),r.cks[k]?=some c/\c.id=n/\inS c.frm c.til d=true/\ix (fg n d) r.cks=k/\ix (jr8 n) r.cks=k/\r.cks.any (ui n)=decide (c.role=2):=by
 obtain⟨c0,hm,hh⟩:=vp.1 hc;rcases ly (fg n d) r.cks with⟨-,hn⟩|⟨k,c,hk,-,hx,-,hf⟩
 .exact absurd hh (by simpa using xw.1 hn c0 hm)
 have hp:fg n d c=true:=qvs hf;unfold fg at hp;rw[uw,vr] at hp;have huniq:∀ {j:Nat} {x:Clk},r.cks[j]?=some x->x.id=n->j=k:=fun hj he=>h.cInj hj hx (he.trans hp.1.symm);refine⟨k,c,hx,hp.1,hp.2,hk,?_,?_⟩
 .rcases ly (jr8 n) r.cks with⟨-,hn⟩|⟨j,x,hj,-,hxj,-,hfj⟩
  .exact absurd (ur hp.1) (xw.1 hn c (vc hx))
  have he:jr8 n x=true:=qvs hfj;rw[hj,huniq hxj (xp he)]
 rw[qw6,vp,vr];constructor
 .rintro⟨x,hxm,ha⟩;unfold ui at ha;rw[uw,vr,vr] at ha;obtain⟨j,hj⟩:=xc hxm;have:=huniq hj ha.1;subst this;rw[hx] at hj;cases hj;exact ha.2
 intro hr;refine⟨c,vc hx,?_⟩;unfold ui;rw[hp.1,hr];simp
structure OkA (r:Rgs) (pre:List Apv) (q:Option Apv) (a:Apv) (p:Prp):Prop where
 day:p.day<=a.day/\a.day<=1048575
 prev:∀x,q=some x->x.day<=a.day
 wdr:a.day<p.wdr
 clk:jy r.cks a.clk a.day=true
 other:a.clk≠p.clk
 once:pre.any (jv a)=false
theorem qo5{r:Rgs}{pre:List Apv}{q:Option Apv}{a:Apv}{p:Prp}(h:apvE r pre q a p=0):OkA r pre q a p:=by
 unfold apvE at h;by_cases h1:a.day<p.day\/1048575<a.day
 .rw[um h1] at h;cases h
 rw[ul h1] at h;by_cases h2:se q a=true
 .rw[um h2] at h;cases h
 rw[ul h2] at h;by_cases h3:p.wdr<=a.day
 .rw[um h3] at h;cases h
 rw[ul h3] at h;by_cases h4:jy r.cks a.clk a.day=false
 .rw[um h4] at h;cases h
 rw[ul h4] at h;by_cases h5:a.clk=p.clk
 .rw[um h5] at h;cases h
 rw[ul h5] at h;by_cases h6:pre.any (jv a)=true
 .rw[um h6] at h;cases h
 refine⟨omq,fun x hx=>?_,omq,by simpa using h4,h5,by simpa using h6⟩;rw[hx] at h2;have h2:¬(decide (a.day<x.day))=true:=h2;simp only[vr] at h2;omega
theorem Ok14.apv{r:Rgs}(h:Ok14 r){a:Apv}(ha:r.aps[i]?=some a):∃p,r.pps.find? (ce a.prp)=some p/\OkA r (r.aps.take i) (aq r.aps i) a p:=by
 have hz:=h.ap.2 i (gsi.1 ha).1;unfold dj at hz;rw[ha] at hz;simp only at hz;cases hf:r.pps.find? (ce a.prp) with
 |none=>rw[hf] at hz;cases hz
 |some p=>
  rw[hf] at hz;exact⟨p,rfl,qo5 hz⟩
end Go.Arc
