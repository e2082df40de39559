/- A part of this claim. -/
import Derived.Test.YtfbbflhnhmphiaaGreatDoorBaS
namespace Go.Arc
open Go.Ab
variable {α:Type}{i:Nat}{f:Fil}{l:List Int}{lt:α->α->Bool}{j:Nat}{k:Nat}{o:Int}{s:Str}
def bm(l:List α)(i:Nat):Option α:=if i=0 then none else l[i-1]?
def jfh(q:Option Clk)(c:Clk):Bool:=match q with|some q=>decide (c.id<=q.id)|none=>false
def my(l:List Clk)(i:Nat):Int:=match l[i]? with
 |none=>0
 |some c=>if idB c.id=false\/c.role<1\/3<c.role\/cd c.frm c.til=false then 2 else if name c.name=false then 4 else
  if jfh (bm l i) c=true then 5 else 0
def ul(n d:Int)(c:Clk):Bool:=decide (c.id=n) && inS c.frm c.til d
def pt(l:List Clk)(n d:Int):Bool:=l.any (ul n d)
def cq(n:Int)(p:Prp):Bool:=decide (p.id=n)
def jm(l:List Prp)(n:Int):Int:=ix (cq n) l
def jr3(n:Int)(c:Crt):Bool:=decide (c.prp=n)
def jo(l:List Crt)(n:Int):Bool:=l.any (jr3 n)
def jfs(d f:Int)(q:Prp):Bool:=decide (d<q.wdr) && hasI f q.fls
def jas(l:List Prp)(d f:Int):Bool:=l.any (jfs d f)
def wdrB(p:Prp):Bool:=(decide (p.day<=p.wdr) && decide (p.wdr<=1048575)) || decide (p.wdr=1048576)
def pa(q:Option Prp)(p:Prp):Bool:=match q with|some q=>decide (p.id<=q.id) || decide (p.day<q.day)|none=>false
def prpE(r:Rgs)(pre:List Prp)(q:Option Prp)(p:Prp):Int:=
 if idB p.id=false\/dayG p.day=false\/wdrB p=false then 2 else
 if pa q p=true then 5 else
 if pt r.cks p.clk p.day=false then 7 else if p.fls=[] then 9 else
 if p.fls.all (hasF r.fls)=false then 7 else if risI p.fls=false then 5 else
 if p.fls.any (jas pre p.day)=true then 6 else 0
def mt(r:Rgs)(i:Nat):Int:=match r.pps[i]? with
 |none=>0
 |some p=>prpE r (r.pps.take i) (bm r.pps i) p
def jd1(a b:Apv):Bool:=decide (b.prp=a.prp) && decide (b.clk=a.clk)
def jck(q:Option Apv)(a:Apv):Bool:=match q with|some q=>decide (a.day<q.day)|none=>false
def apvE(r:Rgs)(pre:List Apv)(q:Option Apv)(a:Apv)(p:Prp):Int:=
 if a.day<p.day\/1048575<a.day then 2 else
 if jck q a=true then 5 else
 if p.wdr<=a.day then 11 else if pt r.cks a.clk a.day=false then 7 else if a.clk=p.clk then 22 else
 if pre.any (jd1 a)=true then 6 else 0
def ll(r:Rgs)(i:Nat):Int:=match r.aps[i]? with
 |none=>0
 |some a=>match r.pps.find? (cq a.prp) with
  |none=>7
  |some p=>apvE r (r.aps.take i) (bm r.aps i) a p
def crtB(c:Crt):Bool:=idB c.num && idB c.prp && dayG c.day && decide (1<=c.fls.length) && decide (c.fls.length<=256) && risI c.fls && c.fls.all idB && decide (c.bef.length=32)
def jru:Str:=[99,101,114,116,105,102,105,99,97,116,101,32]
def jld:Str:=[32,112,114,111,112,111,115,97,108,32]
def jrt:Str:=[32,100,97,121,32]
def jqf:Str:=[32,102,105,108,101,115]
def flsT(l:List Int):Str:=(l.map fun f=>32::decS f).flatten
def crtT(c:Crt):Str:=jru++decS c.num++jld++decS c.prp++jrt++decS c.day++jqf++flsT c.fls++10::c.bef
def digR(c:Crt):Str×Int:=if crtB c=true then(sumD (crtT c),0) else([],1)
def befC(l:List Crt)(i:Nat):Str:=match bm l i with
 |some c=>c.dig
 |none=>List.replicate 32 0
def jcy(b:Str)(i:Nat)(c:Crt):Bool:=crtB c && decide (c.num=(i:Int)+1) && (c.dig == sumD (crtT c)) && (c.bef == b)
def ly(l:List Crt)(i:Nat):Bool:=match l[i]? with
 |some c=>jcy (befC l i) i c
 |none=>false
def iy(r:Rgs)(i:Nat):Int:=match r.crs[i]? with
 |none=>0
 |some c=>match r.pps.find? (cq c.prp) with
  |none=>7
  |some p=>if c.fls≠p.fls then 10 else if ly r.crs i=false then 14 else 0
def chkN(r:Rgs):List Int:=[(chk 32 r.cks.length (my r.cks)).2,(chk 1024 r.pps.length (mt r)).2,(chk 1024 r.aps.length (ll r)).2,(chk r.crs.length r.crs.length (iy r)).2]
def ce(r:Rgs):Int:=fstE (checkG r::chkN r)
def aj:Rgs:=⟨[],[],[],[],[],[],[],[],[],[],[],0⟩
def chgd(x:Rgs):Rgs×Int:=if ce x≠0 then(aj,ce x) else(x,0)
def morP(r:Rgs)(p:Prp):Rgs:= { r with pps:=r.pps++[p] }
def morA(r:Rgs)(a:Apv):Rgs:= { r with aps:=r.aps++[a] }
def morC(r:Rgs)(c:Crt):Rgs:= { r with crs:=r.crs++[c] }
def nc(r:Rgs)(p:Prp):Rgs×Int:=if ce r≠0 then(aj,1) else if p.wdr≠1048576 then(aj,11) else chgd (morP r p)
def nv(r:Rgs)(a:Apv):Rgs×Int:=if ce r≠0 then(aj,1) else chgd (morA r a)
def pk(n d:Int)(a:Apv):Bool:=decide (a.prp=n) && decide (d<=a.day)
def wdrP(l:List Prp)(k:Nat)(d:Int):List Prp:=match l[k]? with
 |some p=>l.set k { p with wdr:=d }
 |none=>l
def wdrG(r:Rgs)(k:Nat)(d:Int):Rgs:= { r with pps:=wdrP r.pps k d }
def wdrE(r:Rgs)(n d:Int):Int:=if ce r≠0 then 1 else match r.pps.find? (cq n) with
 |none=>7
 |some p=>if d<p.day\/1048575<d then 2 else if p.wdr≠1048576\/jo r.crs n=true\/r.aps.any (pk n d)=true then 11 else 0
def wdrR(r:Rgs)(n d:Int):Rgs×Int:=if wdrE r n d≠0 then(aj,wdrE r n d) else(wdrG r (jm r.pps n).toNat d,0)
def forA(n d:Int)(a:Apv):Bool:=decide (a.prp=n) && decide (a.day<=d)
def uz(n:Int)(c:Clk):Bool:=decide (c.id=n) && decide (c.role=2)
def apvB(r:Rgs)(n d:Int):Bool:=decide (2<=(r.aps.filter (forA n d)).length) && (r.aps.filter (forA n d)).any fun a=>r.cks.any (uz a.clk)
def np(r:Rgs)(d f:Int):Bool:= !(decide (onE r f d=0) && decide ((onV r f d).kind=8))
def jcc(r:Rgs)(p:Prp)(d:Int):Int:=if d<p.day then 5 else if p.wdr<=d\/jo r.crs p.id=true then 11 else if apvB r p.id d=false then 22 else
 if p.fls.any (np r d)=true then 21 else 0
def sr(r:Rgs)(n d:Int):Int:=if ce r≠0 then 1 else match r.pps.find? (cq n) with
 |none=>7
 |some p=>if dayG d=false then 2 else jcc r p d
def crtZ:Crt:=⟨0,0,0,[],[],[]⟩
def newC(r:Rgs)(n d:Int)(l:List Int):Crt:=⟨(r.crs.length:Int)+1,n,d,l,befC r.crs r.crs.length,[]⟩
def newD(r:Rgs)(n d:Int)(l:List Int):Crt:= { newC r n d l with dig:=sumD (crtT (newC r n d l)) }
def depB(l:List Int)(x:Dep):Bool:=hasI x.fil l
def te(q:Option Crt)(d:Int):Bool:=match q with|some c=>decide (d<c.day)|none=>false
def desE(r:Rgs)(n d:Int):Int:=if sr r n d≠0 then sr r n d else match r.pps.find? (cq n) with
 |none=>7
 |some p=>if te (bm r.crs r.crs.length) d=true then 5 else
  if r.dps.any (depB p.fls)=true then 6 else 0
def flsP(r:Rgs)(n:Int):List Int:=match r.pps.find? (cq n) with
 |none=>[]
 |some p=>p.fls
theorem qng: fstE l=0↔∀x∈l,x=0:=by
 induction l with
 |nil=>exact⟨fun _ x hx=>(yl hx).elim,fun _=>rfl⟩
 |cons a l ih=>
  constructor
  .intro h;obtain⟨h1,h2⟩:=se h;intro x hx;rcases vt.1 hx with rfl|hx
   .exact h1
   exact ih.1 h2 x hx
  intro h;unfold fstE;rw[vd fun e=>e (h a (.head _))];exact ih.2 fun x hx=>h x (.tail _ hx)
theorem jgd{lim n:Nat}{f:Nat->Int}: (chk lim n f).2=0↔¬lim<n/\∀i,i<n->f i=0:=⟨ky,fun h=>by rw[jav h.1 h.2]⟩
structure Ok14 (r:Rgs):Prop where
 g:checkG r=0
 ck:¬ 32<r.cks.length/\∀i,i<r.cks.length->my r.cks i=0
 pp:¬ 1024<r.pps.length/\∀i,i<r.pps.length->mt r i=0
 ap:¬ 1024<r.aps.length/\∀i,i<r.aps.length->ll r i=0
 cr:∀i,i<r.crs.length->iy r i=0
theorem jc0{r:Rgs}: ce r=0↔Ok14 r:=by
 unfold ce chkN;rw[qng];constructor
 .intro h;exact⟨h _ smq,ky (h _ smq),ky (h _ smq),ky (h _ smq),(ky (h (chk r.crs.length r.crs.length (iy r)).2 smq)).2⟩
 intro h x hx;simp only[vt,yl,xx] at hx;rcases hx with rfl|rfl|rfl|rfl|rfl
 .exact h.g
 .exact jgd.2 h.ck
 .exact jgd.2 h.pp
 .exact jgd.2 h.ap
 exact jgd.2 ⟨Nat.lt_irrefl _,h.cr⟩
structure OkP (r:Rgs) (pre:List Prp) (q:Option Prp) (p:Prp):Prop where
 id:idB p.id=true
 day:dayG p.day=true
 wdr:wdrB p=true
 prev:∀x,q=some x->x.id<p.id/\x.day<=p.day
 clk:pt r.cks p.clk p.day=true
 ne:p.fls≠[]
 all:p.fls.all (hasF r.fls)=true
 ris:risI p.fls=true
 free:p.fls.any (jas pre p.day)=false
theorem jwg{r:Rgs}{pre:List Prp}{q:Option Prp}{p:Prp}: prpE r pre q p=0↔OkP r pre q p:=by
 unfold prpE;constructor
 .intro h;by_cases h1:idB p.id=false\/dayG p.day=false\/wdrB p=false
  .rw[ve h1] at h;cases h
  rw[vd h1] at h;have h1a:¬idB p.id=false:=fun e=>h1 (.inl e);have h1b:¬dayG p.day=false:=fun e=>h1 (.inr (.inl e));have h1c:¬wdrB p=false:=fun e=>h1 (.inr (.inr e));by_cases h2:pa q p=true
  .rw[ve h2] at h;cases h
  rw[vd h2] at h;by_cases h3:pt r.cks p.clk p.day=false
  .rw[ve h3] at h;cases h
  rw[vd h3] at h;by_cases h4:p.fls=[]
  .rw[ve h4] at h;cases h
  rw[vd h4] at h;by_cases h5:p.fls.all (hasF r.fls)=false
  .rw[ve h5] at h;cases h
  rw[vd h5] at h;by_cases h6:risI p.fls=false
  .rw[ve h6] at h;cases h
  rw[vd h6] at h;by_cases h7:p.fls.any (jas pre p.day)=true
  .rw[ve h7] at h;cases h
  refine⟨by simpa using h1a,by simpa using h1b,by simpa using h1c,fun x hx=>?_,by simpa using h3,h4,by simpa using h5,by simpa using h6,by simpa using h7⟩;subst hx;unfold pa at h2;simp only[xbx,vq] at h2;omega
 intro h
 have h2:¬pa q p=true:=by
  cases q with
  |none=>exact fun e=>nomatch e
  |some x=>
   have:=h.prev x rfl;unfold pa;simp only[xbx,vq];omega
 rw[vd (by rw[h.id,h.day,h.wdr];decide),vd h2,vd (by rw[h.clk];decide),vd h.ne,vd (by rw[h.all];decide),vd (by rw[h.ris];decide),vd (by rw[h.free];decide)]
theorem Ok14.prp{r:Rgs}(h:Ok14 r){p:Prp}(hp:r.pps[i]?=some p):OkP r (r.pps.take i) (bm r.pps i) p:=by
 have:=h.pp.2 i (gsi.1 hp).1;unfold mt at this;rw[hp] at this;exact jwg.1 this
theorem Ok14.ids{r:Rgs}(h:Ok14 r):∀(j i:Nat) (p q:Prp),i<j->r.pps[i]?=some p->r.pps[j]?=some q->p.id<q.id
 |0,i,_,_,hij,_,_=>absurd hij (xba i)
 |j+1,i,p,q,hij,hp,hq=>by
  have hjl:j<r.pps.length:=by have:=(gsi.1 hq).1;omega
  obtain⟨x,hx⟩:∃x,r.pps[j]?=some x:=⟨_,gge hjl⟩;have h1:=(h.prp hq).prev x (by unfold bm;rw[vd (xcd j)];exact hx);rcases xk i j with hlt|hge
  .have:=h.ids j i p x hlt hp hx;omega
  have:i=j:=omq;subst this;rw[hp] at hx;cases hx;exact h1.1
theorem Ok14.idInj{r:Rgs}(h:Ok14 r){p q:Prp}(hp:r.pps[i]?=some p)(hq:r.pps[j]?=some q)(he:p.id=q.id):i=j:=by
 rcases xch i j with hl|hl|hl
 .have:=h.ids j i p q hl hp hq;omega
 .exact hl
 have:=h.ids i j q p hl hq hp;omega
def wdr1(n d:Int)(p:Prp):Prp:=if p.id=n then { p with wdr:=d } else p
theorem jey(n d:Int)(p:Prp):(wdr1 n d p).id=p.id:=by unfold wdr1;split<;>rfl
theorem jbv(n d:Int)(p:Prp):(wdr1 n d p).day=p.day:=by unfold wdr1;split<;>rfl
theorem jy7(n d:Int)(p:Prp):(wdr1 n d p).clk=p.clk:=by unfold wdr1;split<;>rfl
theorem jbu(n d:Int)(p:Prp):(wdr1 n d p).fls=p.fls:=by unfold wdr1;split<;>rfl
theorem qqh{r:Rgs}(h:Ok14 r){p:Prp}(hp:r.pps[k]?=some p)(d:Int):wdrP r.pps k d=r.pps.map (wdr1 p.id d):=by
 unfold wdrP;rw[hp];apply xc6;intro i;rw[xe];by_cases hik:k=i
 .subst hik;rw[xdc (gsi.1 hp).1,hp];simp[wdr1]
 rw[List.getElem?_set_ne hik];cases hq:r.pps[i]? with
 |none=>rfl
 |some q=>
  have:q.id≠p.id:=fun e=>hik (h.idInj hp hq e.symm);simp[wdr1,this]
theorem jzb{n:Int}{g:Prp->Prp}(hg:∀p,(g p).id=p.id)(l:List Prp):(l.map g).find? (cq n)=(l.find? (cq n)).map g:=by
 rw[List.find?_map];congr 1;congr 1
 funext p
 unfold cq;simp[hg]
theorem qj7{β:Type}(g:α->β)(l:List α)(i:Nat):bm (l.map g) i=(bm l i).map g:=by
 unfold bm;split
 .rfl
 rw[xe]
theorem qrj{r:Rgs}(h:Ok14 r){p:Prp}(hp:r.pps[k]?=some p){d:Int}(h1:p.day<=d)(h2:d<=1048575)(h3:p.wdr=1048576)(h4:r.aps.any (pk p.id d)=false):Ok14 (wdrG r k d):=by
 have hm:=qqh h hp d;have hpp:(wdrG r k d).pps=r.pps.map (wdr1 p.id d):=hm;have hlen:(wdrG r k d).pps.length=r.pps.length:=by rw[hpp,vm]
 refine⟨h.g,h.ck,⟨by rw[hlen];exact h.pp.1,fun i hi=>?_⟩,⟨h.ap.1,fun i hi=>?_⟩,fun i hi=>?_⟩
 .rw[hlen] at hi;obtain⟨q,hq⟩:∃q,r.pps[i]?=some q:=⟨_,gge hi⟩;have hk:=h.prp hq;unfold mt;rw[hpp,xe,hq]
  show prpE (wdrG r k d) ((r.pps.map (wdr1 p.id d)).take i) (bm (r.pps.map (wdr1 p.id d)) i) (wdr1 p.id d q)=0
  rw[qj7,<- xb4];refine jwg.2 ⟨by rw[jey];exact hk.id,by rw[jbv];exact hk.day,?_,fun x hx=>?_,by rw[jy7,jbv];exact hk.clk,by rw[jbu];exact hk.ne,by rw[jbu];exact hk.all,by rw[jbu];exact hk.ris,?_⟩
  .unfold wdr1;by_cases he:q.id=p.id
   .have hik:=h.idInj hq hp he;subst hik;rw[hp] at hq;cases hq;rw[ve rfl];unfold wdrB;simp only[vl h1,vl h2,xby,xam]
   rw[vd he];exact hk.wdr
  .obtain⟨y,hy,rfl⟩:=msi.1 hx;rw[jey,jey,jbv,jbv];exact hk.prev y hy
  rw[jbu,jbv];rw[yf];intro f hf ht;have hfr:=yf.1 hk.free f hf;refine hfr ?_;unfold jas at ht ⊢;rw[List.any_map] at ht;obtain⟨x,hx,hx2⟩:=yd.1 ht;refine yd.2 ⟨x,hx,?_⟩;unfold jfs at hx2 ⊢;simp only[Function.comp,jbu,vn,vq] at hx2 ⊢;refine⟨?_,hx2.2⟩;have h5:=hx2.1;unfold wdr1 at h5;by_cases he:x.id=p.id
  .rw[ve he] at h5;have h5:q.day<d:=h5;obtain⟨j,hj⟩:=xm (xb5 hx);have:=h.idInj hj hp he;subst this;rw[hp] at hj;cases hj;omega
  rw[vd he] at h5;exact h5
 .have hz:=h.ap.2 i hi;obtain⟨a,ha⟩:∃a,r.aps[i]?=some a:=⟨_,gge hi⟩;unfold ll at hz ⊢;have hap:(wdrG r k d).aps=r.aps:=rfl;rw[hap,ha,hpp];rw[ha] at hz;simp only at hz ⊢;rw[jzb (jey p.id d)];cases hf:r.pps.find? (cq a.prp) with
  |none=>rw[hf] at hz;cases hz
  |some q=>
   rw[hf] at hz;simp only[Option.map_some] at hz ⊢;unfold apvE at hz ⊢;have hcl:(wdrG r k d).cks=r.cks:=rfl;rw[jbv,jy7,hcl]
   have hw:(if(wdr1 p.id d q).wdr<=a.day then(11:Int) else 0)=(if q.wdr<=a.day then 11 else 0)\/q.wdr<=a.day:=by
    by_cases hq:q.wdr<=a.day
    .exact .inr hq
    left;rw[vd hq,vd];unfold wdr1;by_cases he:q.id=p.id
    .rw[ve he];have hid:q.id=a.prp:=xj (p:=q.id=a.prp) (show cq a.prp q=true from yu (p:=cq a.prp) hf);have:=yf.1 h4 a (vp ha);unfold pk at this;simp only[vn,vq,not_and] at this;have:=this omq
     show ¬d<=a.day
     exact this
    rw[vd he];exact hq
   by_cases c1:a.day<q.day\/1048575<a.day
   .rw[ve c1] at hz;cases hz
   rw[vd c1] at hz ⊢;by_cases c2:jck (bm r.aps i) a=true
   .rw[ve c2] at hz;cases hz
   rw[vd c2] at hz ⊢;by_cases c3:q.wdr<=a.day
   .rw[ve c3] at hz;cases hz
   rw[vd c3] at hz
   have c4:¬(wdr1 p.id d q).wdr<=a.day:=by
    rcases hw with hw|hw
    .intro e;rw[ve e,vd c3] at hw;cases hw
    exact absurd hw c3
   rw[vd c4];exact hz
 have hz:=h.cr i hi;obtain⟨c,hc⟩:∃c,r.crs[i]?=some c:=⟨_,gge hi⟩;unfold iy at hz ⊢;have hcr:(wdrG r k d).crs=r.crs:=rfl;rw[hcr,hc,hpp];rw[hc] at hz;simp only at hz ⊢;rw[jzb (jey p.id d)];cases hf:r.pps.find? (cq c.prp) with
 |none=>rw[hf] at hz;cases hz
 |some q=>
  rw[hf] at hz;simp only[Option.map_some] at hz ⊢;rw[jbu];exact hz
structure OkE (fs:List Fil) (pre:List Elm) (q:Option Elm) (x:Elm):Prop where
 id:idB x.id=true
 day:dayG x.day=true
 all:x.fls.all (hasF fs)=true
 ris:risI x.fls=true
 prev:∀y,q=some y->y.day<=x.day
 free:x.gone=true->x.fls.any (cj pre)=false
def jsc(q:Option Elm)(x:Elm):Bool:=match q with|some q=>decide (x.day<q.day)|none=>false
theorem qbz(fs:List Fil)(pre:List Elm)(q:Option Elm)(x:Elm):elmE fs pre q x=if idB x.id=false\/dayG x.day=false then 2 else if x.fls.all (hasF fs)=false then 7 else
  if risI x.fls=false\/jsc q x=true then 5 else if x.gone=true/\x.fls.any (cj pre)=true then 6 else 0:=rfl
theorem jxi{fs:List Fil}{pre:List Elm}{q:Option Elm}{x:Elm}(h:elmE fs pre q x=0):OkE fs pre q x:=by
 rw[qbz] at h;by_cases h1:idB x.id=false\/dayG x.day=false
 .rw[ve h1] at h;cases h
 rw[vd h1] at h;by_cases h2:x.fls.all (hasF fs)=false
 .rw[ve h2] at h;cases h
 rw[vd h2] at h;by_cases h3:risI x.fls=false\/jsc q x=true
 .rw[ve h3] at h;cases h
 rw[vd h3] at h;by_cases h4:x.gone=true/\x.fls.any (cj pre)=true
 .rw[ve h4] at h;cases h
 have h1a:¬idB x.id=false:=fun e=>h1 (.inl e);have h1b:¬dayG x.day=false:=fun e=>h1 (.inr e);have h3a:¬risI x.fls=false:=fun e=>h3 (.inl e);refine⟨by simpa using h1a,by simpa using h1b,by simpa using h2,by simpa using h3a,fun y hy=>?_,fun hg=>?_⟩
 .subst hy;have h3b:¬(decide (x.day<y.day))=true:=fun e=>h3 (.inr e);simp only[vq] at h3b;omega
 cases e:x.fls.any (cj pre) with
 |false=>rfl
 |true=>exact absurd ⟨hg,e⟩ h4
theorem qby{fs:List Fil}{pre:List Elm}{q:Option Elm}{x:Elm}(h:OkE fs pre q x):elmE fs pre q x=0:=by
 have h3:¬(risI x.fls=false\/jsc q x=true):=by
  rintro (e|e)
  .rw[h.ris] at e;cases e
  cases q with
  |none=>cases e
  |some y=>
   have:=h.prev y rfl;have e:decide (x.day<y.day)=true:=e;simp only[vq] at e;omega
 have h4:¬(x.gone=true/\x.fls.any (cj pre)=true):=fun⟨hg,e⟩=>by
  rw[h.free hg] at e;cases e
 rw[qbz,vd (by rw[h.id,h.day];decide),vd (by rw[h.all];decide),vd h3,vd h4]
theorem jm6{fs:List Fil}{pre:List Elm}{q:Option Elm}{x:Elm}{l:List Elm}: elsE fs pre q (x::l)=0↔elmE fs pre q x=0/\elsE fs (pre++[x]) (some x) l=0:=by
 rw[elsE];constructor
 .intro h;by_cases h0:elmE fs pre q x≠0
  .exact zc7
  rw[vd h0] at h;exact⟨omq,h⟩
 rintro⟨h1,h2⟩;rw[vd fun e=>e h1];exact h2
theorem jzh:∀(l:List Elm) (x z:Elm),endE (some x) l=some z->z=x\/z∈l
 |[],x,z,h=>by cases h;exact .inl rfl
 |y::l,x,z,h=>by
  rcases jzh l y z h with rfl|h
  .exact .inr (.head _)
  exact .inr (.tail _ h)
theorem jzi{fs:List Fil}: ∀(l pre:List Elm) (q:Option Elm),elsE fs pre q l=0->(∀y,q=some y->∀x∈l,y.day<=x.day)/\∀x∈l,∀z,endE q l=some z->x.day<=z.day
 |[],_,_,_=>⟨fun _ _ x hx=>(yl hx).elim,fun x hx=>(yl hx).elim⟩
 |x::l,pre,q,h=>by
  obtain⟨h1,h2⟩:=jm6.1 h;obtain⟨g1,g2⟩:=jzi l (pre++[x]) (some x) h2;have hx:=jxi h1;refine⟨fun y hy z hz=>?_,fun z hz w hw=>?_⟩
  .rcases vt.1 hz with rfl|hz
   .exact hx.prev y hy
   exact Int.le_trans (hx.prev y hy) (g1 x rfl z hz)
  rcases vt.1 hz with rfl|hz
  .rcases jzh l z w hw with rfl|hm
   .exact Int.le_refl _
   exact g1 z rfl w hm
  exact g2 z hz w hw
theorem jxg{fs:List Fil}: ∀(l pre pre':List Elm) (q:Option Elm),(∀x∈l,∀n∈x.fls,cj pre' n=cj pre n)->elsE fs pre q l=0->elsE fs pre' q l=0
 |[],_,_,_,_,_=>rfl
 |x::l,pre,pre',q,hg,h=>by
  obtain⟨h1,h2⟩:=jm6.1 h;have hx:=jxi h1;refine jm6.2 ⟨qby ⟨hx.id,hx.day,hx.all,hx.ris,hx.prev,fun e=>?_⟩,jxg l (pre++[x]) (pre'++[x]) (some x) (fun y hy n hn=>?_) h2⟩
  .rw[yf];intro n hn;rw[hg x (.head _) n hn];exact yf.1 (hx.free e) n hn
  rw[jhi,jhi,hg y (.tail _ hy) n hn]
theorem jsu(g:α->Elm)(l:List α):endE none (l.map g)=(l[l.length-1]?).map g\/l=[]:=by
 rcases List.eq_nil_or_concat l with e|⟨m,q,e⟩
 .exact .inr e
 left;rw[List.concat_eq_append] at e;subst e;rw[xz,List.map_singleton,jxf];simp
theorem Ok14.crt{r:Rgs}(h:Ok14 r){c:Crt}(hc:r.crs[i]?=some c):(∃p,r.pps.find? (cq c.prp)=some p/\c.fls=p.fls)/\jcy (befC r.crs i) i c=true:=by
 have hz:=h.cr i (gsi.1 hc).1;unfold iy at hz;rw[hc] at hz;simp only at hz;cases hf:r.pps.find? (cq c.prp) with
 |none=>rw[hf] at hz;cases hz
 |some p=>
  rw[hf] at hz;simp only at hz;by_cases h1:c.fls≠p.fls
  .rw[ve h1] at hz;cases hz
  rw[vd h1] at hz;by_cases h2:ly r.crs i=false
  .rw[ve h2] at hz;cases hz
  refine⟨⟨p,rfl,yt.1 h1⟩,?_⟩;unfold ly at h2;rw[hc] at h2;simpa using h2
theorem qa9{r:Rgs}(h:Ok14 r):(befC r.crs r.crs.length).length=32:=by
 unfold befC bm;by_cases h0:r.crs.length=0
 .rw[ve h0];rfl
 rw[vd h0];obtain⟨c,hc⟩:∃c,r.crs[r.crs.length-1]?=some c:=⟨_,gge omq⟩;rw[hc];obtain⟨-,hl⟩:=h.crt hc;unfold jcy at hl;simp only[vn,xax] at hl
 show c.dig.length=32
 rw[hl.1.2];exact jmr _
theorem ji6{r:Rgs}{n:Int}{p:Prp}(hp:r.pps.find? (cq n)=some p):p.id=n/\∃k:Nat,r.pps[k]?=some p:=by
 exact⟨xj (p:=p.id=n) (show cq n p=true from yu (p:=cq n) hp),xm (xb0 hp)⟩
theorem qzs{r:Rgs}(h:OkG r)(hl:l.all (hasF r.fls)=true):l.all idB=true:=by
 rw[xi] at hl ⊢;intro n hn;obtain⟨f,hf,he⟩:=yd.1 (hl n hn);have he:=xj he;subst he;have hz:=h.fls;unfold jv at hz;split at hz
 .cases hz
 obtain⟨-,hz⟩:=ky hz;obtain⟨i,hi⟩:=xm hf;have h0:=(jgh hi (hz i (gsi.1 hi).1)).1;unfold badF at h0;unfold idB;refine vl ?_;omega
theorem qrk{r:Rgs}(h:Ok14 r)(hl:r.crs.length<1024){n d:Int}{p:Prp}(hp:r.pps.find? (cq n)=some p)(hd:dayG d=true)(h12:p.fls.length<=256) 
  (hlast:te (bm r.crs r.crs.length) d=false) (hdep:r.dps.any (depB p.fls)=false) (hv:∀f∈p.fls,∀c∈r.crs,c.day<=d->hasI f c.fls=false):
  crtB (newC r n d p.fls)=true/\Ok14 (morC r (newD r n d p.fls)):=by
 obtain⟨hid,k,hk⟩:=ji6 hp;have hP:=h.prp hk;have hG:=jj1 h.g;have hnz:1<=p.fls.length:=yn.2 hP.ne
 have hB:crtB (newC r n d p.fls)=true:=by
  unfold crtB newC;simp only[vn,vq];refine⟨⟨⟨⟨⟨⟨⟨?_,?_⟩,hd⟩,hnz⟩,h12⟩,hP.ris⟩,qzs hG hP.all⟩,qa9 h⟩
  .unfold idB;refine vl ?_;omega
  rw[<- hid];exact hP.id
 refine⟨hB,?_⟩;obtain⟨c,hc⟩:∃c,newD r n d p.fls=c:=⟨_,rfl⟩;have hcn:c.num=(r.crs.length:Int)+1:=by rw[<- hc];rfl
 have hcp:c.prp=n:=by rw[<- hc];rfl
 have hcd:c.day=d:=by rw[<- hc];rfl
 have hcf:c.fls=p.fls:=by rw[<- hc];rfl
 have hcb:c.bef=befC r.crs r.crs.length:=by rw[<- hc];rfl
 have hcg:c.dig=sumD (crtT c):=by rw[<- hc];rfl
 have hcB:crtB c=true:=by rw[<- hc];exact hB
 rw[hc]
 have hlate:∀x∈r.crs,x.day<=d:=by
  intro x hx;have hm:x.el∈crtE r:=ya.2 ⟨x,hx,rfl⟩;obtain⟨-,h2⟩:=jzi _ _ _ (jbo hG.crs);have hne:r.crs.length≠0:=fun e=>by rw[yg e] at hx;cases hx
  obtain⟨y,hy⟩:∃y,r.crs[r.crs.length-1]?=some y:=⟨_,gge omq⟩
  have hyd:y.day<=d:=by
   unfold te bm at hlast;rw[vd hne,hy] at hlast;simp only[xbl] at hlast;omega
  rcases jsu Crt.el r.crs with e|e
  .rw[hy] at e;have:=h2 x.el hm y.el e;have:x.day<=y.day:=this;omega
  rw[e] at hx;cases hx
 have hfree:∀f∈p.fls,cj (selE r++crtE r) f=false:=by
  intro f hf;rw[show cj (selE r++crtE r) f=cj (crtE r) f from qjp _ _ _];unfold cj crtE;rw[List.any_map,yf];intro x hx e;have:=hv f hf x hx (hlate x hx);unfold hasI at this;simp only[Function.comp,Crt.el,xar] at e;rw[this] at e;cases e
 have hcr:crtE (morC r c)=crtE r++[c.el]:=by unfold crtE morC;rw[xz];rfl
 have hg':OkG (morC r c):=by
  refine⟨hG.ofs,hG.pls,hG.fls,hG.rls,hG.hls,hG.sls,?_,?_⟩
  .show eg r.fls (selE r) (crtE (morC r c))=0
   rw[hcr];unfold eg;rw[vd (by rw[vr,List.length_singleton];unfold crtE;rw[vm];omega)];refine jxh _ _ _ (jbo hG.crs) (qby ⟨?_,by show dayG c.day=true;rw[hcd];exact hd,by show c.fls.all (hasF r.fls)=true;rw[hcf];exact hP.all,by show risI c.fls=true;rw[hcf];exact hP.ris,fun y hy=>?_,fun _=>?_⟩)
   .show idB c.num=true
    rw[hcn];unfold idB;refine vl ?_;omega
   .rcases jsu Crt.el r.crs with e|e
    .have hy:endE none (r.crs.map Crt.el)=some y:=hy;rw[e] at hy;obtain⟨z,hz,rfl⟩:=msi.1 hy
     show z.day<=c.day
     rw[hcd];exact hlate z (vp hz)
    have hy:endE none (r.crs.map Crt.el)=some y:=hy;rw[e] at hy;cases hy
   show c.fls.any _=false
   rw[hcf,yf];intro f hf;rw[hfree f hf];decide
  show eg r.fls (selE r++crtE (morC r c)) (depE r)=0
  have hz:=jbo hG.dps
  have hlen:¬ 1024<(depE r).length:=by
   have:=hG.dps;unfold eg at this;split at this
   .cases this
   assumption
  unfold eg;rw[vd hlen,hcr,<- xb];refine jxg _ _ _ _ (fun x hx m hm=>?_) hz;rw[jhi];obtain⟨y,hy,rfl⟩:=ya.1 hx;have hm:m∈[y.fil]:=hm;rw[xn] at hm;subst hm;have:=yf.1 hdep y hy;unfold depB hasI at this
  have e:(c.el.gone && c.el.fls.any fun f=>decide (f=y.fil))=false:=by
   show (true && c.fls.any fun f=>decide (f=y.fil))=false
   rw[hcf,xar];exact xbg.2 this
  rw[e,xb3]
 refine⟨hg'.zero,h.ck,h.pp,h.ap,fun i hi=>?_⟩;have hi:i<(r.crs++[c]).length:=hi;unfold iy;have e1:(morC r c).crs=r.crs++[c]:=rfl;have e2:(morC r c).pps=r.pps:=rfl;rw[e1,e2]
 have hbef:∀j,j<=r.crs.length->befC (r.crs++[c]) j=befC r.crs j:=fun j hj=>by
  unfold befC bm;by_cases h0:j=0
  .rw[ve h0,ve h0]
  rw[vd h0,vd h0,xp omq]
 rcases xk i r.crs.length with hlt|hge
 .have hz:=h.cr i hlt;unfold iy ly at hz;unfold ly;rw[hbef i omq,xp hlt];exact hz
 have hie:i=r.crs.length:=by rw[vr,List.length_singleton] at hi;omega
 subst hie;have hget:(r.crs++[c])[r.crs.length]?=some c:=by simp
 have hlk:ly (r.crs++[c]) r.crs.length=true:=by
  unfold ly;rw[hget,hbef _ (vo _)];unfold jcy;simp only[hcB,hcn,hcb,<- hcg,xbr,xb1,xby]
 rw[hget];simp only;rw[hcp,hp];simp only;rw[vd (fun e=>e hcf),hlk,vd dcq]
theorem vdt8{r:Rgs}{d:Int}(h:(vdt r f d).kind=8):¬d<f.opn/\gone1 r f d=false/\gone2 r f d=false:=by
 rcases jhr (r:=r) (f:=f) (d:=d) with⟨-,e⟩|⟨-,-,e⟩|⟨-,-,-,e⟩|⟨h0,h1,h2,-⟩
 .rw[e] at h;cases h
 .rw[e] at h;cases h
 .rw[e] at h;cases h
 exact⟨h0,h1,h2⟩
theorem jz3{r:Rgs}{d f:Int}(h:np r d f=false):onE r f d=0/\(onV r f d).kind=8/\(vdt r (filA r f) d).kind=8:=by
 unfold np at h;simp only[Bool.not_eq_false',vn,vq] at h;refine⟨h.1,h.2,?_⟩;have:=h.2;unfold onV at this;rw[ve h.1] at this;exact this
theorem jqw{r:Rgs}{id d:Int}(h:onE r id d=0):checkG r=0/\¬az r.fls id<0/\dayG d=true:=by
 unfold onE at h;by_cases h0:askE r id≠0
 .exact zc7
 rw[vd h0] at h;by_cases h1:dayG d=false
 .rw[ve h1] at h;cases h
 obtain⟨a,b⟩:=qdr (yt.1 h0);exact⟨a,b,by simpa using h1⟩
theorem jj0{r:Rgs}{id d:Int}(h1:checkG r=0)(h2:¬az r.fls id<0)(h3:dayG d=true):onE r id d=0:=by
 unfold onE;rw[qds h1 h2,vd (fun e=>e rfl),vd zfj]
structure Rdy (r:Rgs) (n d:Int) (p:Prp):Prop where
 ok:Ok14 r
 fp:r.pps.find? (cq n)=some p
 day:dayG d=true
 from_:p.day<=d
 wdr:d<p.wdr
 cert:jo r.crs n=false
 apv:apvB r n d=true
 fls:∀f∈p.fls,np r d f=false
theorem jki{r:Rgs}{n d:Int}: sr r n d=0↔∃p,Rdy r n d p:=by
 unfold sr;constructor
 .intro h;by_cases h1:ce r≠0
  .rw[ve h1] at h;cases h
  rw[vd h1] at h;have hok:=jc0.1 (yt.1 h1);cases hp:r.pps.find? (cq n) with
  |none=>rw[hp] at h;cases h
  |some p=>
   rw[hp] at h;simp only at h;obtain⟨hid,-⟩:=ji6 hp;by_cases h2:dayG d=false
   .rw[ve h2] at h;cases h
   rw[vd h2] at h;unfold jcc at h;rw[hid] at h;by_cases c1:d<p.day
   .rw[ve c1] at h;cases h
   rw[vd c1] at h;by_cases c2:p.wdr<=d\/jo r.crs n=true
   .rw[ve c2] at h;cases h
   rw[vd c2] at h;by_cases c3:apvB r n d=false
   .rw[ve c3] at h;cases h
   rw[vd c3] at h;by_cases c4:p.fls.any (np r d)=true
   .rw[ve c4] at h;cases h
   have c2a:¬p.wdr<=d:=fun e=>c2 (.inl e);have c2b:¬jo r.crs n=true:=fun e=>c2 (.inr e);refine⟨p,hok,hp,by simpa using h2,omq,omq,by simpa using c2b,by simpa using c3,fun f hf=>?_⟩;cases e:np r d f with
   |false=>rfl
   |true=>exact absurd (yd.2 ⟨f,hf,e⟩) c4
 rintro⟨p,h⟩;obtain⟨hid,-⟩:=ji6 h.fp;rw[vd fun e=>e (jc0.2 h.ok),h.fp];simp only;unfold jcc;rw[hid,vd (by rw[h.day];decide),vd (by have:=h.from_;omega),vd,vd (by rw[h.apv];decide),vd]
 .intro e;obtain⟨f,hf,hk⟩:=yd.1 e;rw[h.fls f hf] at hk;cases hk
 rintro (e|e)
 .have:=h.wdr;omega
 rw[h.cert] at e;cases e
def desP(r:Rgs)(n d:Int):Rgs×Crt×Int:=if desE r n d≠0 then(aj,crtZ,desE r n d) else
 if crtB (newC r n d (flsP r n))=false then(aj,crtZ,1) else
 if ce (morC r (newD r n d (flsP r n)))≠0 then(aj,crtZ,ce (morC r (newD r n d (flsP r n)))) else(morC r (newD r n d (flsP r n)),newD r n d (flsP r n),0)
structure Des (r:Rgs) (n d:Int) (p:Prp):Prop where
 rdy:Rdy r n d p
 last:te (bm r.crs r.crs.length) d=false
 dep:r.dps.any (depB p.fls)=false
theorem qsh{r:Rgs}{n d:Int}: desE r n d=0↔∃p,Des r n d p:=by
 unfold desE;constructor
 .intro h;by_cases h1:sr r n d≠0
  .rw[ve h1] at h;exact absurd h h1
  rw[vd h1] at h;obtain⟨p,hp⟩:=jki.1 (yt.1 h1);rw[hp.fp] at h;simp only at h;by_cases c1:te (bm r.crs r.crs.length) d=true
  .rw[ve c1] at h;cases h
  rw[vd c1] at h;by_cases c2:r.dps.any (depB p.fls)=true
  .rw[ve c2] at h;cases h
  exact⟨p,hp,by simpa using c1,by simpa using c2⟩
 rintro⟨p,h⟩;rw[vd fun e=>e (jki.2 ⟨p,h.rdy⟩),h.rdy.fp];simp only;rw[vd (by rw[h.last];decide),vd (by rw[h.dep];decide)]
theorem qs0{r:Rgs}{d:Int}(h:gone1 r f d=false){c:Crt}(hc:c∈r.crs)(hd:c.day<=d):hasI f.id c.fls=false:=by
 have:=yf.1 h c hc;unfold cu at this;rw[vl hd,xar] at this;exact xbg.2 this
theorem Des.ok{r:Rgs}{n d:Int}{p:Prp}(h:Des r n d p)(hl:r.crs.length<1024)(hp:p.fls.length<=256):crtB (newC r n d p.fls)=true/\Ok14 (morC r (newD r n d p.fls)):=by
 refine qrk h.rdy.ok hl h.rdy.fp h.rdy.day hp h.last h.dep fun f hf c hc hcd=>?_;obtain⟨h1,-,h3⟩:=jz3 (h.rdy.fls f hf);obtain⟨-,h5,-⟩:=jqw h1;obtain⟨k,-,-,-,-,hid⟩:=jeo h5;have:=qs0 (vdt8 h3).2.1 hc hcd;rw[hid] at this;exact this
theorem jx3{r:Rgs}{n:Int}{p:Prp}(h:r.pps.find? (cq n)=some p):flsP r n=p.fls:=by unfold flsP;rw[h]
theorem qqk{r:Rgs}{c:Crt}(h:o<c.day):vdt (morC r c) f o=vdt r f o:=by
 have hg:gone1 (morC r c) f o=gone1 r f o:=by
  unfold gone1 morC;simp only;rw[xcf];have:cu o f c.day c.fls=false:=by unfold cu;rw[vw omq,xau]
  simp[this]
 have e1:au (morC r c) f o=au r f o:=rfl;have e2:bf (morC r c).ofs (morC r c).pls (morC r c).hls f o=bf r.ofs r.pls r.hls f o:=rfl;have e5:gone2 (morC r c) f o=gone2 r f o:=rfl;have e6:selB (morC r c) f o=selB r f o:=rfl;unfold vdt;rw[e1,e2,e5,e6,hg]
theorem qqm{r:Rgs}{c:Crt}(h:c.day<=o)(hf:f.id∈c.fls)(ho:f.opn<=o):(vdt (morC r c) f o).kind=1:=by
 have hg:gone1 (morC r c) f o=true:=by
  unfold gone1 morC;refine yd.2 ⟨c,smq,?_⟩;unfold cu;rw[vl h,xar];exact yd.2 ⟨_,hf,vl rfl⟩
 rcases jhr (r:=morC r c) (f:=f) (d:=o) with⟨h0,-⟩|⟨-,-,e⟩|⟨-,e,-⟩|⟨-,e,-⟩
 .omega
 .exact e
 .rw[hg] at e;cases e
 rw[hg] at e;cases e
theorem qqf{r:Rgs}{n d:Int}: wdrE r n d=0->∃(k:Nat) (p:Prp),Ok14 r/\r.pps.find? (cq n)=some p/\p.id=n/\r.pps[k]?=some p/\jm r.pps n=k/\p.day<=d/\d<=1048575/\p.wdr=1048576/\jo r.crs n=false/\r.aps.any (pk n d)=false:=by
 intro h;unfold wdrE at h;by_cases h1:ce r≠0
 .rw[ve h1] at h;cases h
 rw[vd h1] at h;rcases ee (cq n) r.pps with⟨-,hp⟩|⟨k,p,hk,-,hx,-,hp⟩
 .rw[hp] at h;cases h
 rw[hp] at h;simp only at h;by_cases c1:d<p.day\/1048575<d
 .rw[ve c1] at h;cases h
 rw[vd c1] at h;by_cases c2:p.wdr≠1048576\/jo r.crs n=true\/r.aps.any (pk n d)=true
 .rw[ve c2] at h;cases h
 have a1:¬p.wdr≠1048576:=fun e=>c2 (.inl e);have a2:¬jo r.crs n=true:=fun e=>c2 (.inr (.inl e));have a3:¬r.aps.any (pk n d)=true:=fun e=>c2 (.inr (.inr e));exact⟨k,p,jc0.1 (yt.1 h1),hp,(ji6 hp).1,hx,hk,omq,omq,yt.1 a1,by simpa using a2,by simpa using a3⟩
theorem qyr{r:Rgs}{n d:Int}(h:wdrE r n d=0):Ok14 (wdrG r (jm r.pps n).toNat d):=by
 obtain⟨k,p,h0,h1,h2,h3,h4,h5,h6,h7,-,h9⟩:=qqf h;rw[h4,Int.toNat_natCast];exact qrj h0 h3 h5 h6 h7 (by rw[h2];exact h9)
structure Smp where
 id:Int
 mth:Int
 n:Int
 sta:Int
 cls:Str
 seed:Str
abbrev Smp.cs(s:Smp):List V:=[vi s.id,vi s.mth,vi s.n,vi s.sta,.str s.cls,.str s.seed]
def risU:Str->Bool
 |a::b::r=>decide (a.toNat<b.toNat) && risU (b::r)
 |_=>true
def capB(c:UInt8):Bool:=decide (65<=c.toNat) && decide (c.toNat<=90)
def letB(s:Str):Bool:=s.all capB && risU s && !decide (s=[])
def numB(s:Smp):Bool:=if s.mth=1 then decide (1<=s.n/\s.n<=256) && decide (0<=s.sta/\s.sta<=s.n-1) else
 decide (s.sta=0) && (if s.mth=2 then decide (0<=s.n/\s.n<=256) else if s.mth=3 then decide (s.n=0) else decide (0<=s.n/\s.n<=100))
def uo(s:Smp):Bool:=if s.mth=2 then name s.seed else if s.mth=3 then letB s.seed else decide (s.seed=[])
def smpE(s:Smp):Int:=if idB s.id=false\/¬(1<=s.mth/\s.mth<=4)\/numB s=false then 2 else if(ak s.cls).isSome=false then 3 else if uo s=false then 1 else 0
def jd8(r:Rgs)(cls:Str)(d:Int)(f:Fil):Bool:=decide (state f d=2) && !(gone1 r f d || gone2 r f d) && decide ((bd r.pls f d).2=0) && db (bd r.pls f d).1 cls
def cl(r:Rgs)(cls:Str)(d:Int):List Fil:=r.fls.filter (jd8 r cls d)
def jb(r:Rgs)(cls:Str)(d:Int):Int:=if checkG r≠0 then 1 else if(ak cls).isSome=false then 3 else if dayG d=false then 2 else 0
def jg0(r:Rgs)(cls:Str)(d:Int):List Fil:=if jb r cls d=0 then cl r cls d else []
def idsF(l:List Fil):List Int:=l.map (·.id)
def scrT(seed:Str)(n:Int):Str:=seed++[32]++decS n
def scrD(seed:Str)(n:Int):Str:=sumD (scrT seed n)
theorem jyi:∀l:Str,risU l=true↔∀(i:Nat) x y,l[i]?=some x->l[i+1]?=some y->x.toNat<y.toNat
 |[]=>by simp[risU]
 |[a]=>by simp[risU]
 |a::b::r=>by
  rw[risU,vn,vq,jyi (b::r)];constructor
  .rintro⟨h1,h2⟩ i x y hx hy;cases i with
   |zero=>simp at hx hy;subst hx;subst hy;exact h1
   |succ i=>exact h2 i x y (by simpa using hx) (by simpa using hy)
  exact zct
theorem jyz(s:Str):letB s=true↔(∀c∈s,capB c=true)/\(∀(i:Nat) x y,s[i]?=some x->s[i+1]?=some y->x.toNat<y.toNat)/\s≠[]:=by
 unfold letB;rw[vn,vn,xi,jyi,xcu,xbl];constructor
 .rintro⟨⟨a,b⟩,c⟩;exact⟨a,b,c⟩
 rintro⟨a,b,c⟩;exact⟨⟨a,b⟩,c⟩
theorem jil(h:¬((∀c∈s,capB c=true)/\(∀(i:Nat) x y,s[i]?=some x->s[i+1]?=some y->x.toNat<y.toNat)/\s≠[])):letB s=false:=xbg.2 fun e=>h ((jyz s).1 e)
def evL{α:Type}(n:Nat):Nat->List α->List α
 |_,[]=>[]
 |0,a::r=>a::evL n (n-1) r
 |k+1,_::r=>evL n k r
theorem jiq(n k:Nat):evL n k ([]:List α)=[]:=by cases k<;>rfl
theorem jnt{α:Type}(n:Nat):∀(k:Nat) (l:List α),evL n k l=evL n 0 (l.drop k)
 |0,l=>by rw[xas]
 |k+1,[]=>by rw[List.drop_nil,jiq,jiq]
 |k+1,_::r=>by rw[evL,xbz];exact jnt n k r
theorem qsb{n:Nat}(hn:1<=n){l:List α}{x:α}(h:l[i]?=some x):evL n 0 (l.drop i)=x::evL n 0 (l.drop (i+n)):=by
 obtain⟨hlt,rfl⟩:=gsi.1 h;rw[xat hlt,evL,jnt n (n-1),xc0,show i+1+(n-1)=i+n by omega]
theorem jpm{α:Type}(n:Nat):∀(l:List α) (k:Nat),(evL n k l).Sublist l
 |[],k=>by rw[jiq];exact List.Sublist.refl _
 |a::r,0=>by rw[evL];exact(jpm n r (n-1)).cons_cons a
 |a::r,k+1=>by rw[evL];exact(jpm n r k).cons a
def insR{α:Type}(lt:α->α->Bool)(x:α):List α->List α
 |[]=>[x]
 |y::ys=>if lt x y=true then y::insR lt x ys else x::y::ys
def insF(lt:α->α->Bool)(x:α)(l:List α):List α:=(insR lt x l.reverse).reverse
def srtS(lt:α->α->Bool)(l:List α):List α:=l.foldl (fun acc x=>insF lt x acc) []
theorem jz4{α:Type}{lt:α->α->Bool}{x:α}: ∀ {a:List α} (b:List α),(∀y∈a,lt x y=true)->insR lt x (a++b)=a++insR lt x b
 |[],_,_=>rfl
 |y::r,b,h=>by
  rw[List.cons_append,insR,ve (h y (yo ..)),jz4 b fun z hz=>h z (ym _ hz)];rfl
theorem qwg{x:α}{l:List α}(hj:j<=l.length)(h1:∀y∈l.drop j,lt x y=true)(h2:j=0\/∃y,l[j-1]?=some y/\lt x y=false):
  insF lt x l=l.take j++x::l.drop j:=by
 have e:l.reverse=(l.drop j).reverse++(l.take j).reverse:=by rw[<- List.reverse_append,xc2]
 have e2:insR lt x (l.take j).reverse=x::(l.take j).reverse:=by
  rcases h2 with rfl|⟨y,hy,hf⟩
  .rfl
  have hpos:j≠0\/j=0:=omq;rcases xd8 j with rfl|hpos
  .rfl
  obtain⟨k,rfl⟩:∃k,j=k+1:=⟨j-1,omq⟩;rw[xcg] at hy;obtain⟨hlt,rfl⟩:=gsi.1 hy;rw[xap hlt,List.reverse_append];simp only[List.reverse_cons,List.reverse_nil,List.nil_append,List.cons_append];rw[insR,vd (by rw[hf];decide)]
 unfold insF;rw[e,jz4 _ (fun y hy=>h1 y (List.mem_reverse.1 hy)),e2];simp
theorem jwv{α:Type}(lt:α->α->Bool)(x:α):∀l:List α,(insR lt x l).Perm (x::l)
 |[]=>List.Perm.refl _
 |y::ys=>by
  rw[insR];split
  .exact((jwv lt x ys).cons y).trans (List.Perm.swap x y ys)
  exact List.Perm.refl _
theorem qn8(lt:α->α->Bool)(x:α)(l:List α):(insF lt x l).Perm (x::l):=
 (List.reverse_perm _).trans ((jwv lt x l.reverse).trans ((List.reverse_perm l).cons x))
theorem qmc(lt:α->α->Bool)(l:List α)(x:α):srtS lt (l++[x])=insF lt x (srtS lt l):=by
 unfold srtS;rw[xbk];rfl
theorem qmb{l:List α}{x:α}(h:l[i]?=some x):srtS lt (l.take (i+1))=insF lt x (srtS lt (l.take i)):=by
 obtain⟨hlt,rfl⟩:=gsi.1 h;rw[xap hlt,qmc]
theorem jue{α:Type}(lt:α->α->Bool):∀(l acc:List α),(l.foldl (fun acc x=>insF lt x acc) acc).Perm (l++acc)
 |[],acc=>List.Perm.refl _
 |x::r,acc=>by
  rw[List.foldl_cons];refine(jue lt r _).trans ?_;refine((qn8 lt x acc).append_left r).trans ?_;exact List.perm_middle
theorem jw8(lt:α->α->Bool)(l:List α):(srtS lt l).Perm l:=by
 have:=jue lt l []
 rwa [xd] at this
theorem jmt(lt:α->α->Bool)(l:List α):(srtS lt l).length=l.length:=(jw8 lt l).length_eq
def upB(c:UInt8):UInt8:=if 97<=c.toNat/\c.toNat<=122 then c-32 else c
def jfq(s:Smp)(f:Fil):Bool:=match f.title with
 |[]=>false
 |c::_=>s.seed.any fun b=>decide (b=upB c)
def pntB(s:Smp)(f:Fil):Bool:=decide (s.n<=f.pts)
def scrB(seed:Str)(a b:Fil):Bool:=Op.bytesLess (scrD seed a.id) (scrD seed b.id)
def leaF(seed:Str)(l:List Fil)(n:Nat):List Fil:=(srtS (scrB seed) l).take n
def chsF(s:Smp)(l:List Fil):List Fil:=if s.mth=1 then evL s.n.toNat s.sta.toNat l else if s.mth=2 then leaF s.seed l (min s.n.toNat l.length) else
 if s.mth=3 then l.filter (jfq s) else l.filter (pntB s)
def slcE(r:Rgs)(s:Smp)(d:Int):Int:=if smpE s≠0 then smpE s else jb r s.cls d
def slcR(r:Rgs)(s:Smp)(d:Int):List Int:=if slcE r s d=0 then lu (idsF (chsF s (cl r s.cls d))) else []
theorem qc6(s:Smp)(l:List Fil):(chsF s l).length<=l.length:=by
 unfold chsF;split
 .exact(jpm _ _ _).length_le
 split
 .unfold leaF;rw[xq,jmt];omega
 split
 .exact zd4
 exact zd4
theorem qiv(h:l.Pairwise (· < ·)):lu l=l:=by
  unfold lu;exact List.mergeSort_of_pairwise (h.imp fun {a b} hab=>by simp only[vq];omega)
theorem joz{l:List Int}(h:risI l=true):∀(j i:Nat) (x y:Int),i<=j->l[i]?=some x->l[j]?=some y->x<=y
 |0,i,x,y,hij,hx,hy=>by
  have:i=0:=omq;subst this;rw[hx] at hy;cases hy;exact Int.le_refl _
 |j+1,i,x,y,hij,hx,hy=>by
  rcases xk i (j+1) with hlt|hge
  .have hjl:j<l.length:=by have:=(gsi.1 hy).1;omega
   obtain⟨z,hz⟩:∃z,l[j]?=some z:=⟨_,gge hjl⟩;have h1:=joz h j i x z omq hx hz;have h2:=(jeh l).1 h j z y hz hy;omega
  have:i=j+1:=omq;subst this;rw[hx] at hy;cases hy;exact Int.le_refl _
theorem qr8(h:risI l=true){a b:Int}(ha:l[0]?=some a)(hb:l[l.length-1]?=some b):l.all idB=(decide (1<=a) && decide (b<=1073741824)):=by
 rw[xc1,xi,vn,vq,vq];constructor
 .intro hA;have h1:=xj (hA a (vp ha));have h2:=xj (hA b (vp hb));exact⟨h1.1,h2.2⟩
 rintro⟨h1,h2⟩ n hn;obtain⟨i,hi⟩:=xm hn;have hl:=(gsi.1 hi).1;have g1:=joz h i 0 a n (vj _) ha hi;have g2:=joz h (l.length-1) i n b omq hi hb;exact vl ⟨omq,omq⟩
structure OkC (q:Option Clk) (c:Clk):Prop where
 id:idB c.id=true
 role:1<=c.role/\c.role<=3
 span:cd c.frm c.til=true
 name:name c.name=true
 prev:∀x,q=some x->x.id<c.id
theorem qii{l:List Clk}{c:Clk}(hc:l[i]?=some c)(h:my l i=0):OkC (bm l i) c:=by
 unfold my at h;rw[hc] at h;simp only at h;by_cases h1:idB c.id=false\/c.role<1\/3<c.role\/cd c.frm c.til=false
 .rw[ve h1] at h;cases h
 rw[vd h1] at h;by_cases h2:Arc.name c.name=false
 .rw[ve h2] at h;cases h
 rw[vd h2] at h;by_cases h3:jfh (bm l i) c=true
 .rw[ve h3] at h;cases h
 have a1:¬idB c.id=false:=fun e=>h1 (.inl e);have a2:¬c.role<1:=fun e=>h1 (.inr (.inl e));have a3:¬ 3<c.role:=fun e=>h1 (.inr (.inr (.inl e)));have a4:¬cd c.frm c.til=false:=fun e=>h1 (.inr (.inr (.inr e)));refine⟨by simpa using a1,omq,by simpa using a4,by simpa using h2,fun x hx=>?_⟩;rw[hx] at h3;have h3:¬(decide (c.id<=x.id))=true:=h3;simp only[vq] at h3;omega
theorem Ok14.clk{r:Rgs}(h:Ok14 r){c:Clk}(hc:r.cks[i]?=some c):OkC (bm r.cks i) c:=
 qii hc (h.ck.2 i (gsi.1 hc).1)
theorem Ok14.cids{r:Rgs}(h:Ok14 r):∀(j i:Nat) (p q:Clk),i<j->r.cks[i]?=some p->r.cks[j]?=some q->p.id<q.id
 |0,i,_,_,hij,_,_=>absurd hij (xba i)
 |j+1,i,p,q,hij,hp,hq=>by
  have hjl:j<r.cks.length:=by have:=(gsi.1 hq).1;omega
  obtain⟨x,hx⟩:∃x,r.cks[j]?=some x:=⟨_,gge hjl⟩;have h1:=(h.clk hq).prev x (by unfold bm;rw[vd (xcd j)];exact hx);rcases xk i j with hlt|hge
  .have:=h.cids j i p x hlt hp hx;omega
  have:i=j:=omq;subst this;rw[hp] at hx;cases hx;exact h1
theorem Ok14.cInj{r:Rgs}(h:Ok14 r){p q:Clk}(hp:r.cks[i]?=some p)(hq:r.cks[j]?=some q)(he:p.id=q.id):i=j:=by
 rcases xch i j with hl|hl|hl
 .have:=h.cids j i p q hl hp hq;omega
 .exact hl
 have:=h.cids i j q p hl hq hp;omega
def jse(n:Int)(c:Clk):Bool:=decide (c.id=n)
theorem Ok14.one{r:Rgs}(h:Ok14 r){n d:Int}(hc:pt r.cks n d=true):∃(k:Nat) (c:Clk),r.cks[k]?=some c/\c.id=n/\inS c.frm c.til d=true/\ix (ul n d) r.cks=k/\ix (jse n) r.cks=k/\r.cks.any (uz n)=decide (c.role=2):=by
 obtain⟨c0,hm,hh⟩:=yd.1 hc;rcases ee (ul n d) r.cks with⟨-,hn⟩|⟨k,c,hk,-,hx,-,hf⟩
 .exact absurd hh (by simpa using yq.1 hn c0 hm)
 have hp:ul n d c=true:=yu hf;unfold ul at hp;rw[vn,vq] at hp;have huniq:∀ {j:Nat} {x:Clk},r.cks[j]?=some x->x.id=n->j=k:=fun hj he=>h.cInj hj hx (he.trans hp.1.symm);refine⟨k,c,hx,hp.1,hp.2,hk,?_,?_⟩
 .rcases ee (jse n) r.cks with⟨-,hn⟩|⟨j,x,hj,-,hxj,-,hfj⟩
  .exact absurd (vl hp.1) (yq.1 hn c (vp hx))
  have he:jse n x=true:=yu hfj;rw[hj,huniq hxj (xj he)]
 rw[xc1,yd,vq];constructor
 .rintro⟨x,hxm,ha⟩;unfold uz at ha;rw[vn,vq,vq] at ha;obtain⟨j,hj⟩:=xm hxm;have:=huniq hj ha.1;subst this;rw[hx] at hj;cases hj;exact ha.2
 intro hr;refine⟨c,vp hx,?_⟩;unfold uz;rw[hp.1,hr];simp
structure OkA (r:Rgs) (pre:List Apv) (q:Option Apv) (a:Apv) (p:Prp):Prop where
 day:p.day<=a.day/\a.day<=1048575
 prev:∀x,q=some x->x.day<=a.day
 wdr:a.day<p.wdr
 clk:pt r.cks a.clk a.day=true
 other:a.clk≠p.clk
 once:pre.any (jd1 a)=false
theorem jx8{r:Rgs}(h:OkG r)(hf:r.fls[i]?=some f):lh r.ofs r.pls r.fls i=0:=by
 have hz:=h.fls;unfold jv at hz;split at hz
 .cases hz
 exact(ky hz).2 i (gsi.1 hf).1
theorem qqp{r:Rgs}(h:OkG r)(hf:f∈r.fls):name f.title=true:=by
 obtain⟨i,hi⟩:=xci.1 hf;exact(jgh hi (jx8 h hi)).2.2.1
theorem qjc(h:name s=true):(∀c∈s,c.toNat<128)/\s≠[]:=by
 unfold name at h;simp only[vn,vq] at h;obtain⟨⟨⟨⟨⟨h1,-⟩,h2⟩,-⟩,-⟩,-⟩:=h;constructor
 .intro c hc;have:=xi.1 h2 c hc;simp only[vn,vq] at this;omega
 rintro rfl;simp at h1
theorem qa4{r:Rgs}{cls:Str}{d:Int}(h:f∈cl r cls d):f∈r.fls/\state f d=2/\(bd r.pls f d).2=0/\db (bd r.pls f d).1 cls=true:=by
 unfold cl at h;obtain⟨h1,h2⟩:=xb7.1 h;unfold jd8 at h2;simp only[vn,vq] at h2;exact⟨h1,h2.1.1.1,h2.1.2,h2.2⟩
theorem qu3{r:Rgs}{cls:Str}{d:Int}(h:jb r cls d=0):OkG r:=by
 refine jj1 (Decidable.byContradiction fun e=>?_);unfold jb at h;rw[ve e] at h;cases h
end Go.Arc
