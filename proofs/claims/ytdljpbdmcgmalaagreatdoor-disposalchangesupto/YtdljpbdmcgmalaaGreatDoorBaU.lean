/- A part of this claim. -/
import Derived.Test.YtdljpbdmcgmalaaGreatDoorBaS
namespace Go.Arc
open Go.Ab
def jac {α:Type} (l:List α) (i:Nat):Option α:=if i=0 then none else l[i-1]?
def jj5 (q:Option Clk) (c:Clk):Bool:=match q with | some q=>decide (c.id<=q.id) | none=>false
def jbs (l:List Clk) (i:Nat):Int:=match l[i]? with
 | none=>0
 | some c=>if idB c.id=false\/c.role<1\/3<c.role\/jaq c.frm c.til=false then 2 else if name c.name=false then 4 else
  if jj5 (jac l i) c=true then 5 else 0
def jcl (n d:Int) (c:Clk):Bool:=decide (c.id=n) && inS c.frm c.til d
def jep (l:List Clk) (n d:Int):Bool:=l.any (jcl n d)
def jar (n:Int) (p:Prp):Bool:=decide (p.id=n)
def jcm (l:List Prp) (n:Int):Int:=ix (jar n) l
def isCrtP (n:Int) (c:Crt):Bool:=decide (c.prp=n)
def jd0 (l:List Crt) (n:Int):Bool:=l.any (isCrtP n)
def jf7 (d f:Int) (q:Prp):Bool:=decide (d<q.wdr) && hasI f q.fls
def jhe (l:List Prp) (d f:Int):Bool:=l.any (jf7 d f)
def wdrB (p:Prp):Bool:=(decide (p.day<=p.wdr) && decide (p.wdr<=1048575)) || decide (p.wdr=1048576)
def jeh (q:Option Prp) (p:Prp):Bool:=match q with | some q=>decide (p.id<=q.id) || decide (p.day<q.day) | none=>false
def prpE (r:Rgs) (pre:List Prp) (q:Option Prp) (p:Prp):Int:=
 if idB p.id=false\/dayG p.day=false\/wdrB p=false then 2 else
 if jeh q p=true then 5 else
 if jep r.cks p.clk p.day=false then 7 else if p.fls=[] then 9 else
 if p.fls.all (hasF r.fls)=false then 7 else if risI p.fls=false then 5 else
 if p.fls.any (jhe pre p.day)=true then 6 else 0
def jc9 (r:Rgs) (i:Nat):Int:=match r.pps[i]? with
 | none=>0
 | some p=>prpE r (r.pps.take i) (jac r.pps i) p
def jem (a b:Apv):Bool:=decide (b.prp=a.prp) && decide (b.clk=a.clk)
def jhg (q:Option Apv) (a:Apv):Bool:=match q with | some q=>decide (a.day<q.day) | none=>false
def apvE (r:Rgs) (pre:List Apv) (q:Option Apv) (a:Apv) (p:Prp):Int:=
 if a.day<p.day\/1048575<a.day then 2 else
 if jhg q a=true then 5 else
 if p.wdr<=a.day then 11 else if jep r.cks a.clk a.day=false then 7 else if a.clk=p.clk then 22 else
 if pre.any (jem a)=true then 6 else 0
def jbt (r:Rgs) (i:Nat):Int:=match r.aps[i]? with
 | none=>0
 | some a=>match r.pps.find? (jar a.prp) with
  | none=>7
  | some p=>apvE r (r.aps.take i) (jac r.aps i) a p
def crtB (c:Crt):Bool:=idB c.num && idB c.prp && dayG c.day && decide (1<=c.fls.length) && decide (c.fls.length<=256) && risI c.fls && c.fls.all idB && decide (c.bef.length=32)
def xCert:Str:=[99,101,114,116,105,102,105,99,97,116,101,32]
def jkt:Str:=[32,112,114,111,112,111,115,97,108,32]
def xDayS:Str:=[32,100,97,121,32]
def xFiles:Str:=[32,102,105,108,101,115]
def flsT (l:List Int):Str:=(l.map fun f=>32::decS f).flatten
def crtT (c:Crt):Str:=xCert++decS c.num++jkt++decS c.prp++xDayS++decS c.day++xFiles++flsT c.fls++10::c.bef
def digR (c:Crt):Str×Int:=if crtB c=true then (sumD (crtT c),0) else ([],1)
def befC (l:List Crt) (i:Nat):Str:=match jac l i with
 | some c=>c.dig
 | none=>List.replicate 32 0
def linkC (b:Str) (i:Nat) (c:Crt):Bool:=crtB c && decide (c.num=(i:Int)+1) && (c.dig == sumD (crtT c)) && (c.bef == b)
def jc0 (l:List Crt) (i:Nat):Bool:=match l[i]? with
 | some c=>linkC (befC l i) i c
 | none=>false
def chainR (l:List Crt):Int×Int:=chk 1024 l.length fun i=>if jc0 l i=true then 0 else 14
def jbh (r:Rgs) (i:Nat):Int:=match r.crs[i]? with
 | none=>0
 | some c=>match r.pps.find? (jar c.prp) with
  | none=>7
  | some p=>if c.fls≠p.fls then 10 else if jc0 r.crs i=false then 14 else 0
def chkN (r:Rgs):List Int:=[(chk 32 r.cks.length (jbs r.cks)).2,(chk 1024 r.pps.length (jc9 r)).2,(chk 1024 r.aps.length (jbt r)).2,(chk r.crs.length r.crs.length (jbh r)).2]
def jas (r:Rgs):Int:=fstE (checkG r::chkN r)
def jbn:Rgs:=⟨[],[],[],[],[],[],[],[],[],[],[],0⟩
def chgd (x:Rgs):Rgs×Int:=if jas x≠0 then (jbn,jas x) else (x,0)
def morP (r:Rgs) (p:Prp):Rgs:= { r with pps:=r.pps++[p] }
def morA (r:Rgs) (a:Apv):Rgs:= { r with aps:=r.aps++[a] }
def morC (r:Rgs) (c:Crt):Rgs:= { r with crs:=r.crs++[c] }
def propR (r:Rgs) (p:Prp):Rgs×Int:=if jas r≠0 then (jbn,1) else if p.wdr≠1048576 then (jbn,11) else chgd (morP r p)
def apprR (r:Rgs) (a:Apv):Rgs×Int:=if jas r≠0 then (jbn,1) else chgd (morA r a)
def jcz (n d:Int) (a:Apv):Bool:=decide (a.prp=n) && decide (d<=a.day)
def wdrP (l:List Prp) (k:Nat) (d:Int):List Prp:=match l[k]? with
 | some p=>l.set k { p with wdr:=d }
 | none=>l
def wdrG (r:Rgs) (k:Nat) (d:Int):Rgs:= { r with pps:=wdrP r.pps k d }
def wdrE (r:Rgs) (n d:Int):Int:=if jas r≠0 then 1 else match r.pps.find? (jar n) with
 | none=>7
 | some p=>if d<p.day\/1048575<d then 2 else if p.wdr≠1048576\/jd0 r.crs n=true\/r.aps.any (jcz n d)=true then 11 else 0
def wdrR (r:Rgs) (n d:Int):Rgs×Int:=if wdrE r n d≠0 then (jbn,wdrE r n d) else (wdrG r (jcm r.pps n).toNat d,0)
def forA (n d:Int) (a:Apv):Bool:=decide (a.prp=n) && decide (a.day<=d)
def archC (n:Int) (c:Clk):Bool:=decide (c.id=n) && decide (c.role=2)
def apvB (r:Rgs) (n d:Int):Bool:=decide (2<=(r.aps.filter (forA n d)).length) && (r.aps.filter (forA n d)).any fun a=>r.cks.any (archC a.clk)
def jft (r:Rgs) (d f:Int):Bool:= !(decide (onE r f d=0) && decide ((onV r f d).kind=8))
def readyE (r:Rgs) (p:Prp) (d:Int):Int:=if d<p.day then 5 else if p.wdr<=d\/jd0 r.crs p.id=true then 11 else if apvB r p.id d=false then 22 else
 if p.fls.any (jft r d)=true then 21 else 0
def jgy (r:Rgs) (n d:Int):Int:=if jas r≠0 then 1 else match r.pps.find? (jar n) with
 | none=>7
 | some p=>if dayG d=false then 2 else readyE r p d
def crtZ:Crt:=⟨0,0,0,[],[],[]⟩
def newC (r:Rgs) (n d:Int) (l:List Int):Crt:=⟨(r.crs.length:Int)+1,n,d,l,befC r.crs r.crs.length,[]⟩
def newD (r:Rgs) (n d:Int) (l:List Int):Crt:= { newC r n d l with dig:=sumD (crtT (newC r n d l)) }
def depB (l:List Int) (x:Dep):Bool:=hasI x.fil l
def lateC (q:Option Crt) (d:Int):Bool:=match q with | some c=>decide (d<c.day) | none=>false
def desE (r:Rgs) (n d:Int):Int:=if jgy r n d≠0 then jgy r n d else match r.pps.find? (jar n) with
 | none=>7
 | some p=>if lateC (jac r.crs r.crs.length) d=true then 5 else
  if r.dps.any (depB p.fls)=true then 6 else 0
def flsP (r:Rgs) (n:Int):List Int:=match r.pps.find? (jar n) with
 | none=>[]
 | some p=>p.fls
def desR (r:Rgs) (n d:Int):Rgs×Crt×Int:=if desE r n d≠0 then (jbn,crtZ,desE r n d) else (morC r (newD r n d (flsP r n)),newD r n d (flsP r n),0)
theorem fstE_zero {l:List Int} : fstE l=0↔∀x∈l,x=0:=by
 induction l with
 | nil=>exact ⟨fun _ x hx=>(List.not_mem_nil hx).elim,fun _=>rfl⟩
 | cons a l ih=>
  constructor
  ·intro h;obtain ⟨h1,h2⟩:=jh6 h;intro x hx;rcases List.mem_cons.1 hx with rfl | hx
   ·exact h1
   ·exact ih.1 h2 x hx
  ·intro h;unfold fstE;rw[if_neg fun e=>e (h a (.head _))];exact ih.2 fun x hx=>h x (.tail _ hx)
theorem jlu {lim n:Nat} {f:Nat->Int} : (chk lim n f).2=0↔¬lim<n/\∀i,i<n->f i=0:=⟨jh8,fun h=>by rw[jds h.1 h.2]⟩
structure Ok14 (r:Rgs):Prop where
 g:checkG r=0
 ck:¬ 32<r.cks.length/\∀i,i<r.cks.length->jbs r.cks i=0
 pp:¬ 1024<r.pps.length/\∀i,i<r.pps.length->jc9 r i=0
 ap:¬ 1024<r.aps.length/\∀i,i<r.aps.length->jbt r i=0
 cr:∀i,i<r.crs.length->jbh r i=0
theorem jla {r:Rgs} : jas r=0↔Ok14 r:=by
 unfold jas chkN;rw[fstE_zero];constructor
 ·intro h;exact ⟨h _ sm,jh8 (h _ sm),jh8 (h _ sm),jh8 (h _ sm),(jh8 (h (chk r.crs.length r.crs.length (jbh r)).2 sm)).2⟩
 ·intro h x hx;simp only[List.mem_cons,List.not_mem_nil,or_false] at hx;rcases hx with rfl | rfl | rfl | rfl | rfl
  ·exact h.g
  ·exact jlu.2 h.ck
  ·exact jlu.2 h.pp
  ·exact jlu.2 h.ap
  ·exact jlu.2 ⟨Nat.lt_irrefl _,h.cr⟩
structure OkP (r:Rgs) (pre:List Prp) (q:Option Prp) (p:Prp):Prop where
 id:idB p.id=true
 day:dayG p.day=true
 wdr:wdrB p=true
 prev:∀x,q=some x->x.id<p.id/\x.day<=p.day
 clk:jep r.cks p.clk p.day=true
 ne:p.fls≠[]
 all:p.fls.all (hasF r.fls)=true
 ris:risI p.fls=true
 free:p.fls.any (jhe pre p.day)=false
theorem prpE_zero {r:Rgs} {pre:List Prp} {q:Option Prp} {p:Prp} : prpE r pre q p=0↔OkP r pre q p:=by
 unfold prpE;constructor
 ·intro h;by_cases h1:idB p.id=false\/dayG p.day=false\/wdrB p=false
  ·rw[if_pos h1] at h; cases h
  rw[if_neg h1] at h;have h1a:¬idB p.id=false:=fun e=>h1 (.inl e);have h1b:¬dayG p.day=false:=fun e=>h1 (.inr (.inl e));have h1c:¬wdrB p=false:=fun e=>h1 (.inr (.inr e));by_cases h2:jeh q p=true
  ·rw[if_pos h2] at h; cases h
  rw[if_neg h2] at h;by_cases h3:jep r.cks p.clk p.day=false
  ·rw[if_pos h3] at h; cases h
  rw[if_neg h3] at h;by_cases h4:p.fls=[]
  ·rw[if_pos h4] at h; cases h
  rw[if_neg h4] at h;by_cases h5:p.fls.all (hasF r.fls)=false
  ·rw[if_pos h5] at h; cases h
  rw[if_neg h5] at h;by_cases h6:risI p.fls=false
  ·rw[if_pos h6] at h; cases h
  rw[if_neg h6] at h;by_cases h7:p.fls.any (jhe pre p.day)=true
  ·rw[if_pos h7] at h; cases h
  refine ⟨by simpa using h1a,by simpa using h1b,by simpa using h1c,fun x hx=> ?_,by simpa using h3,h4,by simpa using h5,by simpa using h6,by simpa using h7⟩;subst hx;unfold jeh at h2;simp only[Bool.or_eq_true,decide_eq_true_eq] at h2;omega
 ·intro h
  have h2:¬jeh q p=true:=by
   cases q with
   | none=>exact fun e=>nomatch e
   | some x=>
    have:=h.prev x rfl;unfold jeh;simp only[Bool.or_eq_true,decide_eq_true_eq];omega
  rw[if_neg (by rw[h.id,h.day,h.wdr]; decide),if_neg h2,if_neg (by rw[h.clk]; decide),if_neg h.ne,if_neg (by rw[h.all]; decide),if_neg (by rw[h.ris]; decide),if_neg (by rw[h.free]; decide)]
theorem Ok14.prp {r:Rgs} (h:Ok14 r) {i:Nat} {p:Prp} (hp:r.pps[i]? = some p):OkP r (r.pps.take i) (jac r.pps i) p:=by
 have:=h.pp.2 i (gsi.1 hp).1;unfold jc9 at this;rw[hp] at this;exact prpE_zero.1 this
theorem Ok14.ids {r:Rgs} (h:Ok14 r):∀(j i:Nat) (p q:Prp),i<j->r.pps[i]? = some p->r.pps[j]? = some q->p.id<q.id
 | 0,i,_,_,hij,_,_=>absurd hij (Nat.not_lt_zero i)
 | j+1,i,p,q,hij,hp,hq=>by
  have hjl:j<r.pps.length:=by have:=(gsi.1 hq).1; omega
  obtain ⟨x,hx⟩:∃x,r.pps[j]? = some x:=⟨_,gge hjl⟩;have h1:=(h.prp hq).prev x zew;rcases Nat.lt_or_ge i j with hlt | hge
  ·have:=h.ids j i p x hlt hp hx;omega
  ·have:i=j:=om
   subst this;rw[hp] at hx;cases hx;exact h1.1
theorem Ok14.idInj {r:Rgs} (h:Ok14 r) {i j:Nat} {p q:Prp} (hp:r.pps[i]? = some p) (hq:r.pps[j]? = some q) (he:p.id=q.id):i=j:=by
 rcases Nat.lt_trichotomy i j with hl | hl | hl
 ·have:=h.ids j i p q hl hp hq; omega
 ·exact hl
 ·have:=h.ids i j q p hl hq hp; omega
def wdr1 (n d:Int) (p:Prp):Prp:=if p.id=n then { p with wdr:=d } else p
theorem jli (n d:Int) (p:Prp):(wdr1 n d p).id=p.id:=by unfold wdr1; split <;> rfl
theorem jjp (n d:Int) (p:Prp):(wdr1 n d p).day=p.day:=by unfold wdr1; split <;> rfl
theorem wdr1_clk (n d:Int) (p:Prp):(wdr1 n d p).clk=p.clk:=by unfold wdr1; split <;> rfl
theorem jjo (n d:Int) (p:Prp):(wdr1 n d p).fls=p.fls:=by unfold wdr1; split <;> rfl
theorem wdrP_map {r:Rgs} (h:Ok14 r) {k:Nat} {p:Prp} (hp:r.pps[k]? = some p) (d:Int):wdrP r.pps k d=r.pps.map (wdr1 p.id d):=by
 unfold wdrP;rw[hp];apply List.ext_getElem?;intro i;rw[List.getElem?_map];by_cases hik:k=i
 ·subst hik;rw[List.getElem?_set_self (gsi.1 hp).1,hp];simp[wdr1]
 ·rw[List.getElem?_set_ne hik];cases hq:r.pps[i]? with
  | none=>rfl
  | some q=>
   have:q.id≠p.id:=fun e=>hik (h.idInj hp hq e.symm);simp[wdr1,this]
theorem find_map {n:Int} {g:Prp->Prp} (hg:∀p,(g p).id=p.id) (l:List Prp):(l.map g).find? (jar n)=(l.find? (jar n)).map g:=by
 rw[List.find?_map];congr 1;congr 1
 funext p
 unfold jar;simp[hg]
theorem prevAt_map {α β:Type} (g:α->β) (l:List α) (i:Nat):jac (l.map g) i=(jac l i).map g:=by
 unfold jac;split
 ·rfl
 ·rw[List.getElem?_map]
theorem ok14_wdr {r:Rgs} (h:Ok14 r) {k:Nat} {p:Prp} (hp:r.pps[k]? = some p) {d:Int} (h1:p.day<=d) (h2:d<=1048575) (h3:p.wdr=1048576) (h4:r.aps.any (jcz p.id d)=false):Ok14 (wdrG r k d):=by
 have hm:=wdrP_map h hp d;have hpp:(wdrG r k d).pps=r.pps.map (wdr1 p.id d):=hm;have hlen:(wdrG r k d).pps.length=r.pps.length:=by rw[hpp,List.length_map]
 refine ⟨h.g,h.ck,⟨by rw[hlen]; exact h.pp.1,fun i hi=> ?_⟩,⟨h.ap.1,fun i hi=> ?_⟩,fun i hi=> ?_⟩
 ·rw[hlen] at hi;obtain ⟨q,hq⟩:∃q,r.pps[i]? = some q:=⟨_,gge hi⟩;have hk:=h.prp hq;unfold jc9;rw[hpp,List.getElem?_map,hq]
  show prpE (wdrG r k d) ((r.pps.map (wdr1 p.id d)).take i) (jac (r.pps.map (wdr1 p.id d)) i) (wdr1 p.id d q)=0
  rw[prevAt_map,<- List.map_take];refine prpE_zero.2 ⟨by rw[jli]; exact hk.id,by rw[jjp]; exact hk.day,?_,fun x hx=> ?_,by rw[wdr1_clk,jjp]; exact hk.clk,by rw[jjo]; exact hk.ne,by rw[jjo]; exact hk.all,by rw[jjo]; exact hk.ris,?_⟩
  ·unfold wdr1;by_cases he:q.id=p.id
   ·have hik:=h.idInj hq hp he;subst hik;rw[hp] at hq;cases hq;rw[if_pos rfl];unfold wdrB;simp only[decide_eq_true h1,decide_eq_true h2,Bool.and_self,Bool.true_or]
   ·rw[if_neg he]; exact hk.wdr
  ·obtain ⟨y,hy,rfl⟩:=msi.1 hx;rw[jli,jli,jjp,jjp];exact hk.prev y hy
  ·rw[jjo,jjp];rw[List.any_eq_false];intro f hf ht;have hfr:=List.any_eq_false.1 hk.free f hf;refine hfr ?_;unfold jhe at ht ⊢;rw[List.any_map] at ht;obtain ⟨x,hx,hx2⟩:=List.any_eq_true.1 ht;refine List.any_eq_true.2 ⟨x,hx,?_⟩;unfold jf7 at hx2 ⊢;simp only[Function.comp,jjo,Bool.and_eq_true,decide_eq_true_eq] at hx2 ⊢;refine ⟨?_,hx2.2⟩;have h5:=hx2.1;unfold wdr1 at h5;by_cases he:x.id=p.id
   ·rw[if_pos he] at h5;have h5:q.day<d:=h5;obtain ⟨j,hj⟩:=List.getElem?_of_mem (List.mem_of_mem_take hx);have:=h.idInj hj hp he;subst this;rw[hp] at hj;cases hj;omega
   ·rw[if_neg he] at h5; exact h5
 ·have hz:=h.ap.2 i hi;obtain ⟨a,ha⟩:∃a,r.aps[i]? = some a:=⟨_,gge hi⟩;unfold jbt at hz ⊢;have hap:(wdrG r k d).aps=r.aps:=rfl;rw[hap,ha,hpp];rw[ha] at hz;simp only at hz ⊢;rw[find_map (jli p.id d)];cases hf:r.pps.find? (jar a.prp) with
  | none=>rw[hf] at hz; cases hz
  | some q=>
   rw[hf] at hz;simp only[Option.map_some] at hz ⊢;unfold apvE at hz ⊢;have hcl:(wdrG r k d).cks=r.cks:=rfl;rw[jjp,wdr1_clk,hcl]
   have hw:(if (wdr1 p.id d q).wdr<=a.day then (11:Int) else 0)=(if q.wdr<=a.day then 11 else 0)\/q.wdr<=a.day:=by
    by_cases hq:q.wdr<=a.day
    ·exact .inr hq
    ·left;rw[if_neg hq,if_neg];unfold wdr1;by_cases he:q.id=p.id
     ·rw[if_pos he];have hid:q.id=a.prp:=of_decide_eq_true (p:=q.id=a.prp) (show jar a.prp q=true from List.find?_some (p:=jar a.prp) hf);have:=List.any_eq_false.1 h4 a (List.mem_of_getElem? ha);unfold jcz at this;simp only[Bool.and_eq_true,decide_eq_true_eq,not_and] at this;have:=this om
      show ¬d<=a.day
      exact this
     ·rw[if_neg he]; exact hq
   by_cases c1:a.day<q.day\/1048575<a.day
   ·rw[if_pos c1] at hz; cases hz
   rw[if_neg c1] at hz ⊢;by_cases c2:jhg (jac r.aps i) a=true
   ·rw[if_pos c2] at hz; cases hz
   rw[if_neg c2] at hz ⊢;by_cases c3:q.wdr<=a.day
   ·rw[if_pos c3] at hz; cases hz
   rw[if_neg c3] at hz
   have c4:¬(wdr1 p.id d q).wdr<=a.day:=by
    rcases hw with hw | hw
    ·intro e;rw[if_pos e,if_neg c3] at hw;cases hw
    ·exact absurd hw c3
   rw[if_neg c4];exact hz
 ·have hz:=h.cr i hi;obtain ⟨c,hc⟩:∃c,r.crs[i]? = some c:=⟨_,gge hi⟩;unfold jbh at hz ⊢;have hcr:(wdrG r k d).crs=r.crs:=rfl;rw[hcr,hc,hpp];rw[hc] at hz;simp only at hz ⊢;rw[find_map (jli p.id d)];cases hf:r.pps.find? (jar c.prp) with
  | none=>rw[hf] at hz; cases hz
  | some q=>
   rw[hf] at hz;simp only[Option.map_some] at hz ⊢;rw[jjo];exact hz
structure OkE (fs:List Fil) (pre:List Elm) (q:Option Elm) (x:Elm):Prop where
 id:idB x.id=true
 day:dayG x.day=true
 all:x.fls.all (hasF fs)=true
 ris:risI x.fls=true
 prev:∀y,q=some y->y.day<=x.day
 free:x.gone=true->x.fls.any (jaj pre)=false
def lateE (q:Option Elm) (x:Elm):Bool:=match q with | some q=>decide (x.day<q.day) | none=>false
theorem elmE_eq (fs:List Fil) (pre:List Elm) (q:Option Elm) (x:Elm):elmE fs pre q x=if idB x.id=false\/dayG x.day=false then 2 else if x.fls.all (hasF fs)=false then 7 else
  if risI x.fls=false\/lateE q x=true then 5 else if x.gone=true/\x.fls.any (jaj pre)=true then 6 else 0:=rfl
theorem elmE_zero {fs:List Fil} {pre:List Elm} {q:Option Elm} {x:Elm} (h:elmE fs pre q x=0):OkE fs pre q x:=by
 rw[elmE_eq] at h;by_cases h1:idB x.id=false\/dayG x.day=false
 ·rw[if_pos h1] at h; cases h
 rw[if_neg h1] at h;by_cases h2:x.fls.all (hasF fs)=false
 ·rw[if_pos h2] at h; cases h
 rw[if_neg h2] at h;by_cases h3:risI x.fls=false\/lateE q x=true
 ·rw[if_pos h3] at h; cases h
 rw[if_neg h3] at h;by_cases h4:x.gone=true/\x.fls.any (jaj pre)=true
 ·rw[if_pos h4] at h; cases h
 have h1a:¬idB x.id=false:=fun e=>h1 (.inl e);have h1b:¬dayG x.day=false:=fun e=>h1 (.inr e);have h3a:¬risI x.fls=false:=fun e=>h3 (.inl e);refine ⟨by simpa using h1a,by simpa using h1b,by simpa using h2,by simpa using h3a,fun y hy=> ?_,fun hg=> ?_⟩
 ·subst hy;have h3b:¬(decide (x.day<y.day))=true:=fun e=>h3 (.inr e);simp only[decide_eq_true_eq] at h3b;omega
 ·cases e:x.fls.any (jaj pre) with
  | false=>rfl
  | true=>exact absurd ⟨hg,e⟩ h4
theorem elmE_of {fs:List Fil} {pre:List Elm} {q:Option Elm} {x:Elm} (h:OkE fs pre q x):elmE fs pre q x=0:=by
 have h3:¬(risI x.fls=false\/lateE q x=true):=by
  rintro (e | e)
  ·rw[h.ris] at e; cases e
  ·cases q with
   | none=>cases e
   | some y=>
    have:=h.prev y rfl;have e:decide (x.day<y.day)=true:=e;simp only[decide_eq_true_eq] at e;omega
 have h4:¬(x.gone=true/\x.fls.any (jaj pre)=true):=fun ⟨hg,e⟩=>by
  rw[h.free hg] at e;cases e
 rw[elmE_eq,if_neg (by rw[h.id,h.day]; decide),if_neg (by rw[h.all]; decide),if_neg h3,if_neg h4]
theorem jpv {fs:List Fil} {pre:List Elm} {q:Option Elm} {x:Elm} {l:List Elm} : elsE fs pre q (x::l)=0↔elmE fs pre q x=0/\elsE fs (pre++[x]) (some x) l=0:=by
 rw[elsE];constructor
 ·intro h;by_cases h0:elmE fs pre q x≠0
  ·rw[if_pos h0] at h; exact absurd h h0
  ·rw[if_neg h0] at h; exact ⟨om,h⟩
 ·rintro ⟨h1,h2⟩;rw[if_neg fun e=>e h1];exact h2
theorem endE_mem:∀(l:List Elm) (x z:Elm),endE (some x) l=some z->z=x\/z∈l
 | [],x,z,h=>by cases h; exact .inl rfl
 | y::l,x,z,h=>by
  rcases endE_mem l y z h with rfl | h
  ·exact .inr (.head _)
  ·exact .inr (.tail _ h)
theorem els_days {fs:List Fil} : ∀(l pre:List Elm) (q:Option Elm),elsE fs pre q l=0->(∀y,q=some y->∀x∈l,y.day<=x.day)/\∀x∈l,∀z,endE q l=some z->x.day<=z.day
 | [],_,_,_=>⟨fun _ _ x hx=>(List.not_mem_nil hx).elim,fun x hx=>(List.not_mem_nil hx).elim⟩
 | x::l,pre,q,h=>by
  obtain ⟨h1,h2⟩:=jpv.1 h;obtain ⟨g1,g2⟩:=els_days l (pre++[x]) (some x) h2;have hx:=elmE_zero h1;refine ⟨fun y hy z hz=> ?_,fun z hz w hw=> ?_⟩
  ·rcases List.mem_cons.1 hz with rfl | hz
   ·exact hx.prev y hy
   ·exact Int.le_trans (hx.prev y hy) (g1 x rfl z hz)
  ·rcases List.mem_cons.1 hz with rfl | hz
   ·rcases endE_mem l z w hw with rfl | hm
    ·exact Int.le_refl _
    ·exact g1 z rfl w hm
   ·exact g2 z hz w hw
theorem elsE_pre' {fs:List Fil} : ∀(l pre pre':List Elm) (q:Option Elm),(∀x∈l,∀n∈x.fls,jaj pre' n=jaj pre n)->elsE fs pre q l=0->elsE fs pre' q l=0
 | [],_,_,_,_,_=>rfl
 | x::l,pre,pre',q,hg,h=>by
  obtain ⟨h1,h2⟩:=jpv.1 h;have hx:=elmE_zero h1;refine jpv.2 ⟨elmE_of ⟨hx.id,hx.day,hx.all,hx.ris,hx.prev,fun e=> ?_⟩,elsE_pre' l (pre++[x]) (pre'++[x]) (some x) (fun y hy n hn=> ?_) h2⟩
  ·rw[List.any_eq_false];intro n hn;rw[hg x (.head _) n hn];exact List.any_eq_false.1 (hx.free e) n hn
  ·rw[jmt,jmt,hg y (.tail _ hy) n hn]
theorem jqj {α:Type} (g:α->Elm) (l:List α):endE none (l.map g)=(l[l.length-1]?).map g\/l=[]:=by
 rcases List.eq_nil_or_concat l with e | ⟨m,q,e⟩
 ·exact .inr e
 ·left;rw[List.concat_eq_append] at e;subst e;rw[List.map_append,List.map_singleton,endE_last];simp
theorem Ok14.crt {r:Rgs} (h:Ok14 r) {i:Nat} {c:Crt} (hc:r.crs[i]? = some c):(∃p,r.pps.find? (jar c.prp)=some p/\c.fls=p.fls)/\linkC (befC r.crs i) i c=true:=by
 have hz:=h.cr i (gsi.1 hc).1;unfold jbh at hz;rw[hc] at hz;simp only at hz;cases hf:r.pps.find? (jar c.prp) with
 | none=>rw[hf] at hz; cases hz
 | some p=>
  rw[hf] at hz;simp only at hz;by_cases h1:c.fls≠p.fls
  ·rw[if_pos h1] at hz; cases hz
  rw[if_neg h1] at hz;by_cases h2:jc0 r.crs i=false
  ·rw[if_pos h2] at hz; cases hz
  refine ⟨⟨p,rfl,Decidable.not_not.1 h1⟩,?_⟩;unfold jc0 at h2;rw[hc] at h2;simpa using h2
theorem befC_len {r:Rgs} (h:Ok14 r):(befC r.crs r.crs.length).length=32:=by
 unfold befC jac;by_cases h0:r.crs.length=0
 ·rw[if_pos h0]; rfl
 ·rw[if_neg h0];obtain ⟨c,hc⟩:∃c,r.crs[r.crs.length-1]? = some c:=⟨_,gge om⟩;rw[hc];obtain ⟨-,hl⟩:=h.crt hc;unfold linkC at hl;simp only[Bool.and_eq_true,beq_iff_eq] at hl
  show c.dig.length=32
  rw[hl.1.2];exact jn3 _
theorem jne {r:Rgs} {n:Int} {p:Prp} (hp:r.pps.find? (jar n)=some p):p.id=n/\∃k:Nat,r.pps[k]? = some p:=by
 exact ⟨of_decide_eq_true (p:=p.id=n) (show jar n p=true from List.find?_some (p:=jar n) hp),List.getElem?_of_mem (List.mem_of_find?_eq_some hp)⟩
theorem fls_id {r:Rgs} (h:OkG r) {l:List Int} (hl:l.all (hasF r.fls)=true):l.all idB=true:=by
 rw[List.all_eq_true] at hl ⊢;intro n hn;obtain ⟨f,hf,he⟩:=List.any_eq_true.1 (hl n hn);have he:=of_decide_eq_true he;subst he;have hz:=h.fls;unfold jei at hz;split at hz
 ·cases hz
 obtain ⟨-,hz⟩:=jh8 hz;obtain ⟨i,hi⟩:=List.getElem?_of_mem hf;have h0:=(faultF_zero hi (hz i (gsi.1 hi).1)).1;unfold badF at h0;unfold idB;refine decide_eq_true ?_;omega
theorem ok14_des {r:Rgs} (h:Ok14 r) (hl:r.crs.length<1024) {n d:Int} {p:Prp} (hp:r.pps.find? (jar n)=some p) (hd:dayG d=true) (h12:p.fls.length<=256)
  (hlast:lateC (jac r.crs r.crs.length) d=false) (hdep:r.dps.any (depB p.fls)=false) (hv:∀f∈p.fls,∀c∈r.crs,c.day<=d->hasI f c.fls=false):
  crtB (newC r n d p.fls)=true/\Ok14 (morC r (newD r n d p.fls)):=by
 obtain ⟨hid,k,hk⟩:=jne hp;have hP:=h.prp hk;have hG:=okG_of h.g;have hnz:1<=p.fls.length:=List.length_pos_iff.2 hP.ne
 have hB:crtB (newC r n d p.fls)=true:=by
  unfold crtB newC;simp only[Bool.and_eq_true,decide_eq_true_eq];refine ⟨⟨⟨⟨⟨⟨⟨?_,?_⟩,hd⟩,hnz⟩,h12⟩,hP.ris⟩,fls_id hG hP.all⟩,befC_len h⟩
  ·unfold idB; refine decide_eq_true ?_; omega
  ·rw[<- hid]; exact hP.id
 refine ⟨hB,?_⟩;obtain ⟨c,hc⟩:∃c,newD r n d p.fls=c:=⟨_,rfl⟩;have hcn:c.num=(r.crs.length:Int)+1:=by rw[<- hc]; rfl
 have hcp:c.prp=n:=by rw[<- hc]; rfl
 have hcd:c.day=d:=by rw[<- hc]; rfl
 have hcf:c.fls=p.fls:=by rw[<- hc]; rfl
 have hcb:c.bef=befC r.crs r.crs.length:=by rw[<- hc]; rfl
 have hcg:c.dig=sumD (crtT c):=by rw[<- hc]; rfl
 have hcB:crtB c=true:=by rw[<- hc]; exact hB
 rw[hc]
 have hlate:∀x∈r.crs,x.day<=d:=by
  intro x hx;have hm:x.el∈crtE r:=List.mem_map.2 ⟨x,hx,rfl⟩;obtain ⟨-,h2⟩:=els_days _ _ _ (jpj hG.crs);have hne:r.crs.length≠0:=fun e=>by rw[List.eq_nil_of_length_eq_zero e] at hx; cases hx
  obtain ⟨y,hy⟩:∃y,r.crs[r.crs.length-1]? = some y:=⟨_,gge om⟩
  have hyd:y.day<=d:=by
   unfold lateC jac at hlast;rw[if_neg hne,hy] at hlast;simp only[decide_eq_false_iff_not] at hlast;omega
  rcases jqj Crt.el r.crs with e | e
  ·rw[hy] at e;have:=h2 x.el hm y.el e;have:x.day<=y.day:=this;omega
  ·rw[e] at hx; cases hx
 have hfree:∀f∈p.fls,jaj (selE r++crtE r) f=false:=by
  intro f hf;rw[show jaj (selE r++crtE r) f=jaj (crtE r) f from goneB_selA _ _ _];unfold jaj crtE;rw[List.any_map,List.any_eq_false];intro x hx e;have:=hv f hf x hx (hlate x hx);unfold hasI at this;simp only[Function.comp,Crt.el,Bool.true_and] at e;rw[this] at e;cases e
 have hcr:crtE (morC r c)=crtE r++[c.el]:=by unfold crtE morC; rw[List.map_append]; rfl
 have hg':OkG (morC r c):=by
  refine ⟨hG.ofs,hG.pls,hG.fls,hG.rls,hG.hls,hG.sls,?_,?_⟩
  ·show jb7 r.fls (selE r) (crtE (morC r c))=0
   rw[hcr];unfold jb7;rw[if_neg (by rw[List.length_append,List.length_singleton]; unfold crtE; rw[List.length_map]; omega)];refine elsE_more _ _ _ (jpj hG.crs) (elmE_of ⟨?_,by show dayG c.day=true; rw[hcd]; exact hd,by show c.fls.all (hasF r.fls)=true; rw[hcf]; exact hP.all,by show risI c.fls=true; rw[hcf]; exact hP.ris,fun y hy=> ?_,fun _=> ?_⟩)
   ·show idB c.num=true
    rw[hcn]; unfold idB; refine decide_eq_true ?_; omega
   ·rcases jqj Crt.el r.crs with e | e
    ·have hy:endE none (r.crs.map Crt.el)=some y:=hy;rw[e] at hy;obtain ⟨z,hz,rfl⟩:=msi.1 hy
     show z.day<=c.day
     rw[hcd];exact hlate z (List.mem_of_getElem? hz)
    ·have hy:endE none (r.crs.map Crt.el)=some y:=hy;rw[e] at hy;cases hy
   ·show c.fls.any _=false
    rw[hcf,List.any_eq_false];intro f hf;rw[hfree f hf];decide
  ·show jb7 r.fls (selE r++crtE (morC r c)) (depE r)=0
   have hz:=jpj hG.dps
   have hlen:¬ 1024<(depE r).length:=by
    have:=hG.dps;unfold jb7 at this;split at this
    ·cases this
    ·assumption
   unfold jb7;rw[if_neg hlen,hcr,<- List.append_assoc];refine elsE_pre' _ _ _ _ (fun x hx m hm=> ?_) hz;rw[jmt];obtain ⟨y,hy,rfl⟩:=List.mem_map.1 hx;have hm:m∈[y.fil]:=hm;rw[List.mem_singleton] at hm;subst hm;have:=List.any_eq_false.1 hdep y hy;unfold depB hasI at this
   have e:(c.el.gone && c.el.fls.any fun f=>decide (f=y.fil))=false:=by
    show (true && c.fls.any fun f=>decide (f=y.fil))=false
    rw[hcf,Bool.true_and];exact Bool.eq_false_iff.2 this
   rw[e,Bool.or_false]
 refine ⟨hg'.zero,h.ck,h.pp,h.ap,fun i hi=> ?_⟩;have hi:i<(r.crs++[c]).length:=hi;unfold jbh;have e1:(morC r c).crs=r.crs++[c]:=rfl;have e2:(morC r c).pps=r.pps:=rfl;rw[e1,e2]
 have hbef:∀j,j<=r.crs.length->befC (r.crs++[c]) j=befC r.crs j:=fun j hj=>by
  unfold befC jac;by_cases h0:j=0
  ·rw[if_pos h0,if_pos h0]
  ·rw[if_neg h0,if_neg h0,List.getElem?_append_left om]
 rcases Nat.lt_or_ge i r.crs.length with hlt | hge
 ·have hz:=h.cr i hlt;unfold jbh jc0 at hz;unfold jc0;rw[hbef i om,List.getElem?_append_left hlt];exact hz
 ·have hie:i=r.crs.length:=by rw[List.length_append,List.length_singleton] at hi; omega
  subst hie;have hget:(r.crs++[c])[r.crs.length]? = some c:=by simp
  have hlk:jc0 (r.crs++[c]) r.crs.length=true:=by
   unfold jc0;rw[hget,hbef _ (Nat.le_refl _)];unfold linkC;simp only[hcB,hcn,hcb,<- hcg,decide_true,beq_self_eq_true,Bool.and_self]
  rw[hget];simp only;rw[hcp,hp];simp only;rw[if_neg (fun e=>e hcf),hlk,if_neg dc]
theorem vdt8 {r:Rgs} {f:Fil} {d:Int} (h:(vdt r f d).kind=8):¬d<f.opn/\gone1 r f d=false/\gone2 r f d=false:=by
 rcases vdt_kind (r:=r) (f:=f) (d:=d) with ⟨-,e⟩ | ⟨-,-,e⟩ | ⟨-,-,-,e⟩ | ⟨h0,h1,h2,-⟩
 ·rw[e] at h; cases h
 ·rw[e] at h; cases h
 ·rw[e] at h; cases h
 ·exact ⟨h0,h1,h2⟩
theorem keepF_no {r:Rgs} {d f:Int} (h:jft r d f=false):onE r f d=0/\(onV r f d).kind=8/\(vdt r (filA r f) d).kind=8:=by
 unfold jft at h;simp only[Bool.not_eq_false',Bool.and_eq_true,decide_eq_true_eq] at h;refine ⟨h.1,h.2,?_⟩;have:=h.2;unfold onV at this;rw[if_pos h.1] at this;exact this
theorem onE_0' {r:Rgs} {id d:Int} (h:onE r id d=0):checkG r=0/\¬jbp r.fls id<0/\dayG d=true:=by
 unfold onE at h;by_cases h0:askE r id≠0
 ·rw[if_pos h0] at h; exact absurd h h0
 rw[if_neg h0] at h;by_cases h1:dayG d=false
 ·rw[if_pos h1] at h; cases h
 obtain ⟨a,b⟩:=ask_ok (Decidable.not_not.1 h0);exact ⟨a,b,by simpa using h1⟩
structure Rdy (r:Rgs) (n d:Int) (p:Prp):Prop where
 ok:Ok14 r
 fp:r.pps.find? (jar n)=some p
 day:dayG d=true
 from_:p.day<=d
 wdr:d<p.wdr
 cert:jd0 r.crs n=false
 apv:apvB r n d=true
 fls:∀f∈p.fls,jft r d f=false
theorem jok {r:Rgs} {n d:Int} : jgy r n d=0↔∃p,Rdy r n d p:=by
 unfold jgy;constructor
 ·intro h;by_cases h1:jas r≠0
  ·rw[if_pos h1] at h; cases h
  rw[if_neg h1] at h;have hok:=jla.1 (Decidable.not_not.1 h1);cases hp:r.pps.find? (jar n) with
  | none=>rw[hp] at h; cases h
  | some p=>
   rw[hp] at h;simp only at h;obtain ⟨hid,-⟩:=jne hp;by_cases h2:dayG d=false
   ·rw[if_pos h2] at h; cases h
   rw[if_neg h2] at h;unfold readyE at h;rw[hid] at h;by_cases c1:d<p.day
   ·rw[if_pos c1] at h; cases h
   rw[if_neg c1] at h;by_cases c2:p.wdr<=d\/jd0 r.crs n=true
   ·rw[if_pos c2] at h; cases h
   rw[if_neg c2] at h;by_cases c3:apvB r n d=false
   ·rw[if_pos c3] at h; cases h
   rw[if_neg c3] at h;by_cases c4:p.fls.any (jft r d)=true
   ·rw[if_pos c4] at h; cases h
   have c2a:¬p.wdr<=d:=fun e=>c2 (.inl e);have c2b:¬jd0 r.crs n=true:=fun e=>c2 (.inr e);refine ⟨p,hok,hp,by simpa using h2,om,om,by simpa using c2b,by simpa using c3,fun f hf=> ?_⟩;cases e:jft r d f with
   | false=>rfl
   | true=>exact absurd (List.any_eq_true.2 ⟨f,hf,e⟩) c4
 ·rintro ⟨p,h⟩;obtain ⟨hid,-⟩:=jne h.fp;rw[if_neg fun e=>e (jla.2 h.ok),h.fp];simp only;unfold readyE;rw[hid,if_neg (by rw[h.day]; decide),if_neg (by have:=h.from_; omega),if_neg,if_neg (by rw[h.apv]; decide),if_neg]
  ·intro e;obtain ⟨f,hf,hk⟩:=List.any_eq_true.1 e;rw[h.fls f hf] at hk;cases hk
  ·rintro (e | e)
   ·have:=h.wdr; omega
   ·rw[h.cert] at e; cases e
def desP (r:Rgs) (n d:Int):Rgs×Crt×Int:=if desE r n d≠0 then (jbn,crtZ,desE r n d) else
 if crtB (newC r n d (flsP r n))=false then (jbn,crtZ,1) else
 if jas (morC r (newD r n d (flsP r n)))≠0 then (jbn,crtZ,jas (morC r (newD r n d (flsP r n)))) else (morC r (newD r n d (flsP r n)),newD r n d (flsP r n),0)
structure Des (r:Rgs) (n d:Int) (p:Prp):Prop where
 rdy:Rdy r n d p
 last:lateC (jac r.crs r.crs.length) d=false
 dep:r.dps.any (depB p.fls)=false
theorem des_zero {r:Rgs} {n d:Int} : desE r n d=0↔∃p,Des r n d p:=by
 unfold desE;constructor
 ·intro h;by_cases h1:jgy r n d≠0
  ·rw[if_pos h1] at h; exact absurd h h1
  rw[if_neg h1] at h;obtain ⟨p,hp⟩:=jok.1 (Decidable.not_not.1 h1);rw[hp.fp] at h;simp only at h;by_cases c1:lateC (jac r.crs r.crs.length) d=true
  ·rw[if_pos c1] at h; cases h
  rw[if_neg c1] at h;by_cases c2:r.dps.any (depB p.fls)=true
  ·rw[if_pos c2] at h; cases h
  exact ⟨p,hp,by simpa using c1,by simpa using c2⟩
 ·rintro ⟨p,h⟩;rw[if_neg fun e=>e (jok.2 ⟨p,h.rdy⟩),h.rdy.fp];simp only;rw[if_neg (by rw[h.last]; decide),if_neg (by rw[h.dep]; decide)]
theorem gone1_no {r:Rgs} {f:Fil} {d:Int} (h:gone1 r f d=false) {c:Crt} (hc:c∈r.crs) (hd:c.day<=d):hasI f.id c.fls=false:=by
 have:=List.any_eq_false.1 h c hc;unfold jdr at this;rw[decide_eq_true hd,Bool.true_and] at this;exact Bool.eq_false_iff.2 this
theorem Des.ok {r:Rgs} {n d:Int} {p:Prp} (h:Des r n d p) (hl:r.crs.length<1024) (hp:p.fls.length<=256):crtB (newC r n d p.fls)=true/\Ok14 (morC r (newD r n d p.fls)):=by
 refine ok14_des h.rdy.ok hl h.rdy.fp h.rdy.day hp h.last h.dep fun f hf c hc hcd=> ?_;obtain ⟨h1,-,h3⟩:=keepF_no (h.rdy.fls f hf);obtain ⟨-,h5,-⟩:=onE_0' h1;obtain ⟨k,-,-,-,-,hid⟩:=find_fil h5;have:=gone1_no (vdt8 h3).2.1 hc hcd;rw[hid] at this;exact this
theorem flsP_some {r:Rgs} {n:Int} {p:Prp} (h:r.pps.find? (jar n)=some p):flsP r n=p.fls:=by unfold flsP; rw[h]
theorem desP_eq {r:Rgs} (n d:Int) (hl:r.crs.length<1024) (hp:∀p∈r.pps,p.fls.length<=256):desP r n d=desR r n d:=by
 unfold desP desR;by_cases h:desE r n d≠0
 ·rw[if_pos h,if_pos h]
 rw[if_neg h,if_neg h];obtain ⟨p,hD⟩:=des_zero.1 (Decidable.not_not.1 h);obtain ⟨h1,h2⟩:=hD.ok hl (hp p (List.mem_of_find?_eq_some hD.rdy.fp));rw[flsP_some hD.rdy.fp,h1,if_neg dc,if_neg fun e=>e (jla.2 h2)]
theorem wdr_zero {r:Rgs} {n d:Int} : wdrE r n d=0->∃(k:Nat) (p:Prp),Ok14 r/\r.pps.find? (jar n)=some p/\p.id=n/\r.pps[k]? = some p/\jcm r.pps n=k/\p.day<=d/\d<=1048575/\p.wdr=1048576/\jd0 r.crs n=false/\r.aps.any (jcz n d)=false:=by
 intro h;unfold wdrE at h;by_cases h1:jas r≠0
 ·rw[if_pos h1] at h; cases h
 rw[if_neg h1] at h;rcases jee (jar n) r.pps with ⟨-,hp⟩ | ⟨k,p,hk,-,hx,-,hp⟩
 ·rw[hp] at h; cases h
 rw[hp] at h;simp only at h;by_cases c1:d<p.day\/1048575<d
 ·rw[if_pos c1] at h; cases h
 rw[if_neg c1] at h;by_cases c2:p.wdr≠1048576\/jd0 r.crs n=true\/r.aps.any (jcz n d)=true
 ·rw[if_pos c2] at h; cases h
 have a1:¬p.wdr≠1048576:=fun e=>c2 (.inl e);have a2:¬jd0 r.crs n=true:=fun e=>c2 (.inr (.inl e));have a3:¬r.aps.any (jcz n d)=true:=fun e=>c2 (.inr (.inr e));exact ⟨k,p,jla.1 (Decidable.not_not.1 h1),hp,(jne hp).1,hx,hk,om,om,Decidable.not_not.1 a1,by simpa using a2,by simpa using a3⟩
theorem wdr_ok {r:Rgs} {n d:Int} (h:wdrE r n d=0):Ok14 (wdrG r (jcm r.pps n).toNat d):=by
 obtain ⟨k,p,h0,h1,h2,h3,h4,h5,h6,h7,-,h9⟩:=wdr_zero h;rw[h4,Int.toNat_natCast];exact ok14_wdr h0 h3 h5 h6 h7 (by rw[h2]; exact h9)
theorem rise_le {l:List Int} (h:risI l=true):∀(j i:Nat) (x y:Int),i<=j->l[i]? = some x->l[j]? = some y->x<=y
 | 0,i,x,y,hij,hx,hy=>by
  have:i=0:=om
  subst this;rw[hx] at hy; cases hy; exact Int.le_refl _
 | j+1,i,x,y,hij,hx,hy=>by
  rcases Nat.lt_or_ge i (j+1) with hlt | hge
  ·have hjl:j<l.length:=by have:=(gsi.1 hy).1; omega
   obtain ⟨z,hz⟩:∃z,l[j]? = some z:=⟨_,gge hjl⟩;have h1:=rise_le h j i x z om hx hz;have h2:=(jfz l).1 h j z y hz hy;omega
  ·have:i=j+1:=om
   subst this;rw[hx] at hy; cases hy; exact Int.le_refl _
theorem rise_idB {l:List Int} (h:risI l=true) {a b:Int} (ha:l[0]? = some a) (hb:l[l.length-1]? = some b):l.all idB=(decide (1<=a) && decide (b<=1073741824)):=by
 rw[Bool.eq_iff_iff,List.all_eq_true,Bool.and_eq_true,decide_eq_true_eq,decide_eq_true_eq];constructor
 ·intro hA;have h1:=of_decide_eq_true (hA a (List.mem_of_getElem? ha));have h2:=of_decide_eq_true (hA b (List.mem_of_getElem? hb));exact ⟨h1.1,h2.2⟩
 ·rintro ⟨h1,h2⟩ n hn;obtain ⟨i,hi⟩:=List.getElem?_of_mem hn;have hl:=(gsi.1 hi).1;have g1:=rise_le h i 0 a n (Nat.zero_le _) ha hi;have g2:=rise_le h (l.length-1) i n b om hi hb;exact decide_eq_true ⟨om,om⟩
structure OkC (q:Option Clk) (c:Clk):Prop where
 id:idB c.id=true
 role:1<=c.role/\c.role<=3
 span:jaq c.frm c.til=true
 name:name c.name=true
 prev:∀x,q=some x->x.id<c.id
theorem clkErr_zero {l:List Clk} {i:Nat} {c:Clk} (hc:l[i]? = some c) (h:jbs l i=0):OkC (jac l i) c:=by
 unfold jbs at h;rw[hc] at h;simp only at h;by_cases h1:idB c.id=false\/c.role<1\/3<c.role\/jaq c.frm c.til=false
 ·rw[if_pos h1] at h; cases h
 rw[if_neg h1] at h;by_cases h2:Arc.name c.name=false
 ·rw[if_pos h2] at h; cases h
 rw[if_neg h2] at h;by_cases h3:jj5 (jac l i) c=true
 ·rw[if_pos h3] at h; cases h
 have a1:¬idB c.id=false:=fun e=>h1 (.inl e);have a2:¬c.role<1:=fun e=>h1 (.inr (.inl e));have a3:¬ 3<c.role:=fun e=>h1 (.inr (.inr (.inl e)));have a4:¬jaq c.frm c.til=false:=fun e=>h1 (.inr (.inr (.inr e)));refine ⟨by simpa using a1,om,by simpa using a4,by simpa using h2,fun x hx=> ?_⟩;rw[hx] at h3;have h3:¬(decide (c.id<=x.id))=true:=h3;simp only[decide_eq_true_eq] at h3;omega
theorem Ok14.clk {r:Rgs} (h:Ok14 r) {i:Nat} {c:Clk} (hc:r.cks[i]? = some c):OkC (jac r.cks i) c:=
 clkErr_zero hc (h.ck.2 i (gsi.1 hc).1)
theorem Ok14.cids {r:Rgs} (h:Ok14 r):∀(j i:Nat) (p q:Clk),i<j->r.cks[i]? = some p->r.cks[j]? = some q->p.id<q.id
 | 0,i,_,_,hij,_,_=>absurd hij (Nat.not_lt_zero i)
 | j+1,i,p,q,hij,hp,hq=>by
  have hjl:j<r.cks.length:=by have:=(gsi.1 hq).1; omega
  obtain ⟨x,hx⟩:∃x,r.cks[j]? = some x:=⟨_,gge hjl⟩;have h1:=(h.clk hq).prev x zew;rcases Nat.lt_or_ge i j with hlt | hge
  ·have:=h.cids j i p x hlt hp hx;omega
  ·have:i=j:=om
   subst this;rw[hp] at hx;cases hx;exact h1
theorem Ok14.cInj {r:Rgs} (h:Ok14 r) {i j:Nat} {p q:Clk} (hp:r.cks[i]? = some p) (hq:r.cks[j]? = some q) (he:p.id=q.id):i=j:=by
 rcases Nat.lt_trichotomy i j with hl | hl | hl
 ·have:=h.cids j i p q hl hp hq; omega
 ·exact hl
 ·have:=h.cids i j q p hl hq hp; omega
def isIdC (n:Int) (c:Clk):Bool:=decide (c.id=n)
theorem Ok14.one {r:Rgs} (h:Ok14 r) {n d:Int} (hc:jep r.cks n d=true):∃(k:Nat) (c:Clk),r.cks[k]? = some c/\c.id=n/\inS c.frm c.til d=true/\ix (jcl n d) r.cks=k/\ix (isIdC n) r.cks=k/\r.cks.any (archC n)=decide (c.role=2):=by
 obtain ⟨c0,hm,hh⟩:=List.any_eq_true.1 hc;rcases jee (jcl n d) r.cks with ⟨-,hn⟩ | ⟨k,c,hk,-,hx,-,hf⟩
 ·exact absurd hh (by simpa using List.find?_eq_none.1 hn c0 hm)
 have hp:jcl n d c=true:=List.find?_some hf;unfold jcl at hp;rw[Bool.and_eq_true,decide_eq_true_eq] at hp;have huniq:∀ {j:Nat} {x:Clk},r.cks[j]? = some x->x.id=n->j=k:=fun hj he=>h.cInj hj hx (he.trans hp.1.symm);refine ⟨k,c,hx,hp.1,hp.2,hk,?_,?_⟩
 ·rcases jee (isIdC n) r.cks with ⟨-,hn⟩ | ⟨j,x,hj,-,hxj,-,hfj⟩
  ·exact absurd (decide_eq_true hp.1) (List.find?_eq_none.1 hn c (List.mem_of_getElem? hx))
  ·have he:isIdC n x=true:=List.find?_some hfj;rw[hj,huniq hxj (of_decide_eq_true he)]
 ·rw[Bool.eq_iff_iff,List.any_eq_true,decide_eq_true_eq];constructor
  ·rintro ⟨x,hxm,ha⟩;unfold archC at ha;rw[Bool.and_eq_true,decide_eq_true_eq,decide_eq_true_eq] at ha;obtain ⟨j,hj⟩:=List.getElem?_of_mem hxm;have:=huniq hj ha.1;subst this;rw[hx] at hj;cases hj;exact ha.2
  ·intro hr;refine ⟨c,List.mem_of_getElem? hx,?_⟩;unfold archC;rw[hp.1,hr];simp
structure OkA (r:Rgs) (pre:List Apv) (q:Option Apv) (a:Apv) (p:Prp):Prop where
 day:p.day<=a.day/\a.day<=1048575
 prev:∀x,q=some x->x.day<=a.day
 wdr:a.day<p.wdr
 clk:jep r.cks a.clk a.day=true
 other:a.clk≠p.clk
 once:pre.any (jem a)=false
end Go.Arc
