/- A part of this claim. -/
import Derived.Test.YtfbbflhnhmphiaaGreatDoorBaA
import Derived.Lib.ConvBytes
import Derived.Laws.BytesArg
import Derived.Laws.MakeOwn
import Derived.Laws.CopyRow
import Derived.Maps.RangeRun
set_option maxHeartbeats 1000000
namespace Go.Ab
open Go.RowKit
structure Lay where
 f:Frz
 r:Nat->Option (Array Value)
variable {P : Program}{T : Lay}{rd : Option Nat}
def Enters(P:Program)(f:FuncId):Prop:=∀args w,(callFunc f args).run P w=.ok (.enter f args) w
def Reps(F:Frz)(vs:List V)(xs:List Value):Prop:=xs.length=vs.length/\∀(j:Nat) v x,vs[j]?=some v->xs[j]?=some x->Rep F v x
def Laid(T:Lay)(F:Frz)(w:World):Prop:=
 Le T.f F/\∀g xs,T.r g=some xs->(∃ty fz,w.heap[g]?=some (.cells xs ty fz))/\∃o v,F ⟨g,o,none⟩=some v
def Den(P:Program)(T:Lay)(f:FuncId)(args:List V)(r:V):Prop:=
 Enters P f/\∀(w:World) (F:Frz) (xs:List Value),Sees F w->Laid T F w->Reps F args xs->
  Calls P f xs.toArray w fun e w'=>∃y F',e=.returned y/\Ext F w F' w'/\Rep F' r y
def Own(F:Frz)(w:World)(M:Nat->Prop)(e:TypeId)(size:Nat)(y:Value):Prop:=
 ∃n xs,co w 0 e size y n xs/\∀g,y.ownBlock=some g->M g/\∀p v,F p=some v->p.block=g->p.off<n*size
structure BelM (M:Nat->Prop) (w w':World):Prop where
 os:w'.os=w.os
 tape:w'.tape=w.tape
 output:w'.output=w.output
 size:w.heap.size<=w'.heap.size
 block:∀q,q<w.heap.size->¬M q->w'.heap[q]?=w.heap[q]?
theorem BelM.refl(M:Nat->Prop)(w:World):BelM M w w:=⟨rfl,rfl,rfl,vo _,fun _ _ _=>rfl⟩
theorem BelM.trans{M:Nat->Prop}{w w' w'':World}(h:BelM M w w')(k:BelM M w' w''):BelM M w w'':=
 ⟨k.os.trans h.os,k.tape.trans h.tape,k.output.trans h.output,xc h.size k.size,fun q hq hm=>(k.block q (xao hq h.size) hm).trans (h.block q hq hm)⟩
theorem BelM.of{M:Nat->Prop}{w w':World}(h:Below w.heap.size w w'):BelM M w w':=⟨h.os,h.tape,h.output,h.size,fun q hq _=>h.block q hq⟩
def DenO(P:Program)(T:Lay)(f:FuncId)(args:List V)(e:TypeId)(r:V):Prop:=
 Enters P f/\∀(w:World) (F:Frz) (xs:List Value),Sees F w->Laid T F w->Reps F args xs->
  Calls P f xs.toArray w fun en w'=>∃y F',en=.returned y/\Ext F w F' w'/\Rep F' r y/\Own F' w' (fun g=>w.heap.size<=g) e (P.cellsOf e) y
theorem DenO.den{f:FuncId}{args:List V}{e:TypeId}{r:V}(h:DenO P T f args e r):Den P T f args r:=
 ⟨h.1,fun w F xs h1 h0 h2=>(h.2 w F xs h1 h0 h2).mono fun _ _ ⟨y,F',e1,e2,e3,_⟩=>⟨y,F',e1,e2,e3⟩⟩
def New(F:Frz)(w:World)(lo size:Nat)(es:List (List V))(y:Value):Prop:=
 (es=[]/\Rep F (.slice size []) y)\/∃b cap,y=.slice (some ⟨b,0,none⟩) es.length cap/\es.length<=cap/\cap<=maxLen/\es≠[]/\lo<=b/\b<w.heap.size/\RepB F w b (.var es.flatten)
def DenN(P:Program)(T:Lay)(f:FuncId)(args:List V)(size:Nat)(es:List (List V)):Prop:=
 Enters P f/\∀(w:World) (F:Frz) (xs:List Value),Sees F w->Laid T F w->Reps F args xs->
  Calls P f xs.toArray w fun en w'=>∃y F',en=.returned y/\Ext F w F' w'/\New F' w' w.heap.size size es y
def NewO(P:Program)(F:Frz)(w:World)(lo:Nat)(es:List (List V))(e:TypeId)(off:Nat)(y:Value):Prop:=
 ∃b cap,y=.slice (some ⟨b,0,none⟩) es.length cap/\es.length<=cap/\cap<=maxLen/\es≠[]/\lo<=b/\b<w.heap.size/\RepB F w b (.var es.flatten)/\
  ∃v,w.cell? ⟨b,off,none⟩=some v/\Own F w (fun g=>lo<=g) e (P.cellsOf e) v/\v.ownBlock≠some b
def jdc(P:Program)(T:Lay)(f:FuncId)(args:List V)(es:List (List V))(e:TypeId)(off:Nat):Prop:=
 Enters P f/\∀(w:World) (F:Frz) (xs:List Value),Sees F w->Laid T F w->Reps F args xs->
  Calls P f xs.toArray w fun en w'=>∃y F',en=.returned y/\Ext F w F' w'/\NewO P F' w' w.heap.size es e off y
def DenU(P:Program)(T:Lay)(f:FuncId)(args:List V)(Post:Option Blk->V->Prop):Prop:=
 Enters P f/\∀(w:World) (F:Frz) (xs:List Value),Sees F w->Laid T F w->Reps F args xs->
  Calls P f xs.toArray w fun en w'=>∃y F' r,en=.returned y/\Ext F w F' w'/\Rep F' r y/\
   (Post none r\/∃b k,w.heap.size<=b/\b<w'.heap.size/\RepB F' w' b k/\k.nm=some b/\Post (some k) r)
def plc(id off:Nat):Nat:=1000000000*(id+1)+off
def pid(i:Nat):Nat:=i / 1000000000-1
def pof(i:Nat):Nat:=i % 1000000000
theorem gl{id off:Nat}(h:off<1000000000):pid (plc id off)=id:=by unfold pid plc;omega
theorem qj{id off:Nat}(h:off<1000000000):pof (plc id off)=off:=by unfold pof plc;omega
theorem ss(id off:Nat):1000000000<=plc id off:=by unfold plc;omega
theorem jqs(i:Nat):pof i<1000000000:=Nat.mod_lt _ dcq
theorem qvm{i:Nat}(h:1000000000<=i):plc (pid i) (pof i)=i:=by unfold plc pid pof;omega
structure ExtS (X:Nat->Prop) (F:Frz) (w:World) (F':Frz) (w':World):Prop where
 le:Le F F'
 fr:Sees F' w'
 new:∀p v,F' p=some v->F p=some v\/X p.block\/w.heap.size<=p.block
 newm:∀b xs,F'.m b=some xs->F.m b=some xs\/X b\/w.heap.size<=b
 os:w'.os=w.os
 tape:w'.tape=w.tape
 output:w'.output=w.output
 size:w.heap.size<=w'.heap.size
 block:∀q,q<w.heap.size->¬X q->w'.heap[q]?=w.heap[q]?
structure Lends (P:Program) (T:Lay) (F:Frz) (w:World) (ρ:Nat->Nat) (X:Nat->Prop) (bs:List (Nat×Blk)) (os:List (TypeId×List Nat)):Prop where
 hp:∀id k,look id bs=some k->RepB F w (ρ id) k/\X (ρ id)/\ρ id<w.heap.size
 nb:∀id k b,look id bs=some k->k.nm=some b->ρ id=b
 inj:∀id id' k k',look id bs=some k->look id' bs=some k'->ρ id=ρ id'->id=id'
 ow:∀(j:Nat) e c,os[j]?=some (e,c)->∃v,(∀i∈c,w.cell? ⟨ρ (pid i),pof i,none⟩=some v)/\Own F w X e (P.cellsOf e) v/\∀id k,look id bs=some k->v.ownBlock≠some (ρ id)
 od:∀(j j':Nat) e c e' c',j≠j'->os[j]?=some (e,c)->os[j']?=some (e',c')->∀i∈c,∀i'∈c',∀v v' g,w.cell? ⟨ρ (pid i),pof i,none⟩=some v->w.cell? ⟨ρ (pid i'),pof i',none⟩=some v'->v.ownBlock=some g->v'.ownBlock≠some g
 oc:∀(j:Nat) e c,os[j]?=some (e,c)->∀i∈c,1000000000<=i/\look (pid i) bs≠none
 lay:∀g,T.r g≠none->¬X g
def jba(F:Frz)(ρ:Nat->Nat)(ts:List TV)(xs:List Value):Prop:=xs.length=ts.length/\∀(j:Nat) t x,ts[j]?=some t->xs[j]?=some x->RepT F ρ t x
def DenS(P:Program)(T:Lay)(f:FuncId)(bs:List (Nat×Blk))(os:List (TypeId×List Nat))(args:List TV)(bs':List (Nat×Blk))(os':List (TypeId×List Nat))(r:TV):Prop:=
 Enters P f/\∀(w:World) (F:Frz) (ρ:Nat->Nat) (X:Nat->Prop) (xs:List Value),Sees F w->Laid T F w->Lends P T F w ρ X bs os->jba F ρ args xs->
  Calls P f xs.toArray w fun en w'=>∃y F',en=.returned y/\ExtS X F w F' w'/\Lends P T F' w' ρ (fun g=>X g\/w.heap.size<=g) bs' os'/\RepT F' ρ r y
def DenM(P:Program)(T:Lay)(f:FuncId)(cs:List V)(args:List TV)(cs':List V)(r:TV):Prop:=DenS P T f [(999999,.var cs)] [] args [(999999,.var cs')] [] r
def rowL(R:Nat)(ro:Option Blk):List (Nat×Blk):=match ro with
 |some b=>[(R,b)]
 |none=>[]
def DenV(P:Program)(T:Lay)(f:FuncId)(ks0:List (Nat×Blk))(R:Nat)(ro:Option Blk)(args:List TV)(Post:List (Nat×Blk)->Blk->V->Prop):Prop:=
 Enters P f/\∀(w:World) (F:Frz) (ρ:Nat->Nat) (X:Nat->Prop) (xs:List Value),Sees F w->Laid T F w->Lends P T F w ρ X (ks0++rowL R ro) []->jba F ρ args xs->
  Calls P f xs.toArray w fun en w'=>∃(y:Value) (F':Frz) (ρ':Nat->Nat) (ks:List (Nat×Blk)) (b:Blk) (r:V),en=.returned y/\ExtS X F w F' w'/\(∀id,id≠R->ρ' id=ρ id)/\Lends P T F' w' ρ' (fun g=>X g\/w.heap.size<=g) (ks++[(R,b)]) []/\Rep F' r y/\Post ks b r
inductive Wk:V->V->Prop
 |refl (v:V):Wk v v
 |nil (n:Nat):Wk (.val (.slice none 0 0)) (.slice n [])
 |tup {vs us:List V} (hl:vs.length=us.length) (h:∀(j:Nat) v u,vs[j]?=some v->us[j]?=some u->Wk v u):Wk (.tup vs) (.tup us)
 |agg {vs us:List V} (hl:vs.length=us.length) (ho:∀c∈us,c.one=true) (h:∀(j:Nat) v u,vs[j]?=some v->us[j]?=some u->Wk v u):Wk (.agg vs) (.agg us)
 | slice {size:Nat} {es us:List (List V)} (hl:es.length=us.length) (hs:∀e∈us,e.length=size) (ho:∀e∈us,∀c∈e,c.one=true)
   (h:∀(i j:Nat) e u v c,es[i]?=some e->us[i]?=some u->e[j]?=some v->u[j]?=some c->Wk v c):Wk (.slice size es) (.slice size us)
theorem jgv{α β:Type}{l:List α}{m:List β}(hl:l.length=m.length){j:Nat}{y:β}(h:m[j]?=some y):∃x,l[j]?=some x:=by
 have:=(gsi.1 h).1;exact⟨_,gge omq⟩
theorem qr{F:Frz}{v u:V}(h:Wk v u):∀ {x:Value},Rep F v x->Rep F u x:=by
 induction h with
 |refl v=>exact id
 |nil n=>intro x hx;rw[al hx];exact .snil
 |tup hl h ih=>
  intro x hx;cases hx with
  |tup hl' h'=>
   refine .tup (hl'.trans hl) fun j c y e1 e2=>?_;obtain⟨v,hv⟩:=jgv hl e1;exact ih j v c hv e1 (h' j v y hv e2)
 |agg hl ho h ih=>
  intro x hx;cases hx with
  |agg hl' ho' h'=>
   refine .agg (hl'.trans hl) ho fun j c y e1 e2=>?_;obtain⟨v,hv⟩:=jgv hl e1;exact ih j v c hv e1 (h' j v y hv e2)
 | @slice size es us hl hs ho h ih=>
  intro x hx;rcases py hx with⟨rfl,he⟩|⟨a,cap,g,rfl,hc,hm,hs',ho',hg,hr⟩
  .subst he;rw[yg hl.symm];exact .snil
  rw[hl] at hc ⊢
  have get:∀(i j:Nat) (u:List V) (c:V),us[i]?=some u->u[j]?=some c->∃e v,es[i]?=some e/\e[j]?=some v:=fun i j u c e1 e2=>by
   obtain⟨e,he⟩:=jgv hl e1;have h1:=hs' e (vp he);have h2:=hs u (vp e1);obtain⟨v,hv⟩:=jgv (h1.trans h2.symm) e2;exact⟨e,v,he,hv⟩
  refine .slice g hc hm hs ho (fun i j u c e1 e2=>?_) (fun i j u c e1 e2=>?_)
  .obtain⟨e,v,he,hv⟩:=get i j u c e1 e2;exact hg i j e v he hv
  obtain⟨e,v,he,hv⟩:=get i j u c e1 e2;exact ih i j e u v c he e1 hv e2 (hr i j e v he hv)
theorem Wk.t2{a b c d:V}(h:Wk a b)(h':Wk c d):Wk (.tup [a,c]) (.tup [b,d]):=.tup rfl fun j v u e1 e2=>by
 match j with
 |0=>simp at e1 e2;subst e1 e2;exact h
 |1=>simp at e1 e2;subst e1 e2;exact h'
 |j+2=>simp at e1
theorem Wk.t3{a b c d e f:V}(h:Wk a b)(h':Wk c d)(h'':Wk e f):Wk (.tup [a,c,e]) (.tup [b,d,f]):=.tup rfl fun j v u e1 e2=>by
 match j with
 |0=>simp at e1 e2;subst e1 e2;exact h
 |1=>simp at e1 e2;subst e1 e2;exact h'
 |2=>simp at e1 e2;subst e1 e2;exact h''
 |j+3=>simp at e1
theorem Wk.of{a b:V}(h:a=b):Wk a b:=h▸ .refl a
inductive Wks:List V->List V->Prop
 |nil:Wks [] []
 |cons {a b:V} {l m:List V} (h:Wk a b) (t:Wks l m):Wks (a::l) (b::m)
theorem Wks.rep{F:Frz}{l m:List V}(h:Wks l m):∀ {xs:List Value},Reps F l xs->Reps F m xs:=by
 induction h with
 |nil=>exact id
 |cons h t ih=>
  rintro xs ⟨h1,h2⟩
  match xs,h1 with
  |x::xs,h1=>
   have:=ih (xs:=xs) ⟨by simpa using h1,fun j v y e1 e2=>h2 (j+1) v y ze4 zeu⟩;refine⟨by simp[this.1],fun j v y e1 e2=>?_⟩;cases j with
   |zero=>simp at e1 e2;subst e1 e2;exact qr h (h2 0 _ _ rfl rfl)
   |succ j=>exact this.2 j v y (by simpa using e1) (by simpa using e2)
theorem Den.wk{f:FuncId}{args args':List V}{r:V}(h:Den P T f args r)(hw:Wks args' args):Den P T f args' r:=
 ⟨h.1,fun w F xs h1 h2 h3=>h.2 w F xs h1 h2 (hw.rep h3)⟩
abbrev Sto:=Nat->Option TV
def opv(σ:Sto):Operand->Option TV
 |.tmp i=>σ i
 |.const v=>bif pi v then some (.v (nf v)) else none
 |.func f=>some (.v (.func f []))
 |.global _=>none
def upd(σ:Sto)(d:Option Tmp)(tv:TV):Sto:=
 match d with
 |none=>σ
 |some d=>fun i=>if i=d then some tv else σ i
def um(P:Program)(T:Lay)(σ:Sto)(h:List (Nat×Blk))(o:Oper)(tv:TV):Prop:=
 evq P (opv σ) h o.op=some tv\/(∃v,evb P (opv σ) o.op=some v/\tv=.v v)\/
 ∃c f g cap vs r,o.op=.call c/\c.callee=.value f/\vOf (opv σ f)=some (.func g cap)/\vsOf (opv σ) c.args.toList=some vs/\Den P T g (vs++cap) r/\tv=.v r
def wfT(h:List (Nat×Blk)):TV->Prop
 |.p id _=>look id h≠none
 |.m id=>look id h≠none
 |.s id _ _ _=>look id h≠none
 |_=>True
theorem ot{h:List (Nat×Blk)}{r:Option V}{tv:TV}(e:r.map TV.v=some tv):wfT h tv:=by
 exact zbd
theorem jci{h:List (Nat×Blk)}{ρ:Operand->Option TV}{op:Op}{tv:TV}(hh:∀x tv,ρ x=some tv->wfT h tv)(e:evq P ρ h op=some tv):wfT h tv:=by
 unfold evq at e;split at e
 .exact hh _ _ (ql e)
 .exact hh _ _ (ql e)
 .split at e
  .rename_i id o' hx;cases e;exact hh _ (.p id o') hx
  .cases e;trivial
  cases e
 .split at e
  .rename_i t _;cases t
   .exact hh _ _ (ql e)
   exact hh _ _ (ql e)
  cases e
 .simp only[xaz] at e;obtain⟨cs,_,e⟩:=e;exact ot e
 .split at e
  .cases e;trivial
  .rename_i id o' _ hx;cases e;exact hh _ (.p id o') hx
  cases e
 .split at e
  .exact ot e
  cases e
 .split at e
  .split at e
   .rename_i id off _ hx _;simp only[msi] at e;obtain⟨v,_,rfl⟩:=e;exact hh _ (.p id off) hx
   .exact zbd
   cases e
  split at e
  .split at e
   .exact zbd
   cases e
  .rename_i id off m size _ _ hx _;split at e
   .simp only[msi] at e;obtain⟨v,_,rfl⟩:=e;exact hh _ (.s id off m size) hx
   cases e
  .split at e
   .rename_i id hfn;simp only[msi] at e;obtain⟨v,_,rfl⟩:=e;obtain⟨kb,z1,_⟩:=ja9 hfn;simp only[wfT];rw[z1];simp
   cases e
  cases e
 .split at e
  .split at e
   .simp only[xaz,msi] at e;obtain⟨_,_,v,_,rfl⟩:=e;trivial
   cases e
  split at e
  .exact ot e
  cases e
 .split at e
  .exact ot e
  .rename_i id off m size _ _ hx _ _;split at e
   .simp only[msi] at e;obtain⟨⟨a,b⟩,_,rfl⟩:=e;simp only[cutS];split
    .trivial
    exact hh _ (.s id off m size) hx
   cases e
  cases e
 .split at e
  .split at e
   .split at e
    .exact ot e
    cases e
   cases e
  .exact ot e
  cases e
 .split at e
  .cases e;trivial
  cases e
 .split at e
  .cases e;trivial
  cases e
 .split at e
  .cases e;trivial
  cases e
 .split at e
  .exact ot e
  cases e
 .split at e
  .exact ot e
  cases e
 .split at e
  .exact zbd
  cases e
 .split at e
  .split at e
   .split at e
    .exact zbd
    cases e
   cases e
  cases e
 .split at e
  .split at e
   .exact ot e
   cases e
  .split at e
   .exact ot e
   cases e
  .split at e
   .exact ot e
   cases e
  cases e
 cases e
def held(a:Act)(w:World)(ρ:Nat->Nat)(i:Nat):Option Value:=if i<1000000000 then a.tmps[i]? else w.cell? ⟨ρ (pid i),pof i,none⟩
theorem kx{a:Act}{w:World}{ρ:Nat->Nat}{i:Nat}(h:i<1000000000):held a w ρ i=a.tmps[i]? := ve h
theorem dz{a:Act}{w:World}{ρ:Nat->Nat}{i:Nat}(h:¬i<1000000000):held a w ρ i=w.cell? ⟨ρ (pid i),pof i,none⟩:=vd h
def mark(D:Nat):Deferred:= { target:=.collected D,args:= #[] }
def DfOk:List Deferred->(Nat->Prop)->World->Prop
 |[],_,_=>True
 |d::ds,M,w=>∃D,d=mark D/\M D/\w.heap[D]?=some (.deferred (some []))/\(∀d'∈ds,d'≠mark D)/\DfOk ds M w
theorem DfOk.keep{M:Nat->Prop}{w w':World}: ∀ {ds:List Deferred},DfOk ds M w->(∀D,w.heap[D]?=some (.deferred (some []))->mark D∈ds->w'.heap[D]?=w.heap[D]?)->DfOk ds M w'
 |[],_,_=>trivial
 |d::ds,h,hb=>by
  obtain⟨D,h1,h2,h3,h4,h5⟩:=h;exact⟨D,h1,h2,(hb D h3 (by rw[h1];exact yo)).trans h3,h4,h5.keep fun D' hd hm=>hb D' hd (ym _ hm)⟩
theorem qn{w:World}{D:Nat}{o:Obj}(h:w.heap[D]?=some o):D<w.heap.size:=(asi.1 h).1
structure Sim (P:Program) (T:Lay) (M:Nat->Prop) (F0:Frz) (w0:World) (F:Frz) (ρ:Nat->Nat) (n:Nat) (σ:Sto) (h:List (Nat×Blk)) (o:List (TypeId×List Nat)) (a:Act) (w:World):Prop where
 n:a.tmps.size=n
 df:DfOk a.defers M w
 sees:Sees F w
 lay:Laid T F0 w0/\∀g,T.r g≠none->¬M g
 le:Le F0 F
 new:∀p v,F p=some v->F0 p=some v\/M p.block
 newm:∀b xs,F.m b=some xs->F0.m b=some xs\/M b
 bel:BelM M w0 w
 hM:∀j,w0.heap.size<=j->M j
 tm:∀i tv,σ i=some tv->∃x,a.tmps[i]?=some x/\RepT F ρ tv x
 wf:∀i tv,σ i=some tv->wfT h tv
 hp:∀id k,look id h=some k->RepB F w (ρ id) k/\M (ρ id)/\ρ id<w.heap.size
 nn:a.tmps.size<=999000
 z:∀id k,999000<=id->look id h=some k->ρ id=F0.z id
 nb:∀id k b,look id h=some k->k.nm=some b->ρ id=b
 inj:∀id id' k k',look id h=some k->look id' h=some k'->ρ id=ρ id'->id=id'
 ow:∀(j:Nat) e c,o[j]?=some (e,c)->∃v,(∀i∈c,held a w ρ i=some v)/\Own F w M e (P.cellsOf e) v/\∀id k,look id h=some k->v.ownBlock≠some (ρ id)
 od:∀(j j':Nat) e c e' c',j≠j'->o[j]?=some (e,c)->o[j']?=some (e',c')->∀i∈c,∀i'∈c',∀v v' g,held a w ρ i=some v->held a w ρ i'=some v'->v.ownBlock=some g->v'.ownBlock≠some g
 oc:∀(j:Nat) e c,o[j]?=some (e,c)->∀i∈c,1000000000<=i->look (pid i) h≠none
variable {M : Nat -> Prop}{F0 F : Frz}{w0 w : World}{ρ : Nat -> Nat}{n : Nat}{σ : Sto}{h : List (Nat × Blk)}{o : List (TypeId × List Nat)}{a : Act}
theorem Sim.opr(S:Sim P T M F0 w0 F ρ n σ h o a w)(x:Operand)(tv:TV)(e:opv σ x=some tv):RepT F ρ tv (a.eval x):=by
 cases x with
 |tmp i=>
  obtain⟨y,h1,h2⟩:=S.tm i tv e;have:a.eval (.tmp i)=y:=by simp[Act.eval,h1]
  rw[this];exact h2
 |const v=>
  simp only[opv,cond_eq_ite] at e;split at e
  .rename_i hv;cases e;exact je4 F v hv
  cases e
 |func f=>
  simp only[opv,vk] at e;subst e;exact .func rfl smq
 |global g=>cases e
theorem Sim.laid(S:Sim P T M F0 w0 F ρ n σ h o a w):Laid T F w:=by
 refine⟨S.lay.1.1.trans S.le,fun g xs e=>?_⟩;obtain⟨⟨ty,fz,h1⟩,off,v,h2⟩:=S.lay.1.2 g xs e
 have hlt:g<w0.heap.size:=by
  rcases xk g w0.heap.size with h|h
  .exact h
  rw[xb6 h] at h1;cases h1
 exact⟨⟨ty,fz,(S.bel.block g hlt (S.lay.2 g zew)).trans h1⟩,off,v,S.le _ _ h2⟩
theorem Sim.good(S:Sim P T M F0 w0 F ρ n σ h o a w):Good F w ρ h (opv σ) a.eval:=⟨S.sees,fun id k e=>(S.hp id k e).1,S.opr,S.nb⟩
theorem Own.ext{F F':Frz}{w w':World}{e:TypeId}{size:Nat}{y:Value}(h:Own F w M e size y)(hx:Ext F w F' w'):Own F' w' M e size y:=by
 obtain⟨m,xs,h1,h2⟩:=h;have hlt:=h1.lt;refine⟨m,xs,h1.kept (row:=none) ⟨hx.bel.os,hx.bel.tape,hx.bel.output,hx.bel.size,fun k hk _=>hx.bel.block k hk⟩ (by cases y.ownBlock<;>simp),fun g hg=>⟨(h2 g hg).1,fun p v hp hpg=>?_⟩⟩;rcases hx.new p v hp with e'|e'
 .exact(h2 g hg).2 p v e' hpg
 have:=(hlt g hg).2;omega
theorem Sim.oval(S:Sim P T M F0 w0 F ρ n σ h o a w){j:Nat}{e:TypeId}{c:List Nat}(hj:o[j]?=some (e,c)){i:Nat}(hi:i∈c){u:Value}(hu:held a w ρ i=some u):
  (∀i∈c,held a w ρ i=some u)/\Own F w M e (P.cellsOf e) u/\∀id k,look id h=some k->u.ownBlock≠some (ρ id):=by
 obtain⟨v,h1,h2⟩:=S.ow j e c hj;have:=h1 i hi;rw[hu] at this;cases this;exact⟨h1,h2⟩
theorem Sim.od_of(S:Sim P T M F0 w0 F ρ n σ h o a w){a':Act}{w':World}{ρ':Nat->Nat}(hh:∀(j:Nat) e c,o[j]?=some (e,c)->∀i∈c,held a' w' ρ' i=held a w ρ i):
  ∀(j j':Nat) e c e' c',j≠j'->o[j]?=some (e,c)->o[j']?=some (e',c')->∀i∈c,∀i'∈c',∀v v' g,held a' w' ρ' i=some v->held a' w' ρ' i'=some v'->v.ownBlock=some g->v'.ownBlock≠some g:=
 fun j j' e c e' c' hne hj hj' i hi i' hi' v v' g e1 e2=>S.od j j' e c e' c' hne hj hj' i hi i' hi' v v' g (by rw[<- hh j e c hj i hi];exact e1) (by rw[<- hh j' e' c' hj' i' hi'];exact e2)
theorem og{w':World}(S:Sim P T M F0 w0 F ρ n σ h o a w)(hb:∀g,g<w.heap.size->(∃id k,look id h=some k/\g=ρ id)->w'.heap[g]?=w.heap[g]?):
  ∀(j:Nat) e c,o[j]?=some (e,c)->∀i∈c,held a w' ρ i=held a w ρ i:=fun j e c hj i hi=>by
 unfold held;split
 .rfl
 rename_i hge;obtain⟨k,hk⟩:=xan.1 (S.oc j e c hj i hi omq);exact World.cell?_of_block (hb _ (S.hp _ k hk).2.2 ⟨_,k,hk,rfl⟩)
theorem Sim.ext{F':Frz}{w':World}(S:Sim P T M F0 w0 F ρ n σ h o a w)(hx:Ext F w F' w'):Sim P T M F0 w0 F' ρ n σ h o a w':=
  have hh:=og S (w':=w') (fun g hg _=>hx.bel.block g hg)
  { n:=S.n
    df:=S.df.keep fun D hd _=>hx.bel.block D (qn hd)
    sees:=hx.fr
    lay:=S.lay
    le:=S.le.trans hx.le
    new:=fun p v e=>(hx.new p v e).elim (S.new p v) (fun hb=>.inr (S.hM _ (xc S.bel.size hb)))
    newm:=fun p v e=>(hx.newm p v e).elim (S.newm p v) (fun hb=>.inr (S.hM _ (xc S.bel.size hb)))
    bel:=S.bel.trans (.of hx.bel)
    hM:=S.hM
    tm:=fun i tv e=>by obtain⟨x,h1,h2⟩:=S.tm i tv e;exact⟨x,h1,h2.mono hx.le⟩
    wf:=S.wf
    hp:=fun id k e=>⟨(S.hp id k e).1.ext hx,(S.hp id k e).2.1,xao (S.hp id k e).2.2 hx.bel.size⟩
    nn:=S.nn
    z:=S.z
    nb:=S.nb
    inj:=S.inj
    ow:=fun j e c hj=>by obtain⟨v,h1,h2,h3⟩:=S.ow j e c hj;exact⟨v,fun i hi=>by rw[hh j e c hj i hi];exact h1 i hi,h2.ext hx,h3⟩
    od:=S.od_of hh
    oc:=S.oc }
theorem qav{a:Act}{d i:Nat}{x:Value}(hd:d<a.tmps.size):(a.put (some d) x).tmps[i]?=if i=d then some x else a.tmps[i]? := by
 simp only[Act.put];by_cases h:i=d
 .subst h;simp[hd]
 rw[vd h,xcn omq]
theorem qh{a:Act}{d i:Nat}{x:Value}(hd:d<a.tmps.size)(hn:a.tmps.size<=999000):held (a.put (some d) x) w ρ i=if i=d then some x else held a w ρ i:=by
 unfold held;by_cases h:i<1000000000
 .rw[ve h,ve h,qav hd]
 rw[vd h,vd h,vd omq]
theorem Sim.put(S:Sim P T M F0 w0 F ρ n σ h o a w){d:Option Tmp}{tv:TV}{x:Value}(hr:RepT F ρ tv x)(hw:wfT h tv)(hd:∀d',d=some d'->d'<n/\∀(j:Nat) e c,o[j]?=some (e,c)->d' ∉ c):
  Sim P T M F0 w0 F ρ n (upd σ d tv) h o (a.put d x) w:=by
 cases d with
 |none=>exact S
 |some d=>
  obtain⟨h1,h2⟩:=hd d rfl;have hsz:d<a.tmps.size:=by rw[S.n];exact h1
  have hg:=fun i=>qav (a:=a) (i:=i) (x:=x) hsz
  have hh:∀(j:Nat) e c,o[j]?=some (e,c)->∀i∈c,held (a.put (some d) x) w ρ i=held a w ρ i:=fun j e c hj i hi=>by
   rw[qh hsz S.nn,vd];rintro rfl;exact h2 j e c hj hi
  refine { n:=by simpa [Act.put] using S.n,df:=S.df,sees:=S.sees,lay:=S.lay,le:=S.le,new:=S.new,newm:=S.newm,bel:=S.bel,hM:=S.hM,tm:= ?_,wf:= ?_,hp:=S.hp,nn:=(by simpa [Act.put] using S.nn),z:=S.z,nb:=S.nb,inj:=S.inj,ow:= ?_,od:=S.od_of hh,oc:=S.oc }
  .intro i tv' e;simp only[upd] at e;split at e
   .rename_i hi;cases e;exact⟨x,by rw[hg,ve hi],hr⟩
   rename_i hi;obtain⟨y,e1,e2⟩:=S.tm i tv' e;exact⟨y,by rw[hg,vd hi];exact e1,e2⟩
  .intro i tv' e;simp only[upd] at e;split at e
   .cases e;exact hw
   exact S.wf i tv' e
  intro j e c hj;obtain⟨v,e1,e2⟩:=S.ow j e c hj;exact⟨v,fun i hi=>by rw[hh j e c hj i hi];exact e1 i hi,e2⟩
theorem Sim.wfo(S:Sim P T M F0 w0 F ρ n σ h o a w)(x:Operand)(tv:TV)(e:opv σ x=some tv):wfT h tv:=by
 cases x with
 |tmp i=>exact S.wf i tv e
 |const v=>
  simp only[opv,cond_eq_ite] at e;split at e
  .cases e;trivial
  cases e
 |func f=>simp only[opv,vk] at e;subst e;trivial
 |global g=>cases e
theorem Sim.yields_wf(S:Sim P T M F0 w0 F ρ n σ h o a w){op:Oper}{tv:TV}(hy:um P T σ h op tv):wfT h tv:=by
 rcases hy with hy|⟨v,hy,rfl⟩|⟨c,f,g,cap,vs,r,ho,hc,hf,hvs,hden,rfl⟩
 .exact jci S.wfo hy
 .trivial
 trivial
theorem qly(S:Sim P T M F0 w0 F ρ n σ h o a w){op:Oper}{tv:TV}(hy:um P T σ h op tv){next:Act->World->Prop}{Q:Exit->Act->World->Prop} 
  (k:∀x F' w',Ext F w F' w'->RepT F' ρ tv x->next (a.put op.dst x) w'):opG rd P op a w next Q:=by
 have G:=S.good;rcases hy with hy|⟨v,hy,rfl⟩|⟨c,f,g,cap,vs,r,ho,hc,hf,hvs,hden,rfl⟩
 .obtain⟨x,hr,hx⟩:=jm5 (P:=P) G op hy;refine cx hr ?_;exact k x F w (Ext.refl S.sees) hx
 .obtain⟨x,F',w',hr,he,hx⟩:=jxc (P:=P) G op hy;refine cx hr ?_;exact k x F' w' he hx
 have hfv:=G.v hf;generalize hfx:a.eval f=fx at hfv;cases hfv with
 |func hl hh=>
  rename_i xs;obtain⟨hl2,hh2⟩:=jk9 G hvs
  have hrun:(execOp a.eval op).run P w=.ok (.enter g ((c.args.toList.map a.eval)++xs.toList).toArray) w:=by
   have:=hden.1 ((c.args.map a.eval)++xs) w
   have harr:((c.args.toList.map a.eval)++xs.toList).toArray=(c.args.map a.eval)++xs:=by
    apply yj;simp
   exact zi
  refine tn hrun ?_;refine(hden.2 w F ((c.args.toList.map a.eval)++xs.toList) S.sees (S.laid) ⟨by simp[hl,hl2],fun j v x e1 e2=>?_⟩).mono ?_
  .by_cases hj:j<vs.length
   .exact zh
   exact zc
  rintro e w' ⟨y,F',rfl,hx,hr⟩;exact k y F' w' hx hr
end Go.Ab
namespace Go.Ab
open Go.RowKit
variable {P : Program}{T : Lay}{rd : Option Nat}
theorem ju5{ρ ρ':Operand->Option TV}{h:List (Nat×Blk)}: ∀(l:List Operand),(∀x∈l,ρ x=ρ' x)->ki ρ h l=ki ρ' h l
 |[],_=>rfl
 |x::r,hh=>by
  simp only[ki];rw[hh x smq,ju5 r (fun y hy=>hh y zfd)]
theorem ju8{ρ ρ':Operand->Option TV}: ∀(l:List Operand),(∀x∈l,ρ x=ρ' x)->vsOf ρ l=vsOf ρ' l
 |[],_=>rfl
 |x::r,hh=>by
  simp only[vsOf];rw[hh x smq,ju8 r (fun y hy=>hh y zfd)]
theorem jjp{ρ ρ':Operand->Option TV}: ∀(l:List (Nat×Operand)),(∀x∈l,ρ x.2=ρ' x.2)->mu ρ l=mu ρ' l
 |[],_=>rfl
 |(i,x)::r,hh=>by
  simp only[mu];rw[hh (i,x) smq,jjp r (fun y hy=>hh y zfd)]
theorem jun{ρ ρ':Operand->Option TV}(x:Option Operand)(hh:∀y,x=some y->ρ y=ρ' y):optV ρ x=optV ρ' x:=by
 cases x with
 |none=>rfl
 |some y=>simp only[optV,hh y rfl]
theorem jxb{ρ ρ':Operand->Option TV}{h:List (Nat×Blk)}(op:Op)(hh:∀x∈op.operands,ρ x=ρ' x):evq P ρ h op=evq P ρ' h op:=by
 cases op<;>simp only[Op.operands] at hh<;>simp only[evq]
 case slice t x lo hi mx=>
  cases mx with
  |some m=>rfl
  |none=>
   simp only;rw[hh x smq,jun lo (fun y e=>hh y (by subst e;simp)),jun hi (fun y e=>hh y (by subst e;simp))]
 case makeFunc fn first cap=>
  cases fn<;>simp only
  rw[ju5 cap.toList (fun x hx=>hh x (by simp;exact .inr zfi))]
 case call c=>
  cases hc:c.callee with
  |value f=>rfl
  |invoke r m=>rfl
  |builtin b=>
   cases b<;>simp only
   case len=>
    split
    .rename_i x t h1 h2;have hx:x∈c.args.toList:=by rw[h1];simp
     rw[hh x ze7]
    rfl
   all_goals
    split
    .rename_i x y h1;have hx:x∈c.args.toList:=by rw[h1];simp
     have hy:y∈c.args.toList:=by rw[h1];simp
     rw[hh x ze7,hh y (by simp[Call.operands,hc];simpa using hy)]
    rfl
 case unOp op t x=>
  cases op<;>simp only
  all_goals rw[hh x smq]
 case lookup t x i ok=>rw[hh x smq,hh i smq]
 case pick c a b=>rw[hh c smq,hh a smq,hh b smq]
 case move x=>rw[hh x smq]
 case assign x=>rw[hh x smq]
 case nilCheck x=>rw[hh x smq]
 case load t x=>rw[hh x smq]
 case fieldAddr s x f=>rw[hh x smq]
 case field s x f=>rw[hh x smq]
 case indexAddr t x i=>rw[hh x smq,hh i smq]
 case index t x i=>rw[hh x smq,hh i smq]
 case binOp op t x y ty=>rw[hh x smq,hh y smq]
 case convert s d x=>rw[hh x smq]
 case extract x i=>rw[hh x smq]
theorem qnl{ρ ρ':Operand->Option TV}(op:Op)(hh:∀x∈op.operands,ρ x=ρ' x):evb P ρ op=evb P ρ' op:=by
 cases op<;>simp only[Op.operands] at hh<;>simp only[evb]
 case build t parts=>rw[jjp parts.toList (fun x hx=>hh x.2 (by simp;exact⟨x.1,by simpa using hx⟩))]
 case buildSlice t len parts=>rw[jjp parts.toList (fun x hx=>hh x.2 (by simp;exact⟨x.1,by simpa using hx⟩))]
theorem um.congr{σ σ':Sto}{h:List (Nat×Blk)}{o:Oper}{tv:TV}(hh:∀x∈o.op.operands,opv σ x=opv σ' x)(hy:um P T σ h o tv):um P T σ' h o tv:=by
 rcases hy with hy|⟨v,hy,e⟩|⟨c,f,g,cap,vs,r,ho,hc,hf,hvs,hden,e⟩
 .exact .inl (by rw[<- jxb o.op hh];exact hy)
 .exact .inr (.inl ⟨v,by rw[<- qnl o.op hh];exact hy,e⟩)
 refine .inr (.inr ⟨c,f,g,cap,vs,r,ho,hc,?_,?_,hden,e⟩)
 .rw[<- hh f (by simp[ho,Op.operands,Call.operands,hc])];exact hf
 rw[<- ju8 c.args.toList (fun x hx=>hh x (by simp[ho,Op.operands,Call.operands,hc];exact .inr zfi))];exact hvs
def gdV(l:List Oper)(o:Oper)(σ:Sto):Option Bool:=
 match o.guard with
 |none=>some true
 |some (j,want)=>match (l[j]?).bind (·.dst) with
  |none=>none
  |some d=>match σ d with
   |some (.v (.val (.bool b)))=>some (b == want)
   |some .u=>some false
   |_=>none
def dg(P:Program)(T:Lay)(l:List Oper)(σ:Sto)(h:List (Nat×Blk))(o:Oper)(tv:TV):Prop:=
 (gdV l o σ=some true/\um P T σ h o tv)\/(gdV l o σ=some false/\tv=.u)
theorem qb1{σ:Sto}{d:Option Tmp}{tv:TV}{x:Operand}(hd:∀d',d=some d'->x≠ .tmp d'):opv (upd σ d tv) x=opv σ x:=by
 cases d with
 |none=>rfl
 |some d=>
  cases x with
  |tmp i=>
   have:i≠d:=fun e=>hd d rfl (e▸rfl);simp[opv,upd,this]
  |_=>rfl
theorem dg.upd{ops:Array Oper}{σ:Sto}{h:List (Nat×Blk)}{o:Oper}{tv:TV}{d:Option Tmp}{tv':TV}(hd:∀d',d=some d'->d' ∉ o.looksAt ops):
  dg P T ops.toList (upd σ d tv') h o tv↔dg P T ops.toList σ h o tv:=by
 have hg:gdV ops.toList o (Go.Ab.upd σ d tv')=gdV ops.toList o σ:=by
  unfold gdV;cases hgd:o.guard with
  |none=>rfl
  |some gw=>
   obtain⟨j,want⟩:=gw;simp only;cases ht:(ops.toList[j]?).bind (·.dst) with
   |none=>rfl
   |some t=>
    cases d with
    |none=>rfl
    |some d=>
     have hne:t≠d:=fun e=>hd d rfl (by subst e;simp at ht;simp[Oper.looksAt,hgd,ht]);simp[Go.Ab.upd,hne]
 have hop:∀x∈o.op.operands,opv (Go.Ab.upd σ d tv') x=opv σ x:=fun x hx=>qb1 fun d' e1 e2=>hd d' e1 (by
  subst e2
  exact xd6 _ (List.mem_filterMap.2 ⟨.tmp d',by simpa using hx,rfl⟩))
 unfold dg;rw[hg];constructor
 .rintro (⟨h1,h2⟩|h1)
  .exact .inl ⟨h1,h2.congr hop⟩
  exact .inr h1
 rintro (⟨h1,h2⟩|h1)
 .exact .inl ⟨h1,h2.congr (fun x hx=>(hop x hx).symm)⟩
 exact .inr h1
theorem jya(σ:Sto){x y:Option Tmp}(v z:TV)(h:∀d,x=some d->y≠some d):upd (upd σ x v) y z=upd (upd σ y z) x v:=by
 cases x with
 |none=>rfl
 |some d=>
  cases y with
  |none=>rfl
  |some e=>
   have hne:e≠d:=fun he=>h d rfl (he▸rfl)
   funext i
   simp only[upd];by_cases h1:i=e
   .subst h1;simp[hne]
   simp[h1]
def awQ(P:Program)(T:Lay)(l:List Oper)(h:List (Nat×Blk))(Q:Sto->Prop):List Oper->Sto->Prop
 |[],σ=>Q σ
 |o::rest,σ=>∃tv,dg P T l σ h o tv/\awQ P T l h Q rest (upd σ o.dst tv)
def anyQ(P:Program)(T:Lay)(md:Region.Mode)(ops:Array Oper)(h:List (Nat×Blk))(Q:Sto->Prop):Nat->Array Bool->Sto->Prop
 |0,listed,σ=>Region.ready md ops listed=[]/\Q σ
 | fuel+1,listed,σ=>(Region.ready md ops listed=[]->Q σ)/\
   ∀i∈Region.ready md ops listed,∀o,ops[i]?=some o->∃tv,dg P T ops.toList σ h o tv/\anyQ P T md ops h Q fuel (listed.setIfInBounds i true) (upd σ o.dst tv)
variable {md : Region.Mode}{ops : Array Oper}{h : List (Nat × Blk)}{Q : Sto -> Prop}
theorem qlv{i:Nat}{oi:Oper}{v:TV}(hi:ops[i]?=some oi):
  ∀(fuel:Nat) (listed:Array Bool) (σ:Sto),
   (∀j oj,ops[j]?=some oj->j≠i->listed.getD j true=false->(∀e∈oj.after,Region.binds md e=true->e.on≠i)->oi.apart ops oj=true)->
   i∈Region.ready md ops listed->dg P T ops.toList σ h oi v->
   anyQ P T md ops h Q fuel (listed.setIfInBounds i true) (upd σ oi.dst v)->anyQ P T md ops h Q (fuel+1) listed σ:=by
 intro fuel
 induction fuel with
 |zero=>
  intro listed σ _ hr hy H;refine⟨fun h0=>zfc,fun j hj oj hoj=>?_⟩;by_cases hji:j=i
  .subst hji;rw[hi] at hoj;cases hoj;exact⟨v,hy,H⟩
  have:=ready_mono hj hji;rw[H.1] at this;cases this
 |succ fuel ih=>
  intro listed σ hfree hr hy H;refine⟨fun h0=>zfc,fun j hj oj hoj=>?_⟩;by_cases hji:j=i
  .subst hji;rw[hi] at hoj;cases hoj;exact⟨v,hy,H⟩
  obtain⟨z,hu,hK⟩:=H.2 j (ready_mono hj hji) oj hoj;obtain⟨hjun,oj',hoj',hall⟩:=mem_ready.1 hj;rw[hoj] at hoj';cases hoj'
  have hnot:∀e∈oj.after,Region.binds md e=true->e.on≠i:=fun e he hb heq=>by
   have h1:=hall e he hb;have h0:=(mem_ready.1 hr).1;rw[heq] at h1;rcases xk i listed.size with h'|h'
   .simp[h'] at h0 h1;rw[h0] at h1;cases h1
   simp[Array.getElem?_eq_none h'] at h1
  obtain⟨a1,a2,a3⟩:=Oper.apart_spec (hfree j oj hoj hji hjun hnot);have hu':dg P T ops.toList σ h oj z:=(dg.upd a1).1 hu;refine⟨z,hu',?_⟩
  have hfree':∀k ok,ops[k]?=some ok->k≠i->(listed.setIfInBounds j true).getD k true=false->
    (∀e∈ok.after,Region.binds md e=true->e.on≠i)->oi.apart ops ok=true:=fun k ok hk hki hun hno=>by
   refine hfree k ok hk hki ?_ hno;by_cases hjk:j=k
   .subst hjk;exact hjun
   exact zd5
  refine ih (listed.setIfInBounds j true) _ hfree' (ready_mono hr (yp hji)) ((dg.upd a3).2 hy) ?_;exact zdv
theorem qag:∀(l:List Oper) (k:Nat) (listed:Array Bool) (σ:Sto),(∀j,l[j]?=ops[k+j]?)->
  Region.lexFrom md ops l.length k listed=true->awQ P T ops.toList h Q l σ->anyQ P T md ops h Q l.length listed σ
 |[],_,_,_,_,hB,hh=>⟨by simpa [Region.lexFrom] using hB,hh⟩
 |o::l,k,listed,σ,hl,hB,hh=>by
  have h0:ops[k]?=some o:=by simpa using(hl 0).symm
  simp only[List.length_cons,Region.lexFrom,vn] at hB;obtain⟨⟨hr,hf⟩,hB'⟩:=hB;obtain⟨tv,hy,hK⟩:=hh
  exact qlv h0 l.length listed σ (Region.free_spec h0 hf) (by simpa using hr) hy
   (qag l (k+1) _ _ (fun j=>by have:=hl (j+1);simpa [Nat.add_assoc,Nat.add_comm 1 j] using this) hB' hK)
variable {M : Nat -> Prop}{F0 F : Frz}{w0 w : World}{ρ : Nat -> Nat}{n : Nat}{σ : Sto}{o : List (TypeId × List Nat)}{a : Act}
theorem Sim.wanted(S:Sim P T M F0 w0 F ρ n σ h o a w){op:Oper}{b:Bool}(hg:gdV ops.toList op σ=some b):Region.wanted op (yielded ops a.tmps)=b:=by
 unfold gdV at hg;unfold Region.wanted;cases hgd:op.guard with
 |none=>rw[hgd] at hg;cases hg;rfl
 |some gw=>
  obtain⟨j,want⟩:=gw;rw[hgd] at hg;simp only at hg ⊢;cases ht:(ops.toList[j]?).bind (·.dst) with
  |none=>rw[ht] at hg;cases hg
  |some d=>
   rw[ht] at hg;simp only at hg;split at hg
   .rename_i b' hs;cases hg;obtain⟨x,h1,h2⟩:=S.tm d _ hs;have hx:=al (show Rep F _ x from h2);subst hx;have ht':(ops[j]?).bind (·.dst)=some d:=by simpa using ht
    have:yielded ops a.tmps j=some b':=by
     unfold yielded;rw[ht'];simp only[Option.bind_some];rw[h1]
    rw[this];cases b' <;> cases want<;>rfl
   .rename_i hs;cases hg;obtain⟨x,h1,h2⟩:=S.tm d _ hs;obtain rfl:x=undef:=h2;have ht':(ops[j]?).bind (·.dst)=some d:=by simpa using ht
    have:yielded ops a.tmps j=none:=by
     unfold yielded;rw[ht'];simp only[Option.bind_some];rw[h1];rfl
    rw[this];cases want<;>rfl
   cases hg
def jrh(n:Nat)(o:List (TypeId×List Nat))(l:List Oper):Prop:=
 ∀op∈l,∀d,op.dst=some d->d<n/\∀(j:Nat) e c,o[j]?=some (e,c)->d ∉ c
theorem qb2(S:Sim P T M F0 w0 F ρ n σ h o a w){op:Oper}{tv:TV}(hy:dg P T ops.toList σ h op tv) 
  (hd:∀d',op.dst=some d'->d'<n/\∀(j:Nat) e c,o[j]?=some (e,c)->d' ∉ c) {i:Nat} (hi:ops[i]?=some op) {K:Act->World->Prop} {Q:Exit->Act->World->Prop}
  (k:∀F' w' a',Sim P T M F0 w0 F' ρ n (upd σ op.dst tv) h o a' w'->K a' w'):wpOpIn (fc rd) 0 P ops Q i K a w:=by
 unfold wpOpIn;simp only[hi];rcases hy with⟨hg,hy⟩|⟨hg,rfl⟩
 .rw[S.wanted hg,ve rfl];exact(qly S hy fun x F' w' hx hr=>k F' w' _ ((S.ext hx).put hr (S.yields_wf hy) hd))
 rw[S.wanted hg];simp only[yw,xy];exact⟨fun _ _=>trivial,k F w _ (S.put rfl trivial hd)⟩
theorem jvy(hok:jrh n o ops.toList){Q':Exit->Act->World->Prop}(hQ:∀F' σ' a' w',Sim P T M F0 w0 F' ρ n σ' h o a' w'->Q σ'->Q' .normal a' w'):
  ∀(fuel:Nat) (listed:Array Bool) (F:Frz) (σ:Sto) (a:Act) (w:World),Sim P T M F0 w0 F ρ n σ h o a w->anyQ P T md ops h Q fuel listed σ->wpAnyIn (fc rd) 0 P md ops Q' fuel listed a w
 |0,_,_,_,_,_,S,hh=>⟨hh.1,hQ _ _ _ _ S hh.2⟩
 |fuel+1,listed,F,σ,a,w,S,hh=>by
  refine⟨fun h0=>hQ _ _ _ _ S (hh.1 h0),fun i hi=>?_⟩;obtain⟨_,oi,hoi,_⟩:=mem_ready.1 hi;obtain⟨tv,hy,hK⟩:=hh.2 i hi oi hoi;exact qb2 S hy (hok oi (by simpa using xcr hoi)) hoi fun F' w' a' S'=>jvy hok hQ fuel _ F' _ a' w' S' hK
theorem qhg(hm:P.follows .mixedOrders=true){id:Nat}(hB:Region.lexB .any ops=true)(hok:jrh n o ops.toList){Q':Exit->Act->World->Prop} 
  (S:Sim P T M F0 w0 F ρ n σ h o a w) (hQ:∀F' σ' a' w',Sim P T M F0 w0 F' ρ n σ' h o a' w'->Q σ'->Q' .normal a' w') (hh:awQ P T ops.toList h Q ops.toList σ):
  wpG rd P (Code.region id ops true) Q' a w:=by
 simp only[Region.lexB,vn] at hB;have hx:Ext F w F w.drew:=(Ext.refl S.sees).drew;refine wpIn_region_any hm (jvy (md:=.any) hok hQ _ _ F σ a w.drew (S.ext hx) ?_);have:=qag (P:=P) (h:=h) (Q:=Q) (md:=.any) ops.toList 0 (Array.replicate ops.size false) σ smq (by simpa using hB.2) hh;exact zb4
end Go.Ab
namespace Go.Ab
open Go.RowKit
variable {P : Program}{T : Lay}
structure St where
 n:Nat
 t:List (Nat×TV)
 h:List (Nat×Blk)
 o:List (TypeId×List Nat)
def St.σ(s:St):Sto:=fun i=>look i s.t
def remo(d:Nat)(o:List (TypeId×List Nat)):List (TypeId×List Nat):=o.map fun x=>(x.1,x.2.filter fun i=> !Nat.beq i d)
def delo(i:Nat)(o:List (TypeId×List Nat)):List (TypeId×List Nat):=o.map fun x=>if x.2.contains i=true then(x.1,[]) else x
def addo(i d:Nat)(o:List (TypeId×List Nat)):List (TypeId×List Nat):=o.map fun x=>if x.2.contains i=true then(x.1,d::x.2) else x
def cv(i:Nat):List (TypeId×List Nat)->Option TypeId
 |[]=>none
 |(e,c)::r=>if c.contains i=true then some e else cv i r
def hasC(o:List (TypeId×List Nat)):Bool:=o.any fun x=>x.2.any fun i=>decide (1000000000<=i)
def remB(d:Nat)(o:List (TypeId×List Nat)):List (TypeId×List Nat):=o.map fun x=>(x.1,x.2.filter fun i=> !(Nat.ble 1000000000 i && Nat.beq (pid i) d))
def remC(id off n:Nat)(o:List (TypeId×List Nat)):List (TypeId×List Nat):=o.map fun x=>(x.1,x.2.filter fun i=> !(Nat.ble (plc id off) i && Nat.blt i (plc id off+n)))
def dh(d:Nat)(o:List (TypeId×List Nat)):List (TypeId×List Nat):=bif hasC o then remB d o else o
def ldO(id off d:Nat)(o:List (TypeId×List Nat)):List (TypeId×List Nat):=bif hasC o && decide (off<1000000000) then addo (plc id off) d (remo d o) else remo d o
def jcr:Operand->Option Nat
 |.tmp i=>some i
 |_=>none
def stO(id off n:Nat)(x:Operand)(o:List (TypeId×List Nat)):List (TypeId×List Nat):=
 match jcr x with
 |some i=>match cv i (bif hasC o then remC id off n o else o) with
  |some _=>bif decide (n=1) && decide (off<1000000000) then addo i (plc id off) (bif hasC o then remC id off n o else o) else(bif hasC o then remC id off n o else o)
  |none=>(bif hasC o then remC id off n o else o)
 |none=>(bif hasC o then remC id off n o else o)
def vN(h:List (Nat×Blk)):Option TV->Option V
 |some (.v x)=>some x
 |some (.p id off)=>(nmOf (look id h)).map fun b=>.val (.pointer (some ⟨b,off,none⟩))
 |some (.m id)=>(nmOf (look id h)).map fun b=>.val (.map (some b))
 |_=>none
def mref(h:List (Nat×Blk)):Option TV->Option Nat
 |some (.m id)=>some id
 |some (.v (.val (.map (some b))))=>dj b h
 |_=>none
def putK(st:St)(d:Option Tmp)(tv:TV)(K:St->Prop):Prop:=
 match d with
 |none=>K st
 |some d=>d<st.n/\K { st with t:=(d,tv)::st.t,o:=remo d st.o }
def movK(st:St)(x:Operand)(d:Option Tmp)(K:St->Prop):Prop:=
 match nu (opv st.σ x),d with
 |some _,none=>K st
 |some tv,some d=>match x with
  |.tmp i=>d<st.n/\K { st with t:=(d,tv)::st.t,o:=if i=d then remo d st.o else addo i d (remo d st.o) }
  |_=>d<st.n/\K { st with t:=(d,tv)::st.t,o:=remo d st.o }
 |none,_=>False
def Call(P:Program)(T:Lay)(g:FuncId)(args:List V)(k:V->Option TypeId->Prop)(kn:Nat->List (List V)->Prop)(m:Prop):Prop:=
 (∃r,Den P T g args r/\k r none)\/(∃r e,DenO P T g args e r/\k r (some e))\/(∃size es,DenN P T g args size es/\kn size es)\/m
theorem call{g:FuncId}{args:List V}{r:V}{k:V->Option TypeId->Prop}{kn:Nat->List (List V)->Prop}{m:Prop}(h:Den P T g args r)(hk:k r none):Call P T g args k kn m:=.inl ⟨r,h,hk⟩
theorem jsj{g:FuncId}{args:List V}{r:V}{e:TypeId}{k:V->Option TypeId->Prop}{kn:Nat->List (List V)->Prop}{m:Prop}(h:DenO P T g args e r)(hk:k r (some e)):Call P T g args k kn m:=.inr (.inl ⟨r,e,h,hk⟩)
def retK(st:St)(d:Option Tmp)(K:St->Prop)(r:V)(own:Option TypeId):Prop:=
 match own with
 |none=>putK st d (.v r) K
 |some e=>match d with
  |none=>K st
  |some d=>d<st.n/\K { st with t:=(d,.v r)::st.t,o:=(e,[d])::remo d st.o }
def newK(st:St)(d:Option Tmp)(K:St->Prop)(size:Nat)(es:List (List V)):Prop:=
 match d with
 |none=>False
 | some d=>d<st.n/\look d st.h=none/\(es=[]->K { st with t:=(d,.v (.slice size []))::st.t,o:=remo d st.o })/\
   (es≠[]->K { st with t:=(d,.s d 0 es.length size)::st.t,h:=(d,.var es.flatten)::st.h,o:=remo d st.o })
def only(id:Nat):List TV->Bool
 |[]=>true
 |.v _::r=>only id r
 |.p i _::r=>Nat.beq i id && only id r
 |.s i _ _ _::r=>Nat.beq i id && only id r
 |_=>false
def re(id:Nat):TV->TV
 |.p _ off=>.p id off
 |.s _ off n size=>.s id off n size
 |.v x=>.v x
 |_=>.u
def jg(ρ:Operand->Option TV):List Operand->Option (List TV)
 |[]=>some []
 |x::r=>match ρ x,jg ρ r with
  |some v,some vs=>some (v::vs)
  |_,_=>none
def seth(id:Nat)(b:Blk):List (Nat×Blk)->List (Nat×Blk)
 |[]=>[]
 |(j,x)::r=>if id=j then(j,b)::r else(j,x)::seth id b r
def tvOn(d:Nat):TV->Bool
 |.p id _=>id == d
 |.m id=>id == d
 |.s id _ _ _=>id == d
 |_=>false
def remj(j:Nat):List (Nat×TV)->List (Nat×TV)
 |[]=>[]
 |(i,tv)::r=>if i=j then remj j r else(i,tv)::remj j r
def unT(d:Nat):List (Nat×TV)->List (Nat×TV)
 |[]=>[]
 |(j,tv)::r=>if tvOn d tv=true then remj j (unT d r) else(j,tv)::unT d r
def unH(d:Nat):List (Nat×Blk)->List (Nat×Blk)
 |[]=>[]
 |(j,b)::r=>if j=d then unH d r else(j,b)::unH d r
def lk(κ:List (Nat×Nat))(k:Nat):Nat:=match look k κ with
 |some i=>i
 |none=>k
def bk(κ:List (Nat×Nat)):TV->TV
 |.p k off=>.p (lk κ k) off
 |.s k off n size=>.s (lk κ k) off n size
 |.m k=>.m (lk κ k)
 |.v x=>.v x
 |.u=>.u
inductive ArgM (κ:List (Nat×Nat)) (h:List (Nat×Blk)):TV->TV->Prop
 |v (x:V):ArgM κ h (.v x) (.v x)
 |p {k id off:Nat} (e:look k κ=some id):ArgM κ h (.p k off) (.p id off)
 |s {k id off n size:Nat} (e:look k κ=some id):ArgM κ h (.s k off n size) (.s id off n size)
 |m {k id:Nat} (e:look k κ=some id):ArgM κ h (.m k) (.m id)
 |pn {k id b off:Nat} (e:look k κ=some id) (e':nmOf (look id h)=some b):ArgM κ h (.p k off) (.v (.val (.pointer (some ⟨b,off,none⟩))))
 |mn {k id b:Nat} (e:look k κ=some id) (e':nmOf (look id h)=some b):ArgM κ h (.m k) (.v (.val (.map (some b))))
 |sn {k id b off n cap size:Nat} (e:look k κ=some id) (e':nmOf (look id h)=some b) (h1:n<=cap) (h2:cap<=maxLen) (h3:0<n):ArgM κ h (.s k off n size) (.v (.val (.slice (some ⟨b,off,none⟩) n cap)))
inductive ArgsM (κ:List (Nat×Nat)) (h:List (Nat×Blk)):List TV->List TV->Prop
 |nil:ArgsM κ h [] []
 |cons {a b:TV} {l m:List TV} (x:ArgM κ h a b) (t:ArgsM κ h l m):ArgsM κ h (a::l) (b::m)
def Blk.wn(n:Option Nat):Blk->Blk
 |.var cs _ k=>.var cs n k
 |.map es _=>.map es n
 |.itr es c _=>.itr es c n
 |.con cs=>.con cs
def Blk.isCon:Blk->Bool
 |.con _=>true
 |_=>false
def setb(id:Nat)(b:Blk):List (Nat×Blk)->List (Nat×Blk)
 |[]=>[]
 |(j,x)::r=>if id=j then(j,b.wn x.nm)::r else(j,x)::setb id b r
def bg(κ:List (Nat×Nat)):List (Nat×Blk)->List (Nat×Blk)->List (Nat×Blk)
 |[],h=>h
 |(k,b)::r,h=>bg κ r (setb (lk κ k) b h)
def jcz(κ:List (Nat×Nat))(h:List (Nat×Blk))(x:Nat×Blk):Prop:=∃id b,look x.1 κ=some id/\look id h=some b/\x.2.wn none=b.wn none/\(x.2.nm=none\/x.2.nm=b.nm)/\b.isCon=false
def mpc(κ:List (Nat×Nat))(i:Nat):Nat:=plc (lk κ (pid i)) (pof i)
def fo(κ:List (Nat×Nat)):List (TypeId×List Nat)->List (TypeId×List Nat)->List (TypeId×List Nat)
 |[],o=>o
 |(_,c)::r,o=>fo κ r (match c with|i::_=>delo (mpc κ i) o|[]=>o)
def su(κ:List (Nat×Nat)):List (TypeId×List Nat)->List (TypeId×List Nat)->Prop
 |[],_=>True
 |(e,[i])::r,o=>cv (mpc κ i) o=some e/\su κ r (delo (mpc κ i) o)
 |_,_=>False
def ep(κ:List (Nat×Nat))(os:List (TypeId×List Nat)):List (TypeId×List Nat):=os.map fun x=>(x.1,x.2.map (mpc κ))
def remK:List (Nat×Nat)->List (TypeId×List Nat)->List (TypeId×List Nat)
 |[],o=>o
 |(_,id)::r,o=>remK r (dh id o)
def okA(bs:List (Nat×Blk)):List TV->Bool
 |[]=>true
 |.p k _::r=>(look k bs).isSome && okA bs r
 |.s k _ _ _::r=>(look k bs).isSome && okA bs r
 |.m k::r=>(look k bs).isSome && okA bs r
 |_::r=>okA bs r
def okO(bs:List (Nat×Blk))(os:List (TypeId×List Nat)):Bool:=os.all fun x=>x.2.all fun i=>Nat.ble 1000000000 i && (look (pid i) bs).isSome
def ndk(l:List (Nat×Nat)):Bool:=match l with
 |[]=>true
 |(k,i)::r=>r.all (fun x=> !Nat.beq x.1 k && !Nat.beq x.2 i) && ndk r
def qek(P:Program)(T:Lay)(g:FuncId)(args:List TV)(cap:List V)(st:St)(k:St->TV->Prop):Prop:=
 ∃(κ:List (Nat×Nat)) (bs bs':List (Nat×Blk)) (os os':List (TypeId×List Nat)) (as:List TV) (r:TV),DenS P T g bs os as bs' os' r/\ArgsM κ st.h as (args++cap.map .v)/\ndk κ=true/\bs.map (·.1)=κ.map (·.1)/\bs'.map (·.1)=κ.map (·.1)/\(∀x∈bs,jcz κ st.h x)/\su κ os st.o/\okO bs os=true/\okO bs' os'=true/\okA bs' [r]=true/\
  k { st with h:=bg κ bs' st.h,o:=ep κ os'++remK κ (fo κ os st.o) } (bk κ r)
def rowK(R q:Nat)(ro:Option Blk):List (Nat×Nat):=match ro with
 |some _=>[(R,q)]
 |none=>[]
def jsm(P:Program)(T:Lay)(g:FuncId)(args:List TV)(cap:List V)(st:St)(k:St->TV->Prop):Prop:=
 ∃(κ0:List (Nat×Nat)) (R q:Nat) (ks0:List (Nat×Blk)) (ro:Option Blk) (as:List TV) (Post:List (Nat×Blk)->Blk->V->Prop),DenV P T g ks0 R ro as Post/\ArgsM (κ0++rowK R q ro) st.h as (args++cap.map .v)/\ndk (κ0++[(R,q)])=true/\
  ks0.map (·.1)=κ0.map (·.1)/\(∀x∈ks0++rowL R ro,jcz (κ0++rowK R q ro) st.h x)/\(ro=none->look q st.h=none)/\q<st.n/\
  ∀ks b r,Post ks b r->ks.map (·.1)=κ0.map (·.1)/\((∀id k p p',look id (unH q (bg κ0 ks st.h))=some k->k.nm=some p->b.nm=some p'->p≠p')->
   k { st with t:=unT q st.t,h:=(q,b)::unH q (bg κ0 ks st.h),o:=dh q (dh q (remK κ0 st.o)) } (.v r))
def qei(P:Program)(T:Lay)(g:FuncId)(args:List TV)(cap:List V)(st:St)(k:St->TV->Prop):Prop:=
 ∃(vs:List V) (es:List (List V)) (e:TypeId) (off d size:Nat),args=vs.map .v/\jdc P T g (vs++cap) es e off/\d<st.n/\look d st.h=none/\off<1000000000/\
  k { st with h:=(d,.var es.flatten)::st.h,o:=(e,[plc d off])::st.o } (.s d 0 es.length size)
def qej(P:Program)(T:Lay)(g:FuncId)(args:List TV)(cap:List V)(st:St)(k:St->TV->Prop):Prop:=
 ∃(vs:List V) (q:Nat) (Post:Option Blk->V->Prop),args=vs.map .v/\DenU P T g (vs++cap) Post/\q<st.n/\look q st.h=none/\(∀r,Post none r->k st (.v r))/\
  ∀b r,Post (some b) r->(∀id k p p',look id st.h=some k->k.nm=some p->b.nm=some p'->p≠p')->k { st with h:=(q,b)::st.h } (.v r)
def tg(P:Program)(T:Lay)(g:FuncId)(args:List TV)(cap:List V)(st:St)(k:St->TV->Prop):Prop:=qek P T g args cap st k\/jsm P T g args cap st k\/qei P T g args cap st k\/qej P T g args cap st k
theorem jda{P:Program}{T:Lay}{g:FuncId}{vs cap:List V}{st:St}{k:St->TV->Prop}{Post:Option Blk->V->Prop}(q:Nat)(h:DenU P T g (vs++cap) Post)(h0:∀r,Post none r->k st (.v r)) 
  (h1:∀b r,Post (some b) r->(∀id k p p',look id st.h=some k->k.nm=some p->b.nm=some p'->p≠p')->k { st with h:=(q,b)::st.h } (.v r)) (hq:q<st.n:=by first|decide|simp) (hn:look q st.h=none:=by first|rfl|simp[ae,look]):tg P T g (vs.map .v) cap st k:=
 .inr (.inr (.inr ⟨vs,q,Post,rfl,h,hq,hn,h0,h1⟩))
theorem jd9{P:Program}{T:Lay}{g:FuncId}{args:List TV}{cap:List V}{st:St}{k:St->TV->Prop}(h:jsm P T g args cap st k):tg P T g args cap st k:=.inr (.inl h)
theorem qdl{P:Program}{T:Lay}{g:FuncId}{vs cap:List V}{st:St}{k:St->TV->Prop}{es:List (List V)}{e:TypeId}{off:Nat}(d size:Nat)(h:jdc P T g (vs++cap) es e off)(ho:off<1000000000) 
  (hk:k { st with h:=(d,.var es.flatten)::st.h,o:=(e,[plc d off])::st.o } (.s d 0 es.length size)) (hd:d<st.n:=by first|decide|simp) (hn:look d st.h=none:=by first|rfl|simp[ae,look]):tg P T g (vs.map .v) cap st k:=.inr (.inr (.inl ⟨vs,es,e,off,d,size,rfl,h,hd,hn,ho,hk⟩))
def retM(d:Option Tmp)(K:St->Prop)(st:St)(tv:TV):Prop:=putK st d tv K
def CallX(P:Program)(T:Lay)(g:FuncId)(vs cap:List V)(st:St)(d:Option Tmp)(K:St->Prop):Prop:=tg P T g (vs.map .v) cap st (retM d K)
theorem jwb{id:Nat}{b b':Blk}: ∀ {h:List (Nat×Blk)},look id h=some b->setb id b' h=seth id (b'.wn b.nm) h
 |[],e=>by cases e
 |(j,x)::r,e=>by
  rw[ae] at e;simp only[setb,seth];split at e
  .rename_i he;cases e;rw[ve he,ve he]
  rename_i he;rw[vd he,vd he,jwb e]
theorem je1{id:Nat}{h:List (Nat×Blk)}: ∀ {ts:List TV},only id ts=true->∀ {l:List V},ArgsM [(999999,id)] h (ts.map (re 999999)++l.map .v) (ts++l.map .v)
 |[],_,[]=>.nil
 |[],_,_::l=>.cons (.v _) (je1 (ts:=[]) rfl (l:=l))
 |.v y::r,hh,l=>.cons (.v _) (je1 (ts:=r) hh (l:=l))
 |.p i off::r,hh,l=>by
  simp only[only,vn] at hh;have:=xc3 hh.1;subst this;exact .cons (.p rfl) (je1 (ts:=r) hh.2 (l:=l))
 |.s i off n size::r,hh,l=>by
  simp only[only,vn] at hh;have:=xc3 hh.1;subst this;exact .cons (.s rfl) (je1 (ts:=r) hh.2 (l:=l))
 |.m _::r,hh,_=>by cases hh
 |.u::r,hh,_=>by cases hh
theorem re_bk{id:Nat}{r:TV}(h:only 999999 [r]=true):bk [(999999,id)] r=re id r:=by
 cases r with
 |v x=>rfl
 |u=>rfl
 |m i=>cases h
 |p i off=>
  exact zdn
 |s i off n size=>
  exact zdn
theorem jby{cs:List V}{n:Option Nat}: ∀ {ts:List TV},only 999999 ts=true->okA [(999999,.var cs n)] ts=true
 |[],_=>rfl
 |.v y::r,h=>jby (ts:=r) h
 |.p i off::r,h=>by
  exact zbz
 |.s i off n size::r,h=>by
  exact zbz
 |.m _::r,h=>by cases h
 |.u::r,h=>by cases h
theorem dx{g:FuncId}{args:List TV}{cap:List V}{st:St}{k:St->TV->Prop}(id:Nat){cs cs':List V}{r:TV}(h:DenM P T g cs (args.map (re 999999)++cap.map .v) cs' r)(hk:k { st with h:=seth id (.var cs') st.h } (re id r)) 
  (h1:look id st.h=some (.var cs):=by rfl) (h2:only id args=true:=by rfl) (h3:only 999999 [r]=true:=by first|rfl|(split<;>rfl)) (h4:dh id st.o=st.o:=by rfl):tg P T g args cap st k:=by
 refine .inl ⟨[(999999,id)],_,_,[],[],_,r,h,je1 h2,rfl,rfl,rfl,?_,trivial,rfl,rfl,jby h3,?_⟩
 .intro x hx;simp only[xn] at hx;subst hx;exact⟨id,.var cs,rfl,h1,rfl,.inl rfl,rfl⟩
 rw[re_bk h3]
 have e1:bg [(999999,id)] [(999999,.var cs')] st.h=seth id (.var cs') st.h:=by
  simp only[bg];exact jwb (b':= .var cs') h1
 have e2:ep [(999999,id)] []++remK [(999999,id)] (fo [(999999,id)] [] st.o)=st.o:=by
  simp only[ep,xcb,List.nil_append,fo,remK];exact h4
 rw[e1,e2];exact hk
theorem gh{g:FuncId}{args:List TV}{cap:List V}{st:St}{k:St->TV->Prop}(κ:List (Nat×Nat)){bs bs':List (Nat×Blk)}{os os':List (TypeId×List Nat)}{as:List TV}{r:TV}(h:DenS P T g bs os as bs' os' r) 
  (ha:ArgsM κ st.h as (args++cap.map .v)) (hB:∀x∈bs,jcz κ st.h x) (hk:k { st with h:=bg κ bs' st.h,o:=ep κ os'++remK κ (fo κ os st.o) } (bk κ r))
  (h1:ndk κ=true:=by rfl) (h2:bs.map (·.1)=κ.map (·.1):=by rfl) (h3:bs'.map (·.1)=κ.map (·.1):=by rfl) (h4:su κ os st.o:=by exact trivial) (h5:okO bs os=true:=by rfl) (h6:okO bs' os'=true:=by rfl) (h7:okA bs' [r]=true:=by rfl):tg P T g args cap st k:=
 .inl ⟨κ,bs,bs',os,os',as,r,h,ha,h1,h2,h3,hB,h4,h5,h6,h7,hk⟩
theorem fg{g:FuncId}{args vs cap:List V}{st:St}{d:Option Tmp}{K:St->Prop}{k:V->Option TypeId->Prop}{kn:Nat->List (List V)->Prop}(h:tg P T g (vs.map .v) cap st (retM d K)):Call P T g args k kn (CallX P T g vs cap st d K):=.inr (.inr (.inr h))
def evK(P:Program)(op:Oper)(st:St)(K:St->Prop):Prop:=
 match evq P (opv st.σ) st.h op.op with
 |some tv=>putK st op.dst tv K
 |none=>match evb P (opv st.σ) op.op with
  |some v=>putK st op.dst (.v v) K
  |none=>False
def ldK(P:Program)(op:Oper)(t:TypeId)(x:Operand)(st:St)(K:St->Prop):Prop:=
 match evq P (opv st.σ) st.h op.op with
 |some tv=>match op.dst,opv st.σ x,aggB P t with
  |some d,some (.p id off),some false=>d<st.n/\K { st with t:=(d,tv)::st.t,o:=ldO id off d st.o }
  |_,_,_=>putK st op.dst tv K
 |none=>False
def th(P:Program)(e:TypeId)(n:Nat):Prop:=n<=maxLen/\n*P.bytesOf e<=140737488355328
def qw(P:Program)(e:TypeId)(size:Nat):Prop:=(ic P e).map (fun z=>z.cells.size)=some size
def appS(st:St)(e:TypeId)(size:Nat)(x:Operand):Option (List (List V)×Option Nat):=
 match vOf (opv st.σ x) with
 |some (.val (.slice none 0 0))=>some ([],none)
 |some (.slice s es)=>match x with
  |.tmp i=>if s=size/\cv i st.o=some e then some (es,some i) else none
  |_=>none
 |_=>none
def appX(st:St)(size:Nat)(x:Operand):Option (List (List V)):=
 match vOf (opv st.σ x) with
 |some (.val (.slice none 0 0))=>some []
 |some (.slice s es)=>if s=size then some es else none
 |_=>none
def ra(i:Option Nat)(o:List (TypeId×List Nat)):List (TypeId×List Nat):=match i with|none=>o|some i=>delo i o
def appK(P:Program)(op:Oper)(c:Go.Call)(st:St)(K:St->Prop):Prop:=
 match c.args.toList,c.argTypes.toList,op.dst with
 |[s,x],[t,t'],some d=>if t=t' then match slV P t with
  |some (e,size)=>match appS st e size s,appX st size x with
   | some (es,i),some xs=>qw P e size/\th P e (es.length+xs.length)/\d<st.n/\
     K { st with t:=(d,.v (.slice size (es++xs)))::st.t,o:=(e,[d])::remo d (ra i st.o) }
   |_,_=>False
  |none=>False
  else False
 |_,_,_=>False
def appL(P:Program)(op:Oper)(c:Go.Call)(st:St)(K:St->Prop):Prop:=
 match c.args.toList,c.argTypes.toList,op.dst with
 |[s,x],[t,t'],some d=>if t=t' then match slV P t with
  |some (e,size)=>match appS st e size s,appX st size x with
   | some ([],i),some xs=>0<xs.length/\qw P e size/\th P e xs.length/\d<st.n/\look d st.h=none/\
     K { st with t:=(d,.s d 0 xs.length size)::st.t,h:=(d,.var xs.flatten)::st.h,o:=remo d (ra i st.o) }
   |_,_=>False
  |none=>False
  else False
 |_,_,_=>False
def jjf(st:St)(d:Nat)(e:TypeId)(size n:Nat)(cs:List V)(xs:List (List V))(K:St->Prop):Prop:=
 ∀r cap,(∀id k q,look id st.h=some k->k.nm=some q->q≠r)->n+xs.length<=cap->cap<=maxLen->
  K { st with t:=(d,.v (.val (.slice (some ⟨r,0,none⟩) (n+xs.length) cap)))::st.t,h:=(d,.var (cs++xs.flatten) (some r) (some (e,size,cap)))::st.h,o:=remo d st.o }
def appR(P:Program)(op:Oper)(c:Go.Call)(st:St)(K:St->Prop):Prop:=
 match c.args.toList,c.argTypes.toList,op.dst with
 |[s,x],[t,t'],some d=>if t=t' then match slV P t with
  |some (e,size)=>match vOf (opv st.σ s),appX st size x with
   |some (.val (.slice none 0 0)),some xs=>0<xs.length/\qw P e size/\th P e (0+xs.length)/\d<st.n/\look d st.h=none/\jjf st d e size 0 [] xs K
   |some (.val (.slice (some ⟨r,0,none⟩) n cap)),some xs=>match dj r st.h with
    |some id=>match look id st.h with
     | some (.var cs _ (some (e',size',cap')))=>e'=e/\size'=size/\cap'=cap/\cs.length=n*size/\n<=cap/\0<xs.length/\qw P e size/\th P e (n+xs.length)/\d<st.n/\(d=id\/look d st.h=none)/\
       jjf { st with t:=unT id st.t,h:=unH id st.h,o:=dh id st.o } d e size n cs xs K
     |_=>False
    |none=>False
   |some (.slice z []),some xs=>match s with
    |.tmp i=>z=size/\cv i st.o=some e/\0<xs.length/\qw P e size/\th P e (0+xs.length)/\d<st.n/\look d st.h=none/\jjf { st with o:=delo i st.o } d e size 0 [] xs K
    |_=>False
   |_,_=>False
  |none=>False
  else False
 |_,_,_=>False
def appO(P:Program)(op:Oper)(c:Go.Call)(st:St)(K:St->Prop):Prop:=appK P op c st K\/appL P op c st K\/appR P op c st K
theorem jaw{P:Program}{op:Oper}{c:Go.Call}{st:St}{K:St->Prop}(h:appK P op c st K):appO P op c st K:=.inl h
theorem qdt{P:Program}{op:Oper}{c:Go.Call}{st:St}{K:St->Prop}(h:appL P op c st K):appO P op c st K:=.inr (.inl h)
theorem sw{P:Program}{op:Oper}{c:Go.Call}{st:St}{K:St->Prop}(h:appR P op c st K):appO P op c st K:=.inr (.inr h)
theorem qym{P:Program}{op:Oper}{c:Go.Call}{st:St}{K:St->Prop}(h:appO P op c st K):appK P op c st K\/appL P op c st K\/appR P op c st K:=h
def appC(P:Program)(op:Oper)(c:Go.Call)(st:St)(K:St->Prop):Prop:=appK P op c st K\/appL P op c st K
theorem jax{P:Program}{op:Oper}{c:Go.Call}{st:St}{K:St->Prop}(h:appK P op c st K):appC P op c st K:=.inl h
attribute [irreducible] appO appC appK appL appR
def jcl(P:Program)(op:Oper)(c:Go.Call)(st:St)(K:St->Prop):Prop:=
 match c.args.toList,c.argTypes.toList,op.dst with
 |[x],[t],none=>match slV P t,opv st.σ x with
  |some (_,size),some (.v (.slice s []))=>s=size/\K st
  |some (e,size),some (.s id off n s)=>match look id st.h,lb P e with
   |some (.var cs nm kk),some zs=>s=size/\zs.length=size/\off+n*size<=cs.length/\K { st with h:=seth id (.var (cs.take off) nm kk) st.h,o:=dh id st.o }
   |_,_=>False
  |_,_=>False
 |_,_,_=>False
def mq(k v:V):List (V×V)->Option (List (V×V))
 |[]=>some [(k,v)]
 |(k',v')::r=>match jk k k' with
  |some true=>some ((k,v)::r)
  |some false=>(mq k v r).map ((k',v') :: ·)
  |none=>none
def frzB:Blk->Blk
 |.var cs none _=>.con cs
 |b=>b
def frz1(id:Nat):List (Nat×Blk)->List (Nat×Blk)
 |[]=>[]
 |(j,b)::r=>if id=j then(j,frzB b)::r else(j,b)::frz1 id r
def frzC(σ:Sto):List Operand->List (Nat×Blk)->List (Nat×Blk)
 |[],h=>h
 |x::r,h=>frzC σ r (match opv σ x with|some (.p id _)=>frz1 id h|_=>h)
def frzR(σ:Sto):List Oper->List (Nat×Blk)->List (Nat×Blk)
 |[],h=>h
 |o::r,h=>frzR σ r (match o.op with|.makeFunc _ _ cap=>frzC σ cap.toList h|_=>h)
def nilK(P:Program)(op:Oper)(o:BinOp)(t:TypeId)(st:St)(K:St->Prop):Prop:=
 match o with
 |.eql=>(slV P t).isSome=true/\∀b:Bool,putK st op.dst (.v (.val (.bool b))) K
 |.neq=>(slV P t).isSome=true/\∀b:Bool,putK st op.dst (.v (.val (.bool b))) K
 |_=>False
def dm(l:List UInt8):List V:=l.map fun b=>.val (.int .u8 b.toNat)
theorem jh5(l:List UInt8):(dm l).length=l.length:=by unfold dm;rw[vm]
def byL:List V->Option (List UInt8)
 |[]=>some []
 |.val (.int .u8 n)::r=>(byL r).map (UInt8.ofNat n.toNat :: ·)
 |_=>none
def bytB(h:List (Nat×Blk)):Option TV->Option (List V)
 |some (.v (.slice 1 es))=>some es.flatten
 |some (.v (.val (.slice none 0 0)))=>some []
 |some (.v (.val (.slice (some ⟨r,0,none⟩) n _)))=>match dj r h with
  |some id=>match look id h with
   |some (.var cs _ _)=>if n<=cs.length then some (cs.take n) else none
   |_=>none
  |none=>none
 |some (.s id off n 1)=>match look id h with
  |some (.var cs _ _)=>if off+n<=cs.length then some ((cs.drop off).take n) else none
  |_=>none
 |_=>none
def bytK(st:St)(d:Nat)(e:TypeId)(l:List UInt8)(K:St->Prop):Prop:=
 ∀r cap,(∀id k q,look id st.h=some k->k.nm=some q->q≠r)->l.length<=cap->cap<=maxLen->
  K { st with t:=(d,.v (.val (.slice (some ⟨r,0,none⟩) l.length cap)))::st.t,h:=(d,.var (dm l) (some r) (some (e,1,cap)))::st.h,o:=remo d st.o }
def jd7(P:Program)(op:Oper)(src t:TypeId)(x:Operand)(st:St)(K:St->Prop):Prop:=
 match slV P t with
 |some (e,size)=>match vOf (opv st.σ x),op.dst with
  |some (.str l),some d=>intK P e=some .u8/\size=1/\(P.underlying src).isSome=true/\l.length<=1073741824/\d<st.n/\look d st.h=none/\bytK st d e l K
  |_,_=>False
 |none=>match slV P src with
  |some (e,_)=>match bytB st.h (opv st.σ x),op.dst with
   |some cs,some d=>match byL cs with
    |some l=>intK P e=some .u8/\strB P t=true/\d<st.n/\K { st with t:=(d,.v (.str l))::st.t,o:=remo d st.o }
    |none=>False
   |_,_=>False
  |none=>evK P op st K
def mkK(P:Program)(op:Oper)(t:TypeId)(l c:Operand)(st:St)(K:St->Prop):Prop:=
 match slV P t,vOf (opv st.σ l),vOf (opv st.σ c),op.dst with
 |some (e,size),some (.val (.int _ n)),some (.val (.int _ m)),some d=>match lb P e with
  | some [z]=>size=1/\0<=n/\n<=m/\th P e m.toNat/\d<st.n/\look d st.h=none/\∀r,(∀id k q,look id st.h=some k->k.nm=some q->q≠r)->
    K { st with t:=(d,.v (.val (.slice (some ⟨r,0,none⟩) n.toNat m.toNat)))::st.t,h:=(d,.var (List.replicate m.toNat z) (some r) (some (e,1,m.toNat)))::st.h,o:=remo d st.o }
  |_=>False
 |_,_,_,_=>False
theorem sf{d:Nat}: unT d []=[]:=rfl
theorem sx{d j:Nat}{x:V}{r:List (Nat×TV)}: unT d ((j,.v x)::r)=(j,.v x)::unT d r:=rfl
theorem jry{d j:Nat}{r:List (Nat×TV)}: unT d ((j,.u)::r)=(j,.u)::unT d r:=rfl
theorem sy{d j id off:Nat}{r:List (Nat×TV)}: unT d ((j,.p id off)::r)=if id=d then remj j (unT d r) else(j,.p id off)::unT d r:=by simp[unT,tvOn]
theorem js0{d j id:Nat}{r:List (Nat×TV)}: unT d ((j,.m id)::r)=if id=d then remj j (unT d r) else(j,.m id)::unT d r:=by simp[unT,tvOn]
theorem jrz{d j id off n z:Nat}{r:List (Nat×TV)}: unT d ((j,.s id off n z)::r)=if id=d then remj j (unT d r) else(j,.s id off n z)::unT d r:=by simp[unT,tvOn]
theorem jmx{j:Nat}: remj j []=[]:=rfl
theorem je5{j i:Nat}{tv:TV}{r:List (Nat×TV)}: remj j ((i,tv)::r)=if i=j then remj j r else(i,tv)::remj j r:=rfl
theorem sg{d:Nat}: unH d []=[]:=rfl
theorem jr{d j:Nat}{b:Blk}{r:List (Nat×Blk)}: unH d ((j,b)::r)=if j=d then unH d r else(j,b)::unH d r:=rfl
theorem jlm{j i:Nat}{tv:TV}: ∀ {l:List (Nat×TV)},look i (remj j l)=some tv->i≠j/\look i l=some tv
 |[],h=>by cases h
 |(k,x)::r,h=>by
  rw[je5] at h;split at h
  .rename_i hk;obtain⟨h1,h2⟩:=jlm h;exact⟨h1,by rw[ae,vd omq];exact h2⟩
  rename_i hk;rw[ae] at h ⊢;split at h
  .rename_i hi;exact⟨omq,by rw[ve hi];exact h⟩
  rename_i hi;obtain⟨h1,h2⟩:=jlm h;exact⟨h1,by rw[vd hi];exact h2⟩
theorem jhs{d i:Nat}{tv:TV}: ∀ {l:List (Nat×TV)},look i (unT d l)=some tv->look i l=some tv/\tvOn d tv=false
 |[],h=>by cases h
 |(k,x)::r,h=>by
  simp only[unT] at h;split at h
  .obtain⟨h1,h2⟩:=jlm h;obtain⟨h3,h4⟩:=jhs h2;exact⟨by rw[ae,vd omq];exact h3,h4⟩
  rename_i hx;rw[ae] at h ⊢;split at h
  .rename_i hi;cases h;exact⟨by rw[ve hi],by simpa using hx⟩
  rename_i hi;obtain⟨h1,h2⟩:=jhs h;exact⟨by rw[vd hi];exact h1,h2⟩
theorem jq{d i:Nat}: ∀ {l:List (Nat×Blk)},look i (unH d l)=if i=d then none else look i l
 |[]=>by simp[unH,look]
 |(k,x)::r=>by
  rw[jr];split
  .rename_i hk;rw[jq];split
   .rfl
   rw[ae,vd omq]
  rename_i hk;rw[ae,ae];split
  .rw[vd omq]
  exact jq
def dp(P:Program)(T:Lay)(op:Oper)(st:St)(K:St->Prop):Prop:=
 match op.op with
 |.buildSlice t n parts=>if n=0 then match slV P t with
  |some (e,size)=>parts.size=0/\retK st op.dst K (.slice size []) (some e)
  |none=>False
  else evK P op st K
 |.makeFunc _ _ cap=>evK P op { st with h:=frzC st.σ cap.toList st.h } K
 |.move x=>movK st x op.dst K
 |.assign x=>movK st x op.dst K
 |.box _ x=>match op.dst,vN st.h (opv st.σ x) with
  |some d,some v=>oneV v=true/\look d st.h=none/\d<st.n/\K { st with t:=(d,.p d 0)::st.t,h:=(d,.var v.cells)::st.h,o:=remo d st.o }
  |_,_=>False
 |.alloc e=>match op.dst,lb P e with
  |some d,some zs=>match look d st.h with
   |none=>d<st.n/\K { st with t:=(d,.p d 0)::st.t,h:=(d,.var zs)::st.h,o:=remo d st.o }
   |some _=>d<st.n/\K { st with t:=(d,.p d 0)::unT d st.t,h:=(d,.var zs)::unH d st.h,o:=remo d (dh d st.o) }
  |_,_=>False
 |.store t a x=>match opv st.σ a,vN st.h (opv st.σ x) with
  |some (.p id off),some v=>match look id st.h with
   | some (.var cs nm kk)=>oneV v=true/\v.cells.length=P.cellsOf t/\(P.info? t).isSome=true/\off+v.cells.length<=cs.length/\op.dst=none/\
     K { st with h:=seth id (.var (ba cs off v.cells) nm kk) st.h,o:=stO id off v.cells.length x st.o }
   |_=>False
  |_,_=>False
 |.load t x=>ldK P op t x st K
 |.convert src t x=>jd7 P op src t x st K
 |.makeSlice t l c=>mkK P op t l c st K
 |.makeMap _ none=>match op.dst with
  |some d=>look d st.h=none/\d<st.n/\K { st with t:=(d,.m d)::st.t,h:=(d,.map [])::st.h,o:=remo d st.o }
  |none=>False
 |.range t x=>match op.dst,mref st.h (opv st.σ x) with
  |some d,some id=>match look id st.h with
   |some (.map es _)=>(rb P t).isSome=true/\look d st.h=none/\d<st.n/\K { st with t:=(d,.p d 0)::st.t,h:=(d,.itr es none)::seth id (.con []) st.h,o:=remo d st.o }
   |_=>False
  |_,_=>False
 |.next x s=>match op.dst,opv st.σ x with
  |some d,some (.p id 0)=>match look id st.h with
   | some (.itr es _ nm)=>s=false/\d<st.n/\(es=[]->K { st with t:=(d,.v (.tup [.val (.bool false)]))::st.t,o:=remo d st.o })/\
     ∀(i:Nat) k v,es[i]?=some (k,v)->K { st with t:=(d,.v (.tup [.val (.bool true),k,v]))::st.t,h:=seth id (.itr (es.eraseIdx i) (some (k,v)) nm) st.h,o:=remo d st.o }
   |_=>False
  |_,_=>False
 |.entry x=>match op.dst,opv st.σ x with
  |some d,some (.p id 0)=>match look id st.h with
   |some (.itr _ (some (k,v)) _)=>d<st.n/\K { st with t:=(d,.v (.tup [k,v]))::st.t,o:=remo d st.o }
   |_=>False
  |_,_=>False
 |.mapUpdate t m k x=>match rb P t,mref st.h (opv st.σ m),vOf (opv st.σ k),vOf (opv st.σ x) with
  |some (kt,_),some id,some k,some v=>match look id st.h with
   |some (.map es nm)=>match mq k v es with
    |some es'=>keyT P kt k=true/\op.dst=none/\K { st with h:=seth id (.map es' nm) st.h }
    |none=>False
   |_=>False
  |_,_,_,_=>False
 |.insert t m k x=>match rb P t,mref st.h (opv st.σ m),vOf (opv st.σ k),vOf (opv st.σ x) with
  |some (kt,_),some id,some k,some v=>match look id st.h with
   |some (.map es nm)=>match mq k v es with
    |some es'=>keyT P kt k=true/\op.dst=none/\K { st with h:=seth id (.map es' nm) st.h }
    |none=>False
   |_=>False
  |_,_,_,_=>False
 |.call c=>match c.callee with
  |.value f=>match vOf (opv st.σ f),vsOf (opv st.σ) c.args.toList with
   |some (.func g cap),some vs=>Call P T g (vs++cap) (retK st op.dst K) (newK st op.dst K) (CallX P T g vs cap st op.dst K)
   |some (.func g cap),none=>match jg (opv st.σ) c.args.toList with
    |some tvs=>tg P T g tvs cap st (retM op.dst K)
    |none=>False
   |_,_=>False
  |.builtin .append=>appO P op c st K
  |.builtin .clear=>jcl P op c st K
  |_=>evK P op st K
 |.binOp o t x y _=>match vOf (opv st.σ x),vOf (opv st.σ y) with
  |some (.slice _ []),some (.val (.slice none 0 0))=>nilK P op o t st K
  |_,_=>evK P op st K
 |_=>evK P op st K
variable {M : Nat -> Prop}{F0 F : Frz}{w0 w : World}{ρ : Nat -> Nat}{n : Nat}{σ : Sto}{h : List (Nat × Blk)}{o o' : List (TypeId × List Nat)}{a : Act}
def mz(P:Program)(T:Lay)(op:Oper)(st:St)(K:St->Prop):Prop:=
 match op.op with
 |.buildSlice t n _=>if n=0 then dp P T op st K else match slV P t,evb P (opv st.σ) op.op with
  |some (e,_),some v=>retK st op.dst K v (some e)
  |_,_=>False
 |_=>dp P T op st K
theorem Sim.weako(S:Sim P T M F0 w0 F ρ n σ h o a w)(f:Nat->Nat)(hf:∀(j:Nat) e c,o'[j]?=some (e,c)->∃c0,o[f j]?=some (e,c0)/\∀i∈c,i∈c0) 
    (hi:∀(j j':Nat) e c e' c' i i',o'[j]?=some (e,c)->o'[j']?=some (e',c')->i∈c->i'∈c'->f j=f j'->j=j'):Sim P T M F0 w0 F ρ n σ h o' a w:=
  { S with
    ow:=fun j e c hj=>by
      obtain⟨c0,h1,h2⟩:=hf j e c hj;obtain⟨v,h3,h4⟩:=S.ow _ e c0 h1;exact⟨v,fun i hic=>h3 i (h2 i hic),h4⟩
    od:=fun j j' e c e' c' hne hj hj' i hic i' hic' v v' g e1 e2=>by
      obtain⟨c0,h1,h2⟩:=hf j e c hj;obtain⟨c0',h1',h2'⟩:=hf j' e' c' hj';exact S.od _ _ e c0 e' c0' (fun heq=>hne (hi j j' e c e' c' i i' hj hj' hic hic' heq)) h1 h1' i (h2 i hic) i' (h2' i' hic') v v' g e1 e2
    oc:=fun j e c hj i hic hge=>by
      obtain⟨c0,h1,h2⟩:=hf j e c hj
      exact S.oc _ e c0 h1 i (h2 i hic) hge }
theorem Sim.remo(S:Sim P T M F0 w0 F ρ n σ h o a w)(d:Nat):Sim P T M F0 w0 F ρ n σ h (remo d o) a w:=
 S.weako id (fun j e c hj=>by
  simp only[Go.Ab.remo,xe,msi] at hj;obtain⟨⟨e',c'⟩,h1,h2⟩:=hj;simp only[xo] at h2;obtain⟨rfl,rfl⟩:=h2
  exact⟨c',h1,fun i hic=>(xb7.1 hic).1⟩) (fun _ _ _ _ _ _ _ _ _ _ _ _ e=>e)
theorem jmw{d:Nat}{o:List (TypeId×List Nat)}(j:Nat)(e:TypeId)(c:List Nat)(hj:(Go.Ab.remo d o)[j]?=some (e,c)):d ∉ c:=by
 simp only[Go.Ab.remo,xe,msi] at hj;obtain⟨⟨e',c'⟩,h1,h2⟩:=hj;simp only[xo] at h2;obtain⟨rfl,rfl⟩:=h2;intro hd;have:=(xb7.1 hd).2;simp at this
theorem Sim.delo(S:Sim P T M F0 w0 F ρ n σ h o a w)(i:Nat):Sim P T M F0 w0 F ρ n σ h (delo i o) a w:=
 S.weako id (fun j e c hj=>by
  simp only[Go.Ab.delo,xe,msi] at hj;obtain⟨⟨e',c'⟩,h1,h2⟩:=hj;split at h2
  .simp only[xo] at h2;obtain⟨rfl,rfl⟩:=h2;exact⟨c',h1,smq⟩
  .simp only[xo] at h2;obtain⟨rfl,rfl⟩:=h2
   exact⟨_,h1,fun _ hx=>hx⟩) (fun _ _ _ _ _ _ _ _ _ _ _ _ e=>e)
theorem Sim.putr(S:Sim P T M F0 w0 F ρ n σ h o a w){d:Tmp}{tv:TV}{x:Value}(hr:RepT F ρ tv x)(hw:wfT h tv)(hd:d<n):
  Sim P T M F0 w0 F ρ n (upd σ (some d) tv) h (Go.Ab.remo d o) (a.put (some d) x) w:=
 (S.remo d).put hr hw (fun d' e=>by cases e;exact⟨hd,fun j e c hj=>jmw j e c hj⟩)
theorem σ_cons(s:St)(d:Tmp)(tv:TV)(h:List (Nat×Blk))(o:List (TypeId×List Nat)):(St.mk s.n ((d,tv)::s.t) h o).σ=upd s.σ (some d) tv:=by
 funext i
 simp only[St.σ,upd,ae]
theorem Sim.addo(S:Sim P T M F0 w0 F ρ n σ h o a w){i d:Nat}(hv:∀(j:Nat) e c,o[j]?=some (e,c)->i∈c->held a w ρ d=held a w ρ i)(hc:1000000000<=d->look (pid d) h≠none):
    Sim P T M F0 w0 F ρ n σ h (addo i d o) a w:=by
  have hget:∀(j:Nat) e c,(Go.Ab.addo i d o)[j]?=some (e,c)->∃c0,o[j]?=some (e,c0)/\(c=c0\/(i∈c0/\c=d::c0)):=fun j e c hj=>by
    simp only[Go.Ab.addo,xe,msi] at hj;obtain⟨⟨e',c'⟩,h1,h2⟩:=hj;split at h2
    . rename_i hc;simp only[xo] at h2;obtain⟨rfl,rfl⟩:=h2;exact⟨c',h1,.inr ⟨by simpa using hc,rfl⟩⟩
    simp only[xo] at h2;obtain⟨rfl,rfl⟩:=h2;exact⟨_,h1,.inl rfl⟩
  have hold:∀(j:Nat) e c,(Go.Ab.addo i d o)[j]?=some (e,c)->∃c0,o[j]?=some (e,c0)/\∀k∈c,∃k'∈c0,held a w ρ k=held a w ρ k':=fun j e c hj=>by
    obtain⟨c0,h1,h2⟩:=hget j e c hj;refine⟨c0,h1,fun k hk=>?_⟩;rcases h2 with rfl|⟨hic,rfl⟩
    . exact⟨k,hk,rfl⟩
    rcases vt.1 hk with rfl|hk
    . exact⟨i,hic,hv j e c0 h1 hic⟩
    exact⟨k,hk,rfl⟩
  exact { S with
    ow:=fun j e c hj=>by
      obtain⟨c0,h1,h2⟩:=hold j e c hj;obtain⟨v,h3,h4⟩:=S.ow _ e c0 h1;exact⟨v,fun k hk=>by obtain⟨k',hk',e'⟩:=h2 k hk;rw[e'];exact h3 k' hk',h4⟩
    od:=fun j j' e c e' c' hne hj hj' k hk k' hk' v v' g e1 e2=>by
      obtain⟨c0,h1,h2⟩:=hold j e c hj;obtain⟨c0',h1',h2'⟩:=hold j' e' c' hj';obtain⟨m,hm,em⟩:=h2 k hk;obtain⟨m',hm',em'⟩:=h2' k' hk';exact S.od j j' e c0 e' c0' hne h1 h1' m hm m' hm' v v' g (em▸e1) (em'▸e2)
    oc:=fun j e c hj k hk hge=>by
      obtain⟨c0,h1,h2⟩:=hget j e c hj;rcases h2 with rfl|⟨_,rfl⟩
      . exact S.oc j e c h1 k hk hge
      rcases vt.1 hk with rfl|hk
      . exact hc hge
      exact S.oc j e c0 h1 k hk hge }
end Go.Ab
namespace Go.Ab
open Go.RowKit
variable {P : Program}{T : Lay}(w : World)
theorem jms(P:Program)(g:Nat)(t:TypeId)(fz:Nat×Nat)(o:Nat)(vs:List Value):∀(k:Nat) (cur:Array Value) (w:World),w.heap[g]?=some (.cells cur t fz)->FzT cur.size fz->o+k+vs.length<=cur.size->(∀v∈vs,v.oneCell'=true)->
  (storeCells ⟨g,o,none⟩ vs k).run P w=.ok () (w.setRow g (cur.toList.take (o+k)++vs++cur.toList.drop (o+k+vs.length)).toArray):=by
 induction vs with
 |nil=>
  intro k cur w hg _ _ _;rw[xd,List.length_nil,Nat.add_zero,xc2,Array.toArray_toList,setRow_self w g cur t fz hg];rfl
 |cons v vs ih=>
  intro k cur w hg hf hl h1;have hk:o+k<cur.size:=by rw[List.length_cons] at hl;omega
  have ha:(⟨g,o,none⟩:Addr).add k=⟨g,o+k,none⟩:=eu g o k;have hc:w.cell? ⟨g,o+k,none⟩=some cur[o+k]:=by rw[cell_of_row w g (o+k) cur t fz hg];exact xu hk
  have hn:w.frozen? ⟨g,o+k,none⟩=false:=by
   obtain⟨lo,hi⟩:=fz;have:=hf.at hk;simpa [World.frozen?,hg] using this
  have h0:(store ((⟨g,o,none⟩:Addr).add k) v).run P w=.ok () (w.setRow g (cur.setIfInBounds (o+k) v)):=by
   rw[ha,run_store P w _ v _ (h1 v yo),hc];simp[hn,setCell_eq_setRow w g (o+k) cur t fz v hg]
  have:=ih (k+1) (cur.setIfInBounds (o+k) v) (w.setRow g (cur.setIfInBounds (o+k) v)) (setRow_heap w g cur _ t _ hg) (by rw[Array.size_setIfInBounds];exact hf) (by rw[Array.size_setIfInBounds];rw[List.length_cons] at hl;omega) (fun x hx=>h1 x (ym _ hx));have hlen:o+k<cur.toList.length:=by rw[Array.length_toList];exact hk
  have e1:(cur.toList.set (o+k) v).take (o+(k+1))=cur.toList.take (o+k)++[v]:=by
   rw[show o+(k+1)=o+k+1 by omega,List.take_add_one,List.take_set_of_le (vo _),xdc hlen];rfl
  have e2:(cur.toList.set (o+k) v).drop (o+(k+1)+vs.length)=cur.toList.drop (o+(k+1)+vs.length):=List.drop_set_of_lt omq;simp only[storeCells,Sem.run_bind,h0,Result.andThen_ok,this,setRow_setRow,Array.toList_setIfInBounds,e1,e2,xb,List.singleton_append,List.length_cons];rw[show o+(k+1)+vs.length=o+k+(vs.length+1) by omega]
theorem qg7(base:Nat)(t ty e:TypeId)(i:TypeInfo)(size:Nat)(ht:P.underlying t=some (.slice e))(hi:P.info? e=some i) 
  (v:Value) (n:Nat) (xs:List Value) (hown:co w base e size v n xs):(Builtin.append_ #[t,t] ty #[v,.slice none 0 0]).run P w=.ok v w:=by
 rcases hown.2 with⟨rfl,rfl⟩|⟨g,cap,cur,rfl,_,_,hnc,_⟩
 .simp only[Builtin.append_,sizeOf,typeInfo,Builtin.lenOf,Builtin.firstCells];simp[hi,run_underlying ht]
 simp only[Builtin.append_,sizeOf,typeInfo,Builtin.lenOf,Builtin.firstCells];simp[hi,run_underlying ht,hnc,storeCells]
theorem qg6(t ty e:TypeId)(i:TypeInfo)(ht:P.underlying t=some (.slice e))(hi:P.info? e=some i) 
  (g n cap:Nat) (cur:Array Value) (fz:Nat×Nat) (hf:FzT cur.size fz) (hg:w.heap[g]?=some (.cells cur e fz))
  (a:Addr) (m c:Nat) (news:List Value) (hl:news.length=m*i.size) (hnews:∀j u,news[j]?=some u->w.cell? (a.add j)=some u) (h1:∀u∈news,u.oneCell'=true)
  (hroom:n+m<=cap) (hfit:n*i.size+news.length<=cur.size):
  (Builtin.append_ #[t,t] ty #[.slice (some ⟨g,0,none⟩) n cap,.slice (some a) m c]).run P w=
   .ok (.slice (some ⟨g,0,none⟩) (n+m) cap) (w.setRow g (cur.toList.take (n*i.size)++news++cur.toList.drop (n*i.size+news.length)).toArray):=by
 have hst:=jms P g e fz (n*i.size) news 0 cur w hg hf (by simpa using hfit) h1;have hfc:=run_firstCells_some (P:=P) w i.size m a m c news hl hnews;rw[Nat.add_zero] at hst;simp[Builtin.append_,run_underlying ht,sizeOf,typeInfo,hi,Builtin.lenOf,hroom,hfc,Addr.add_lit,hst]
theorem jjw(base:Nat)(t ty e:TypeId)(i:TypeInfo)(z:Value)(size bytes:Nat)(ht:P.underlying t=some (.slice e))(hi:P.info? e=some i)(hz:i.zero=some z) 
  (hsize:i.size=size) (hby:i.bytes=bytes) (hzs:z.cells.size=size) (hsz:0<size)
  (v:Value) (n:Nat) (xs:List Value) (hown:co w base e size v n xs)
  (x:Value) (m:Nat) (news:List Value) (hl:news.length=m*size)
  (hx:(x=.slice none 0 0/\m=0)\/∃a c,x=.slice (some a) m c/\∀j u,news[j]?=some u->w.cell? (a.add j)=some u) (h1:∀u∈news,u.oneCell'=true)
  (h63:n+m<=maxLen) (hbytes:(n+m)*bytes<=140737488355328) (hbase:base<=w.heap.size):
  ∃v' w',(Builtin.append_ #[t,t] ty #[v,x]).run P w=.ok v' w'/\co w' base e size v' (n+m) (xs++news)/\
   ((v'.ownBlock=v.ownBlock/\w.grownBy w' v.ownBlock)\/(v'.ownBlock=some w.heap.size/\w.grownBy w' none)):=by
 rcases hx with⟨rfl,rfl⟩|⟨a,c,rfl,hnews⟩
 .have hn:news=[]:=yg ze3;subst hn;exact⟨v,w,qg7 (P:=P) w base t ty e i size ht hi v n xs hown,by simpa using hown,.inl ⟨rfl,⟨rfl,rfl,rfl,vo _,fun _ _ _=>rfl⟩⟩⟩
 subst hsize;subst hby;have hsmall:n+m<=9223372036854775807:=by simp only[maxLen] at h63;omega
 have hlen:(xs++news).length=(n+m)*i.size:=by rw[vr,hown.1,hl,yy]
 have grown:∀(old:Nat),old<n+m->
   co (w.drew.alloc (.cells (xs.toArray++news.toArray++Builtin.zeroCells z.cells (grownCap w (n+m) old e-(n+m))) e)) base e i.size
    (.slice (some ⟨w.heap.size,0,none⟩) (n+m) (grownCap w (n+m) old e)) (n+m) (xs++news)/\
   w.grownBy (w.drew.alloc (.cells (xs.toArray++news.toArray++Builtin.zeroCells z.cells (grownCap w (n+m) old e-(n+m))) e)) none:=by
  intro old ho;have hge:=grownCap_ge w (n+m) old e;have hcm:grownCap w (n+m) old e<=maxLen:=grownCap_le_maxLen w (n+m) old e h63;refine⟨⟨hlen,.inr ⟨w.heap.size,_,_,rfl,hbase,⟨(0,0),.inl rfl,heap_alloc_new w.drew _⟩,hge,hcm,?_,?_⟩⟩,⟨rfl,rfl,rfl,smq,fun k hk _=>Below.heap_alloc w.drew _ k hk⟩⟩
  .simp only[Array.size_append,xbt,size_zeroCells,hzs,hown.1,hl,<- yy];congr 1;omega
  simp only[Array.toList_append,xb];rw[<- xb,<- hlen];exact List.take_left
 rcases hown.2 with⟨rfl,rfl⟩|⟨g,cap,cur,rfl,hbg,⟨fz,hfz,hg⟩,hnc,hcm,hcs,htake⟩
 .have hx:xs=[]:=yg (by simpa using hown.1);subst hx;by_cases hm:m=0
  .subst hm;have hn:news=[]:=yg ze3;subst hn;refine⟨.slice none 0 0,w,?_,co.nil w base e i.size,.inl ⟨rfl,⟨rfl,rfl,rfl,vo _,fun _ _ _=>rfl⟩⟩⟩;simp[Builtin.append_,run_underlying ht,sizeOf,typeInfo,hi,Builtin.lenOf,Builtin.firstCells,loadCells,loadCellsFrom]
  have hr:=run_append_nil (P:=P) w t ty e i z ht hi hz a m c news hl hnews omq omq (by have hb:=hbytes;simp only[xl] at hb;omega);have hgr:=grown 0 omq;simp only[xl,List.nil_append,Array.empty_append] at hgr ⊢;exact⟨_,_,hr,hgr.1,.inr ⟨rfl,hgr.2⟩⟩
 by_cases hroom:n+m<=cap
 .have hfit:n*i.size+news.length<=cur.size:=by rw[hl,hcs,<- yy];exact xb2 _ hroom
  have hr:=qg6 (P:=P) w t ty e i ht hi g n cap cur fz hfz hg a m c news hl hnews h1 hroom hfit;refine⟨_,_,hr,⟨hlen,.inr ⟨g,cap,_,rfl,hbg,⟨fz,?_,setRow_heap w g cur _ e _ hg⟩,hroom,hcm,?_,?_⟩⟩,.inl ⟨rfl,⟨rfl,rfl,rfl,smq,fun k _ hk=>setRow_other w g k _ (fun e=>hk (by simp[Value.ownBlock,e]))⟩⟩⟩
  .have:(cur.toList.take (n*i.size)++news++cur.toList.drop (n*i.size+news.length)).toArray.size=cur.size:=by
    exact zx
   rw[this];exact hfz
  .exact zx
  rw[htake,<- hlen];exact List.take_left
 have holds:∀j u,xs[j]?=some u->w.cell? ((⟨g,0,none⟩:Addr).add j)=some u:=hown.cells (g:=g) rfl;have hr:=run_append_grow (P:=P) w t ty e i z ht hi hz ⟨g,0,none⟩ n cap xs hown.1 holds a m c news hl hnews omq omq (growslice_fits omq hbytes);have hgr:=grown cap omq;exact⟨_,_,hr,hgr.1,.inr ⟨rfl,hgr.2⟩⟩
theorem qmd{w:World}{p:Addr}{v:Value}(h:w.cell? p=some v):p.spot=none:=by
 unfold World.cell? at h;split at h
 .split at h
  .cases h
  rename_i hs;simpa using hs
 cases h
def rowF(F:Frz)(g len:Nat)(xs:List Value):Frz:= { c:=fun p=>if p.block=g/\p.spot=none/\p.off<len then xs[p.off]? else F p,m:=F.m }
theorem jhv(F:Frz)(g len:Nat)(xs:List Value)(p:Addr):rowF F g len xs p=if p.block=g/\p.spot=none/\p.off<len then xs[p.off]? else F p:=rfl
variable {w : World}{M : Nat -> Prop}{F0 F : Frz}{w0 : World}{ρ : Nat -> Nat}{n : Nat}{σ : Sto}{h : List (Nat × Blk)}{o : List (TypeId × List Nat)}{a : Act}
theorem Sim.grow(S:Sim P T M F0 w0 F ρ n σ h o a w){e:TypeId}{size m k:Nat}{v v':Value}{xs news:List Value}{w':World} 
    (hv:co w 0 e size v m xs) (hM:∀g,v.ownBlock=some g->M g) (hF:∀g,v.ownBlock=some g->∀p u,F p=some u->p.block=g->p.off<m*size)
    (hloc:∀id b,look id h=some b->v.ownBlock≠some (ρ id))
    (hoth:∀(j:Nat) e c,o[j]?=some (e,c)->∀i∈c,∀u g,held a w ρ i=some u->v.ownBlock=some g->u.ownBlock≠some g)
    (hown:co w' 0 e size v' (m+k) (xs++news)) (hat:(v'.ownBlock=v.ownBlock/\w.grownBy w' v.ownBlock)\/(v'.ownBlock=some w.heap.size/\w.grownBy w' none)):
    ∃F',Le F F'/\Sim P T M F0 w0 F' ρ n σ h o a w'/\Own F' w' M e size v'/\(∀id b,look id h=some b->v'.ownBlock≠some (ρ id))/\
      (∀(j:Nat) e c,o[j]?=some (e,c)->∀i∈c,∀u g,held a w' ρ i=some u->v'.ownBlock=some g->u.ownBlock≠some g)/\
      ∀g,v'.ownBlock=some g->∀j u,(xs++news)[j]?=some u->F' ⟨g,j,none⟩=some u:=by
  have hlen:(xs++news).length=(m+k)*size:=hown.1
  have hg:w.grownBy w' v.ownBlock:=by
    rcases hat with⟨_,hg⟩|⟨_,hg⟩
    . exact hg
    exact⟨hg.os,hg.tape,hg.output,hg.size,fun q hq _=>hg.block q hq smq⟩
  have hlt:=hv.lt;have hlt':=hown.lt
  have hcells:∀g,v'.ownBlock=some g->∀j u,(xs++news)[j]?=some u->w'.cell? ⟨g,j,none⟩=some u:=fun g hg' j u hu=>by
    have:=hown.cells hg' j u hu
    rwa [eu,xl] at this
  have hblk:∀q,q<w.heap.size->v.ownBlock≠some q->w'.heap[q]?=w.heap[q]? := fun q hq hne=>hg.block q hq (fun e'=>hne e'.symm);have hh:=og S (w':=w') (fun g hg ⟨id,k,hk,e⟩=>hblk g hg (by rw[e];exact hloc id k hk))
  have hsee:∀p u,F p=some u->w'.cell? p=some u/\∀g,v'.ownBlock=some g->p.block=g->(p.off<(m+k)*size/\(xs++news)[p.off]?=some u):=fun p u hp=>by
    have hc:=S.sees p u hp;have hs:=qmd hc;have hb:=uf hc;by_cases hrow:v.ownBlock=some p.block
    . have hoff:=hF _ hrow p u hp rfl
      have hxs:xs[p.off]?=some u:=by
        have hl:p.off<xs.length:=by rw[hv.1];exact hoff
        have:=hv.cells hrow p.off xs[p.off] (gge hl);rw[eu,xl] at this;have hp':(⟨p.block,p.off,none⟩:Addr)=p:=by cases p;simp only at hs;subst hs;rfl
        rw[hp',hc] at this;rw[gge hl];exact this.symm
      have hxn:(xs++news)[p.off]?=some u:=by rw[xp (by rw[hv.1];exact hoff)];exact hxs
      have hbig:p.off<(m+k)*size:=by rw[yy];omega
      rcases hat with⟨he,_⟩|⟨he,hg0⟩
      . refine⟨?_,fun g hg' hpg=>⟨hbig,hxn⟩⟩;have:=hcells p.block (he.trans hrow) p.off u hxn;have hp':(⟨p.block,p.off,none⟩:Addr)=p:=by cases p;simp only at hs;subst hs;rfl
        rwa [hp'] at this
      refine⟨by rw[World.cell?_of_block (w:=w) (hg0.block p.block hb smq)];exact hc,fun g hg' hpg=>?_⟩;exact zdk
    refine⟨by rw[World.cell?_of_block (w:=w) (hblk p.block hb hrow)];exact hc,fun g hg' hpg=>?_⟩;subst hpg;rcases hat with⟨he,_⟩|⟨he,_⟩
    . exact absurd (he.symm.trans hg') hrow
    exact zdk
  have hnew:∀g,v'.ownBlock=some g->(M g/\g<w'.heap.size)/\∀b,b<w.heap.size->v.ownBlock≠some b->g≠b:=fun g hg'=>by
    refine⟨⟨?_,(hlt' g hg').2⟩,fun b hb hne e'=>?_⟩
    . rcases hat with⟨he,_⟩|⟨he,_⟩
      . exact hM g (he.symm.trans hg')
      rw[he] at hg';have hgs:=xt hg';exact S.hM g (by rw[<- hgs];exact S.bel.size)
    subst e';rcases hat with⟨he,_⟩|⟨he,_⟩
    . exact hne (he.symm.trans hg')
    exact zdk
  let F':Frz:=match v'.ownBlock with
    |some g=>rowF F g ((m+k)*size) (xs++news)
    |none=>F
  have hFm:F'.m=F.m:=by
    simp only[F'];cases v'.ownBlock<;>rfl
  have hle:Le F F':=⟨fun p u hp=>by
    simp only[F'];cases hob:v'.ownBlock with
    |none=>exact hp
    | some g=>
      simp only[jhv];split
      . rename_i hc;exact((hsee p u hp).2 g hob hc.1).2
      exact hp,fun b xs e=>by rw[hFm];exact e⟩
  have hsees:Sees F' w':=by
    refine⟨fun p u hp=>?_,fun b ys e=>?_⟩
    rotate_left 1
    . rw[hFm] at e;obtain⟨ck,hb⟩:=S.sees.m b ys e;refine⟨ck,(hblk b (ju S.sees e) fun hrow=>?_).trans hb⟩;rcases hv.2 with⟨rfl,_⟩|⟨g,cap,cur,rfl,_,⟨fz0,_,hgg⟩,_⟩
      . simp[Value.ownBlock] at hrow
      simp only[Value.ownBlock,vk] at hrow;subst hrow;rw[hgg] at hb;cases hb
    simp only[F'] at hp;cases hob:v'.ownBlock with
    |none=>rw[hob] at hp;exact(hsee p u hp).1
    | some g=>
      rw[hob] at hp;simp only[jhv] at hp;split at hp
      . rename_i hc;have:=hcells g hob p.off u hp
        have hp':(⟨g,p.off,none⟩:Addr)=p:=by
          obtain⟨h1,h2,_⟩:=hc;cases p;simp only at h1 h2;subst h1 h2;rfl
        rwa [hp'] at this
      exact(hsee p u hp).1
  have hof:∀p u,F' p=some u->F p=some u\/v'.ownBlock=some p.block:=fun p u hp=>by
    simp only[F'] at hp;cases hob:v'.ownBlock with
    |none=>rw[hob] at hp;exact .inl hp
    | some g=>
      rw[hob] at hp;simp only[jhv] at hp;split at hp
      . rename_i hc;right;rw[hc.1]
      exact .inl hp
  have hbel:BelM M w w':=⟨hg.os,hg.tape,hg.output,hg.size,fun q hqs hq=>hblk q hqs (fun e'=>hq (hM q e'))⟩;refine⟨F',hle,?_,?_,?_,?_,?_⟩
  . refine { n:=S.n,df:=S.df.keep (fun D hd _=>hblk D (qn hd) fun hrow=>by
      rcases hv.2 with⟨rfl,_⟩|⟨g,cap,cur,rfl,_,⟨fz0,_,hgg⟩,_⟩
      . simp[Value.ownBlock] at hrow
      . simp only[Value.ownBlock,vk] at hrow;subst hrow
        rw[hgg] at hd;cases hd),sees:=hsees,lay:=S.lay,le:=S.le.trans hle,new:= ?_,newm:=fun b xs e=>S.newm b xs (by rw[<- hFm];exact e),bel:=S.bel.trans hbel,hM:=S.hM,tm:= ?_,wf:=S.wf,hp:= ?_,nn:=S.nn,z:=S.z,nb:=S.nb,inj:=S.inj,ow:= ?_,od:=S.od_of hh,oc:=S.oc }
    . intro p u hp;rcases hof p u hp with hp|hp
      . exact S.new p u hp
      exact .inr (hnew _ hp).1.1
    . intro i tv e';obtain⟨x,h1,h2⟩:=S.tm i tv e';exact⟨x,h1,h2.mono hle⟩
    . intro id b hb;obtain⟨h1,h2,h3⟩:=S.hp id b hb;refine⟨?_,h2,xao h3 hg.size⟩;have hne:=hloc id b hb;have hkeep:=hblk (ρ id) h3 hne;cases b with
      | var cs _ _=>
        obtain⟨ys,ty,e1,e2,e3,e4,e5⟩:=h1;refine⟨ys,ty,hkeep.trans e1,e2,e3,fun j c x q1 q2=>(e4 j c x q1 q2).mono hle,fun p u hp=>?_⟩;rcases hof p u hp with hp|hp
        . exact e5 p u hp
        exact(hnew _ hp).2 _ h3 hne
      | con cs=>
        obtain⟨q,e1,e2,e3⟩:=h1;exact⟨q,e1,fun j c hj=>hle _ _ (e2 j c hj),fun j c hj=>(e3 j c hj).mono hle⟩
      |itr es c _=>exact RepB.itr_mono h1 hkeep hle
      | map es _=>
        obtain⟨ys,ck,e1,e0,e2,e3⟩:=h1;exact⟨ys,ck,hkeep.trans e1,by rw[hFm];exact e0,e2,fun j k' v' x q1 q2=>⟨((e3 j k' v' x q1 q2).1).mono hle,((e3 j k' v' x q1 q2).2).mono hle⟩⟩
    intro j e' c hj;obtain⟨u,h1,⟨m',ys,h2,h3⟩,h4⟩:=S.ow j e' c hj;by_cases hemp:c=[]
    . subst hemp;exact ze
    obtain⟨i,hi⟩:=List.exists_mem_of_ne_nil c hemp;have hdis:=fun g=>hoth j e' c hj i hi u g (h1 i hi);refine⟨u,fun i hi=>by rw[hh j e' c hj i hi];exact h1 i hi,⟨m',ys,?_,fun g hg'=>⟨(h3 g hg').1,?_⟩⟩,h4⟩
    . refine h2.kept (row:=v.ownBlock) hg ?_;cases hu:u.ownBlock with
      |none=>exact .inl rfl
      | some g=>
        right;intro e'';exact hdis g e''.symm hu
    intro p x hp hpg;rcases hof p x hp with hp|hp
    . exact(h3 g hg').2 p x hp hpg
    exfalso;subst hpg;have hgl:=(h2.lt _ hg').2;exact(hnew _ hp).2 p.block hgl (fun e''=>hdis _ e'' hg') rfl
  . refine⟨m+k,xs++news,hown,fun g hg'=>⟨(hnew g hg').1.1,fun p u hp hpg=>?_⟩⟩;simp only[F'] at hp;rw[hg'] at hp;simp only[jhv] at hp;split at hp
    . rename_i hc;exact hc.2.2
    exact((hsee p u hp).2 g hg' hpg).1
  . intro id b hb e';exact(hnew _ e').2 _ (S.hp id b hb).2.2 (hloc id b hb) rfl
  . intro j e' c hj i hi u g hu hg' hug;rw[hh j e' c hj i hi] at hu;obtain⟨u',h1,⟨m',ys,h2,h3⟩,h4⟩:=S.ow j e' c hj;have:u'=u:=by have:=h1 i hi;rw[hu] at this;exact(xt this).symm
    subst this;have hgl:=(h2.lt _ hug).2;exact(hnew _ hg').2 g hgl (fun e''=>hoth j e' c hj i hi u' g hu e'' hug) rfl
  intro g hg' j u hu
  have hj:j<(m+k)*size:=by
    rw[<- hlen];exact(gsi.1 hu).1
  simp only[F'];rw[hg'];simp[rowF,hj,hu]
end Go.Ab
namespace Go.Ab
open Go.RowKit
variable {P : Program}{T : Lay}
variable {w : World}{M : Nat -> Prop}{F0 F : Frz}{w0 : World}{ρ : Nat -> Nat}{n : Nat}{σ : Sto}{h : List (Nat × Blk)}{o : List (TypeId × List Nat)}{a : Act}
variable {o:List (TypeId×List Nat)}{k:Blk}{d:Nat}{v:Value}{i:Nat}
theorem Sim.bind(S:Sim P T M F0 w0 F ρ n σ h o a w){b:Nat}(hdn:d<n)(hd:look d h=none)(hb:RepB F w b k)(h1:M b)(h2:b<w.heap.size) 
  (hloc:∀id k',look id h=some k'->ρ id≠b) (hown:∀(j:Nat) e c,o[j]?=some (e,c)->∀i∈c,∀u,held a w ρ i=some u->u.ownBlock≠some b) (hnm:∀q,k.nm=some q->b=q):
  Sim P T M F0 w0 F (fun i=>if i=d then b else ρ i) n σ ((d,k)::h) o a w:=by
 have hne:∀id k',look id h=some k'->id≠d:=fun id k' e he=>by subst he;rw[hd] at e;cases e
 have hnone:∀id,look id h≠none->look id ((d,k)::h)≠none:=fun id hi=>by
  rw[ae];split
  .simp
  exact hi
 have hh:∀(j:Nat) e c,o[j]?=some (e,c)->∀i∈c,held a w (fun i=>if i=d then b else ρ i) i=held a w ρ i:=fun j e c hj i hi=>by
  unfold held;split
  .rfl
  rename_i hge;have:pid i≠d:=fun he=>S.oc j e c hj i hi omq (by rw[he];exact hd);simp only[vd this]
 refine { S with tm:= ?_,wf:= ?_,hp:= ?_,z:= ?_,nb:= ?_,inj:= ?_,ow:= ?_,od:=S.od_of hh,oc:=fun j e c hj i hi hge=>hnone _ (S.oc j e c hj i hi hge) }
 rotate_left 3
 .intro id k' hid e;have hne':¬id=d:=by have:=S.nn;have:=S.n;omega
  rw[ae,vd hne'] at e;simp only[vd hne'];exact S.z id k' hid e
 .intro id k' q e hq;rw[ae] at e;split at e
  .rename_i he;cases e;simp only[he,xf];exact hnm q hq
  rename_i he;simp only[he,xy];exact S.nb id k' q e hq
 rotate_left 2
 .intro i tv e;obtain⟨x,e1,e2⟩:=S.tm i tv e;refine⟨x,e1,?_⟩;have hw:=S.wf i tv e;cases tv with
  |v y=>exact e2
  |p id off=>
   exact zbk
  |m id=>
   exact zbk
  |s id off m size=>
   exact zbk
  |u=>trivial
 .intro i tv e;have hw:=S.wf i tv e
  have aux:∀id,look id h≠none->look id ((d,k)::h)≠none:=fun id hi=>by
   rw[ae];split
   .simp
   exact hi
  cases tv with
  |p id off=>exact aux id hw
  |m id=>exact aux id hw
  |s id off m size=>exact aux id hw
  |v y=>trivial
  |u=>trivial
 .intro id k' e;rw[ae] at e;split at e
  .rename_i he;cases e;simp only[he,xf];exact⟨hb,h1,h2⟩
  rename_i he;simp only[he,xy];exact S.hp id k' e
 .intro id id' k1 k2 e1 e2 heq;rw[ae] at e1 e2;split at e1<;>split at e2
  .rename_i g1 g2;rw[g1,g2]
  .rename_i g1 g2;simp only[g1,g2,xf,xy] at heq;exact absurd heq.symm (hloc id' k2 e2)
  .rename_i g1 g2;simp only[g1,g2,xf,xy] at heq;exact absurd heq (hloc id k1 e1)
  rename_i g1 g2;simp only[g1,g2,xy] at heq;exact S.inj id id' k1 k2 e1 e2 heq
 intro j e c hj;obtain⟨v,e1,e2,e3⟩:=S.ow j e c hj;by_cases hemp:c=[]
 .subst hemp;exact ze
 obtain⟨i,hi⟩:=List.exists_mem_of_ne_nil c hemp;refine⟨v,fun i hi=>by rw[hh j _ c hj i hi];exact e1 i hi,e2,fun id k' e=>?_⟩;rw[ae] at e;split at e
 .rename_i he;simp only[he,xf];exact hown j _ c hj i hi v (e1 i hi)
 rename_i he;simp only[he,xy];exact e3 id k' e
theorem jf(hF:Sees F w){p:Addr}(e:F p=some v):p.block<w.heap.size:=uf (hF p v e)
theorem Sim.newBlk(S:Sim P T M F0 w0 F ρ n σ h o a w){ob:Obj}(hd:look d h=none)(hn:d<n)(hb:RepB F (w.alloc ob) w.heap.size k)(hnm:∀q,k.nm=some q->w.heap.size=q){tv:TV}{y:Value} 
  (hr:RepT F (fun i=>if i=d then w.heap.size else ρ i) tv y) (hw:wfT ((d,k)::h) tv):
  Sim P T M F0 w0 F (fun i=>if i=d then w.heap.size else ρ i) n (upd σ (some d) tv) ((d,k)::h) (Go.Ab.remo d o) (a.put (some d) y) (w.alloc ob):=by
 have hx:Ext F w F (w.alloc ob):=⟨Le.refl F,⟨fun p v e=>by
  rw[World.cell?_of_block (w:=w) (Below.heap_alloc w ob _ (jf S.sees e))];exact S.sees p v e,fun b xs e=>by
  obtain⟨ck,hb⟩:=S.sees.m b xs e
  exact⟨ck,(Below.heap_alloc w ob _ (ju S.sees e)).trans hb⟩⟩,fun _ _ e=>.inl e,fun _ _ e=>.inl e,(Below.refl _ _).alloc (vo _) _⟩
 have S1:=S.ext hx;refine Sim.putr (Sim.bind S1 hn hd hb (S.hM _ S.bel.size) smq (fun id k' e=>Nat.ne_of_lt (S.hp id k' e).2.2) (fun j e c hj i hi u hu=>?_) hnm) hr hw hn;rw[og S (w':=w.alloc ob) (fun g hg _=>hx.bel.block g hg) j e c hj i hi] at hu;obtain⟨v,e1,⟨m,xs,e2,_⟩,_⟩:=S.ow j e c hj;have:v=u:=by have:=e1 i hi;rw[hu] at this;exact(xt this).symm
 subst this;intro he;exact absurd (e2.lt _ he).2 omq
theorem Sim.write(S:Sim P T M F0 w0 F ρ n σ h o a w){id:Nat}{k0 k:Blk}(hk0:look id h=some k0){w':World} 
    (hos:w'.os=w.os) (htp:w'.tape=w.tape) (hou:w'.output=w.output) (hsz:w'.heap.size=w.heap.size) (hbl:∀j,j≠ρ id->w'.heap[j]?=w.heap[j]?)
    (hF:∀p v,F p=some v->p.block≠ρ id) (hFm:F.m (ρ id)=none) (hk:RepB F w' (ρ id) k) (hnm:k.nm=k0.nm\/k.nm=none) (hnd:w.heap[ρ id]? ≠ some (.deferred (some [])))
    (hce:∀(j:Nat) e c,o[j]?=some (e,c)->∀i∈c,1000000000<=i->pid i=id->held a w' ρ i=held a w ρ i):Sim P T M F0 w0 F ρ n σ (seth id k h) o a w':=by
  have hlook:∀id',look id' (seth id k h)=if id'=id then some k else look id' h:=by
    have:∀(h:List (Nat×Blk)),look id h≠none->∀id',look id' (seth id k h)=if id'=id then some k else look id' h:=by
      intro h
      induction h with
      |nil=>intro hh;exact absurd rfl hh
      | cons x r ih=>
        obtain⟨j,b⟩:=x;intro hh id';simp only[seth];by_cases hj:id=j
        . subst hj;simp only[xf];rw[ae,ae];split
          . rfl
          rfl
        rw[vd hj,ae,ae];rw[ae,vd hj] at hh;rw[ih hh id'];by_cases h1:id'=j
        . subst h1;simp[Ne.symm hj]
        simp[h1]
    exact this h (by rw[hk0];simp)
  have hnone:∀id',look id' h≠none->look id' (seth id k h)≠none:=fun id' hh=>by
    rw[hlook];split
    . simp
    exact hh
  have hother:∀id' k',look id' h=some k'->id'≠id->ρ id'≠ρ id:=fun id' k' e hne heq=>hne (S.inj id' id k' k0 e hk0 heq);have hBid:=(S.hp id k0 hk0).2.1
  have hrepb:∀b k',RepB F w b k'->b≠ρ id->RepB F w' b k':=fun b k' hr hne=>by
    cases k' with
    |var cs _ _=>obtain⟨xs,ty,e1,e2⟩:=hr;exact⟨xs,ty,(hbl b hne).trans e1,e2⟩
    |con cs=>exact hr
    |itr es c _=>exact RepB.itr_mono hr (hbl b hne) (Le.refl _)
    |map es _=>obtain⟨xs,ck,e1,e2⟩:=hr;exact⟨xs,ck,(hbl b hne).trans e1,e2⟩
  have hh:∀(j:Nat) e c,o[j]?=some (e,c)->∀i∈c,held a w' ρ i=held a w ρ i:=fun j e c hj i hi=>by
    by_cases hge:1000000000<=i
    . by_cases hpi:pid i=id
      . exact hce j e c hj i hi hge hpi
      obtain⟨k',hk'⟩:=xan.1 (S.oc j e c hj i hi hge);rw[dz omq,dz omq];exact World.cell?_of_block (hbl _ (hother _ k' hk' hpi))
    rw[kx omq,kx omq]
  refine { n:=S.n,df:=S.df.keep (fun D hd _=>hbl D fun he=>hnd (he▸hd)),sees:=⟨fun p v e=>?_,fun b xs e=>by
    obtain⟨ck,hb⟩:=S.sees.m b xs e
    exact⟨ck,(hbl b fun he=>by subst he;rw[hFm] at e;cases e).trans hb⟩⟩,lay:=S.lay,le:=S.le,new:=S.new,newm:=S.newm,bel:= ?_,hM:=S.hM,tm:=S.tm,wf:= ?_,hp:= ?_,nn:=S.nn,z:= ?_,nb:= ?_,inj:= ?_,ow:= ?_,od:=S.od_of hh,oc:=fun j e c hj i hi hge=>hnone _ (S.oc j e c hj i hi hge) }
  rotate_left 4
  . intro id' k' hid e;rw[hlook] at e;split at e
    . rename_i he;subst he;exact S.z id' k0 hid hk0
    exact S.z id' k' hid e
  . intro id' k' q e hq;rw[hlook] at e;split at e
    . rename_i he;subst he;cases e;exact S.nb id' k0 q hk0 (by rcases hnm with hnm|hnm;{ rw[<- hnm];exact hq };{ rw[hnm] at hq;cases hq })
    exact S.nb id' k' q e hq
  rotate_left 2
  . rw[World.cell?_of_block (w:=w) (hbl p.block (hF p v e))];exact S.sees p v e
  . exact S.bel.trans ⟨hos,htp,hou,omq,fun q hq hm=>hbl q (fun e=>hm (e▸hBid))⟩
  . intro i tv e;have hw:=S.wf i tv e;cases tv with
    |p id' off=>exact hnone id' hw
    |m id'=>exact hnone id' hw
    |s id' off m size=>exact hnone id' hw
    |v y=>trivial
    |u=>trivial
  . intro id' k' e;rw[hlook] at e;split at e
    . rename_i he;cases e;subst he;exact⟨hk,hBid,(by rw[hsz];exact(S.hp id' k0 hk0).2.2)⟩
    rename_i he;obtain⟨r1,r2,r3⟩:=S.hp id' k' e;exact⟨hrepb _ _ r1 (hother id' k' e he),r2,(by rw[hsz];exact r3)⟩
  . intro id1 id2 k1 k2 e1 e2 heq
    have g:∀id' k',look id' (seth id k h)=some k'->∃k'',look id' h=some k'':=fun id' k' e=>by
      rw[hlook] at e;split at e
      . rename_i he;subst he;exact⟨k0,hk0⟩
      exact⟨k',e⟩
    obtain⟨k1',e1'⟩:=g id1 k1 e1;obtain⟨k2',e2'⟩:=g id2 k2 e2;exact S.inj id1 id2 k1' k2' e1' e2' heq
  intro j e c hj;obtain⟨v,e1,⟨m,xs,e2,e3⟩,e4⟩:=S.ow j e c hj;have hne:=e4 id k0 hk0;refine⟨v,fun i hi=>by rw[hh j e c hj i hi];exact e1 i hi,⟨m,xs,?_,e3⟩,fun id' k' e=>?_⟩
  . refine e2.kept (row:=some (ρ id)) ⟨hos,htp,hou,omq,fun q hq hq'=>hbl q (fun e'=>hq' (by rw[e']))⟩ ?_;cases hv:v.ownBlock with
    |none=>exact .inl rfl
    |some g=>right;rw[hv] at hne;exact hne
  rw[hlook] at e;split at e
  . rename_i he;subst he;exact hne
  exact e4 id' k' e
theorem ru{i:Nat}{e:TypeId}: ∀ {o:List (TypeId×List Nat)},cv i o=some e->∃(j:Nat) (c:List Nat),o[j]?=some (e,c)/\i∈c
 |[],h=>by cases h
 |(e',c')::r,h=>by
  simp only[cv] at h;split at h
  .rename_i hc;cases h;exact⟨0,c',rfl,by simpa using hc⟩
  obtain⟨j,c,h1,h2⟩:=ru h;exact⟨j+1,c,by simpa using h1,h2⟩
theorem qts(j:Nat)(e:TypeId)(c:List Nat)(hj:(delo i o)[j]?=some (e,c)):i ∉ c:=by
 simp only[delo,xe,msi] at hj;obtain⟨⟨e',c'⟩,h1,h2⟩:=hj;split at h2
 .simp only[xo] at h2;obtain⟨_,rfl⟩:=h2;simp
 rename_i hc;simp only[xo] at h2;obtain⟨_,rfl⟩:=h2;simpa using hc
theorem jet{k:Nat}(j:Nat)(e:TypeId)(c:List Nat)(hj:(delo i o)[j]?=some (e,c))(hk:k∈c):o[j]?=some (e,c)/\i ∉ c:=by
 refine⟨?_,qts j e c hj⟩;simp only[delo,xe,msi] at hj;obtain⟨⟨e',c'⟩,h1,h2⟩:=hj;split at h2
 .simp only[xo] at h2;obtain⟨_,rfl⟩:=h2;simp at hk
 simp only[xo] at h2;obtain⟨rfl,rfl⟩:=h2;exact h1
theorem Sim.newOwn(S:Sim P T M F0 w0 F ρ n σ h o a w){e:TypeId}(hv:held a w ρ d=some v)(hdc:1000000000<=d->look (pid d) h≠none)(ho:Own F w M e (P.cellsOf e) v) 
  (hloc:∀id b,look id h=some b->v.ownBlock≠some (ρ id))
  (hoth:∀(j:Nat) e c,o[j]?=some (e,c)->∀i∈c,∀u g,held a w ρ i=some u->v.ownBlock=some g->u.ownBlock≠some g):
  Sim P T M F0 w0 F ρ n σ h ((e,[d])::o) a w:=by
 refine { S with ow:= ?_,od:= ?_,oc:= ?_ }
 rotate_left 2
 .intro j e' c hj i hi hge;cases j with
  |zero=>
   simp only[List.getElem?_cons_zero,vk,xo] at hj;obtain⟨rfl,rfl⟩:=hj;simp at hi;subst hi;exact hdc hge
  |succ j=>exact S.oc j e' c (by simpa using hj) i hi hge
 .intro j e' c hj;cases j with
  |zero=>
   simp only[List.getElem?_cons_zero,vk,xo] at hj;obtain⟨rfl,rfl⟩:=hj;exact⟨v,fun i hi=>by simp at hi;subst hi;exact hv,ho,hloc⟩
  |succ j=>exact S.ow j e' c (by simpa using hj)
 intro j j' e1 c1 e2 c2 hne hj hj' i hi i' hi' u u' g hu hu' hg;cases j with
 |zero=>
  cases j' with
  |zero=>exact absurd rfl hne
  |succ j'=>
   simp only[List.getElem?_cons_zero,vk,xo] at hj;obtain⟨rfl,rfl⟩:=hj;simp only[xn] at hi;subst hi;rw[hv] at hu;cases hu;exact hoth j' e2 c2 (by simpa using hj') i' hi' u' g hu' hg
 |succ j=>
  cases j' with
  |zero=>
   simp only[List.getElem?_cons_zero,vk,xo] at hj';obtain⟨rfl,rfl⟩:=hj';simp only[xn] at hi';subst hi';rw[hv] at hu';cases hu';intro hg';exact hoth j e1 c1 zfa i hi u g hu hg' hg
  |succ j'=>exact S.od j j' e1 c1 e2 c2 omq (by simpa using hj) (by simpa using hj') i hi i' hi' u u' g hu hu' hg
end Go.Ab
namespace Go.Ab
open Go.RowKit
variable {P : Program}{T : Lay}{rd : Option Nat}
variable {w : World}{M : Nat -> Prop}{F0 F : Frz}{w0 : World}{ρ : Nat -> Nat}{a : Act}{st : St}{op : Oper}
variable {K:St->Prop}{o:List (TypeId×List Nat)}{h:List (Nat×Blk)}{κ:List (Nat×Nat)}{c:Go.Call}{x:Operand}{e:TypeId}{f:Operand}{d:Option Tmp}{id:Nat}{bs:List (Nat×Blk)}{t:TypeId}{cs:List V}{j:Nat}{xs:Array Value}{ρa:Operand->Option TV}{nm:Option Nat}{kk:Option (TypeId×Nat×Nat)}{ρc:Operand->Value}{i:Nat}{es:List (List V)}{bs':List (Nat×Blk)}{y:Value}{n:Nat}{ck:Nat}{off:Nat}{tv:TV}{q:Nat}{m:Nat}
def SimS(P:Program)(T:Lay)(M:Nat->Prop)(F0:Frz)(w0:World)(F:Frz)(ρ:Nat->Nat)(st:St)(a:Act)(w:World):Prop:=Sim P T M F0 w0 F ρ st.n st.σ st.h st.o a w
theorem jcu{d:Nat}(h:d<n)(hn:n<=999000)(hge:1000000000<=d):False:=omq
theorem nz{x:Value}(S:SimS P T M F0 w0 F ρ st a w)(hr:RepT F ρ tv x)(hw:wfT st.h tv)(hk:putK st d tv K):
  ∃st',SimS P T M F0 w0 F ρ st' (a.put d x) w/\K st':=by
 cases d with
 |none=>exact⟨st,S,hk⟩
 |some d=>
  refine⟨_,?_,hk.2⟩;unfold SimS;rw[σ_cons];exact Sim.putr S hr hw hk.1
theorem im(id:Nat):∀(h:List (Nat×Blk)) (i:Nat),look i (frz1 id h)=if i=id then(look i h).map frzB else look i h
 |[],i=>by simp[frz1,look]
 |(j,b)::r,i=>by
  simp only[frz1];by_cases hj:id=j
  .subst hj;rw[ve rfl,ae,ae];by_cases hi:i=id
   .simp[hi]
   simp[hi]
  rw[vd hj,ae,ae,im id r i];by_cases hi:i=j
  .subst hi;simp[Ne.symm hj]
  simp[hi]
theorem jac(id:Nat)(h:List (Nat×Blk))(i:Nat):look i (frz1 id h)=none↔look i h=none:=by
 rw[im];split<;>simp
theorem qbl(hw:wfT h tv):wfT (frz1 id h) tv:=by
 cases tv with
 |p i off=>exact fun e=>hw ((jac id h i).1 e)
 |m i=>exact fun e=>hw ((jac id h i).1 e)
 |s i off m size=>exact fun e=>hw ((jac id h i).1 e)
 |v x=>trivial
 |u=>trivial
theorem jds(S:SimS P T M F0 w0 F ρ st a w)(id:Nat):∃F',SimS P T M F0 w0 F' ρ { st with h:=frz1 id st.h } a w:=by
  have same:(∀i,look i (frz1 id st.h)=look i st.h)->∃F',SimS P T M F0 w0 F' ρ { st with h:=frz1 id st.h } a w:=fun hs=>
    ⟨F,{ S with
      wf:=fun i tv e=>qbl (S.wf i tv e)
      hp:=fun i b e=>S.hp i b (by rw[<- hs i];exact e)
      z:=fun i b hi e=>S.z i b hi (by rw[<- hs];exact e)
      nb:=fun i b q e hq=>S.nb i b q (by rw[<- hs];exact e) hq
      inj:=fun i i' b b' e e'=>S.inj i i' b b' (by rw[<- hs i];exact e) (by rw[<- hs i'];exact e')
      ow:=fun j e c hj=>by
        obtain⟨v,h1,h2,h3⟩:=S.ow j e c hj;exact⟨v,h1,h2,fun i b e=>h3 i b (by rw[<- hs i];exact e)⟩
      oc:=fun j e c hj i hi hge=>by rw[show ({ st with h:=frz1 id st.h } : St).h=frz1 id st.h from rfl,hs];exact S.oc j e c hj i hi hge }⟩
  cases hk:look id st.h with
  | none=>
    refine same fun i=>?_;rw[im];split
    . exact zcj
    rfl
  | some b=>
    cases b with
    | con cs=>
      refine same fun i=>?_;rw[im];split
      . exact zcj
      rfl
    | itr es c _=>
      refine same fun i=>?_;rw[im];split
      . exact zcj
      rfl
    | map es _=>
      refine same fun i=>?_;rw[im];split
      . exact zcj
      rfl
    | var cs nm _=>
      cases nm with
      | some q=>
        refine same fun i=>?_;rw[im];split
        . exact zcj
        rfl
      |none=>
      obtain⟨⟨xs,ty,h1,h2,h3,h4,h5⟩,hB,hlt⟩:=S.hp id _ hk;have hcell:∀q,w.cell? ⟨ρ id,q,none⟩=xs[q]? := fun q=>by simp[World.cell?,h1]
      have hle:Le F { c:=fun p=>if p.block=ρ id then w.cell? p else F p,m:=F.m } := ⟨fun p v e=>by
        show (if p.block=ρ id then w.cell? p else F p)=some v
        rw[vd (h5 p v e)];exact e,fun _ _ e=>e⟩
      have hcase:∀p v,(if p.block=ρ id then w.cell? p else F p)=some v->F p=some v\/p.block=ρ id:=fun p v e=>by
        split at e
        . rename_i hb;exact .inr hb
        exact .inl e
      have hinj:∀i b,look i st.h=some b->i≠id->ρ i≠ρ id:=fun i b e hne he=>hne (S.inj i id b _ e hk he);refine⟨{ c:=fun p=>if p.block=ρ id then w.cell? p else F p,m:=F.m },?_⟩;refine { n:=S.n,df:=S.df,sees:=⟨fun p v e=>?_,S.sees.m⟩,lay:=S.lay,le:=S.le.trans hle,new:=fun p v e=>?_,newm:=S.newm,bel:=S.bel,hM:=S.hM,tm:=fun i tv e=>?_,wf:=fun i tv e=>qbl (S.wf i tv e),hp:= ?_,nn:=S.nn,z:= ?_,nb:= ?_,inj:= ?_,ow:= ?_,od:=S.od,oc:=fun j e c hj i hi hge=>fun e'=>S.oc j e c hj i hi hge ((jac id st.h _).1 e') }
      rotate_left 4
      . intro i k hi e
        replace e:look i (frz1 id st.h)=some k:=e
        cases hb:look i st.h with
        |none=>rw[(jac id st.h i).2 hb] at e;cases e
        |some b'=>exact S.z i b' hi hb
      . intro i k q e hq
        replace e:look i (frz1 id st.h)=some k:=e
        rw[im] at e;split at e
        . rename_i he;subst he;rw[hk] at e;simp only[Option.map_some,vk] at e;subst e;cases hq
        exact S.nb i k q e hq
      rotate_left 2
      . have e':(if p.block=ρ id then w.cell? p else F p)=some v:=e;split at e'
        . exact e'
        exact S.sees p v e'
      . rcases hcase p v e with e'|e'
        . exact S.new p v e'
        exact .inr (by rw[e'];exact hB)
      . obtain⟨x,g1,g2⟩:=S.tm i tv e;exact⟨x,g1,g2.mono hle⟩
      . intro i b e
        replace e:look i (frz1 id st.h)=some b:=e
        rw[im] at e;split at e
        . rename_i he;subst he;rw[hk] at e;simp only[Option.map_some,vk] at e;subst e;refine⟨⟨fun j=>xs.getD j undef,h3,fun j c hj=>?_,fun j c hj=>?_⟩,hB,hlt⟩
          . have hjl:j<xs.size:=xao (gsi.1 hj).1 h2
            show (if(⟨ρ i,j,none⟩:Addr).block=ρ i then w.cell? ⟨ρ i,j,none⟩ else _)=_
            rw[ve rfl,hcell];simp[hjl]
          have hjl:j<xs.size:=xao (gsi.1 hj).1 h2;refine(h4 j c _ hj ?_).mono hle;simp[hjl]
        rename_i he;obtain⟨g1,g2,g3⟩:=S.hp i b e;refine⟨?_,g2,g3⟩;have hne:=hinj i b e he;cases b with
        | var cs' _ _=>
          obtain⟨xs',ty',k1,k2,k3,k4,k5⟩:=g1;refine⟨xs',ty',k1,k2,k3,fun j c x e1 e2=>(k4 j c x e1 e2).mono hle,fun p v hp=>?_⟩;rcases hcase p v hp with e'|e'
          . exact k5 p v e'
          rw[e'];exact yp hne
        | con cs'=>
          obtain⟨g,k1,k2,k3⟩:=g1;exact zd3
        |itr es c _=>exact RepB.itr_mono g1 rfl hle
        | map es _=>
          obtain⟨xs',ck,k1,k0,k2,k3⟩:=g1;exact⟨xs',ck,k1,k0,k2,fun j k v x e1 e2=>⟨((k3 j k v x e1 e2).1).mono hle,((k3 j k v x e1 e2).2).mono hle⟩⟩
      . have g:∀i b,look i (frz1 id st.h)=some b->∃b',look i st.h=some b':=fun i b e=>by
          cases hb:look i st.h with
          |none=>rw[(jac id st.h i).2 hb] at e;cases e
          |some b'=>exact⟨b',rfl⟩
        intro i i' b b' e e' he;obtain⟨c,hc⟩:=g i b e;obtain⟨c',hc'⟩:=g i' b' e';exact S.inj i i' c c' hc hc' he
      intro j e c hj;obtain⟨v,g1,⟨m,ys,g2,g3⟩,g4⟩:=S.ow j e c hj;refine⟨v,g1,⟨m,ys,g2,fun g hg=>⟨(g3 g hg).1,fun p u hp hpg=>?_⟩⟩,fun i b hb=>?_⟩
      . rcases hcase p u hp with e'|e'
        . exact(g3 g hg).2 p u e' hpg
        exact absurd (by rw[hg,<- hpg,e']) (g4 id _ hk)
      replace hb:look i (frz1 id st.h)=some b:=hb
      cases hb':look i st.h with
      |none=>rw[(jac id st.h i).2 hb'] at hb;cases hb
      |some b'=>exact g4 i b' hb'
theorem jgx:∀(l:List Operand) {h:List (Nat×Blk)} {F:Frz},SimS P T M F0 w0 F ρ { st with h:=h } a w->∃F',SimS P T M F0 w0 F' ρ { st with h:=frzC st.σ l h } a w
 |[],h,F,S=>⟨F,S⟩
 |x::r,h,F,S=>by
  simp only[frzC];split
  .rename_i id off _;obtain⟨F',S'⟩:=jds S id;exact jgx r S'
  exact jgx r S
theorem jgw:∀(l:List Oper) {h:List (Nat×Blk)} {F:Frz},SimS P T M F0 w0 F ρ { st with h:=h } a w->∃F',SimS P T M F0 w0 F' ρ { st with h:=frzR st.σ l h } a w
 |[],h,F,S=>⟨F,S⟩
 |x::r,h,F,S=>by
  simp only[frzR];split
  .rename_i cap _;obtain⟨F',S'⟩:=jgx cap.toList S;exact jgw r S'
  exact jgw r S
theorem jus(S:SimS P T M F0 w0 F ρ st a w)(hk:movK st x d K):∃st',SimS P T M F0 w0 F ρ st' (a.put d (a.eval x)) w/\K st':=by
 unfold movK at hk;split at hk
 .exact⟨st,S,hk⟩
 .rename_i tv d hx;have hx':=ql hx;have hr:=S.opr x tv hx';have hw:=S.wfo x tv hx';split at hk
  .rename_i i;refine⟨_,?_,hk.2⟩;unfold SimS;rw[σ_cons];have S1:=Sim.putr S hr hw hk.1;by_cases hid:i=d
   .simp only[ve hid];exact S1
   simp only[vd hid];have hsz:d<a.tmps.size:=by rw[S.n];exact hk.1
   have hnn:=S.nn;refine S1.addo (fun _ _ _ _ _=>?_) (fun hge=>(jcu hsz hnn hge).elim);obtain⟨y,e1,_⟩:=S.tm i tv hx';have hi:=(asi.1 e1).1;rw[qh hsz hnn,qh hsz hnn,ve rfl,vd hid,kx omq,e1];simp[Act.eval,e1]
  refine⟨_,?_,hk.2⟩;unfold SimS;rw[σ_cons];exact Sim.putr S hr hw hk.1
 exact hk.elim
theorem jbr(S:SimS P T M F0 w0 F ρ st a w)(hk:evK P op st K){next:Act->World->Prop}{Q:Exit->Act->World->Prop} 
  (k:∀F' ρ' st' a' w',SimS P T M F0 w0 F' ρ' st' a' w'->K st'->next a' w'):opG rd P op a w next Q:=by
 unfold evK at hk;have G:=Sim.good S;split at hk
 .rename_i tv htv;obtain⟨x,hr,hx⟩:=jm5 (P:=P) G op htv;refine cx hr ?_;obtain⟨st',S',hK⟩:=nz S hx (jci S.wfo htv) hk;exact zc1
 split at hk
 .rename_i v hv;obtain⟨x,F',w',hr,he,hx⟩:=jxc (P:=P) G op hv;refine cx hr ?_;obtain⟨st',S',hK⟩:=nz (tv:=.v v) (Sim.ext S he) hx trivial hk;exact k F' ρ st' _ w' S' hK
 exact hk.elim
theorem jkg{K:St->Prop}{d:Option Tmp}{r:V}(S:SimS P T M F0 w0 F ρ st a w){F':Frz}{w':World}(hx:Ext F w F' w')(hr:Rep F' r y){own:Option TypeId} 
  (ho:∀e,own=some e->Own F' w' (fun g=>w.heap.size<=g) e (P.cellsOf e) y) (hk:retK st d K r own):∃st',SimS P T M F0 w0 F' ρ st' (a.put d y) w'/\K st':=by
 have S1:=Sim.ext S hx;cases own with
 |none=>exact nz (tv:=.v r) S1 hr trivial hk
 |some e=>
  cases d with
  |none=>exact⟨st,S1,hk⟩
  |some d=>
   refine⟨_,?_,hk.2⟩;unfold SimS;rw[σ_cons];have S2:=Sim.putr (tv:=.v r) S1 hr trivial hk.1;have hsz:d<a.tmps.size:=by rw[S.n];exact hk.1
   obtain⟨m,xs,h1,h2⟩:=ho e rfl;have hge:=fun g hg=>(h2 g hg);refine S2.newOwn (v:=y) (by rw[qh hsz S.nn,ve rfl]) (fun hge=>(jcu hsz S.nn hge).elim) ⟨m,xs,h1,fun g hg=>⟨S.hM g (xc S.bel.size (h2 g hg).1),(h2 g hg).2⟩⟩ (fun id b hb e'=>?_) (fun j e' c hj i hi u g hu hg hg'=>?_)
   .have:=(hge _ e').1;have:=(S.hp id b hb).2.2;omega
   have hne:i≠d:=fun he=>jmw j e' c hj (he▸hi);rw[qh hsz S.nn,vd hne] at hu;simp only[remo,xe,msi] at hj;obtain⟨⟨e2,c2⟩,h3,h4⟩:=hj;simp only[xo] at h4;obtain⟨rfl,rfl⟩:=h4;obtain⟨-,⟨m2,ys,g2,_⟩,-⟩:=S.oval h3 (xb7.1 hi).1 (by rw[<- og S (w':=w') (fun g hg _=>hx.bel.block g hg) j e2 c2 h3 i (xb7.1 hi).1];exact hu);have:=(g2.lt _ hg').2;have:=(hge _ hg).1;omega
theorem juq{size:Nat}(S:SimS P T M F0 w0 F ρ st a w){F':Frz}{w':World}(hx:Ext F w F' w')(hn:New F' w' w.heap.size size es y)(hk:newK st d K size es):
  ∃ ρ' st',SimS P T M F0 w0 F' ρ' st' (a.put d y) w'/\K st':=by
 have S1:=Sim.ext S hx;cases d with
 |none=>exact hk.elim
 |some d=>
  obtain⟨h1,h2,h3,h4⟩:=hk;rcases hn with⟨he,hr⟩|⟨b,cap,rfl,g1,g2,g3,g4,g5,g6⟩
  .refine⟨ρ,_,?_,h3 he⟩;unfold SimS;rw[σ_cons];exact Sim.putr (tv:=.v (.slice size [])) S1 hr trivial h1
  refine⟨fun i=>if i=d then b else ρ i,_,?_,h4 g3⟩;unfold SimS;rw[σ_cons];refine Sim.putr (tv:=.s d 0 es.length size) (Sim.bind S1 h1 h2 g6 (S.hM _ (xc S.bel.size g4)) g5 (fun id k' e=>?_) (fun j e c hj i hi u hu=>?_) (fun q hq=>by cases hq)) ?_ ?_ h1
  .have:=(S.hp id k' e).2.2;omega
  .obtain⟨-,⟨m,xs,e2,_⟩,-⟩:=S.oval hj hi (by rw[<- og S (w':=w') (fun g hg _=>hx.bel.block g hg) j e c hj i hi];exact hu);intro he;exact absurd (e2.lt _ he).2 omq
  .exact⟨cap,g1,g2,yn.2 g3,smq⟩
  simp[wfT,er]
theorem Sim.know(S:SimS P T M F0 w0 F ρ st a w){k:Blk}(hk0:look id st.h=some (.var cs nm kk))(hk:RepB F w (ρ id) k)(hnm:k.nm=nm):SimS P T M F0 w0 F ρ { st with h:=seth id k st.h } a w:=by
 obtain⟨⟨xs,ty,h1,h2,h3,h4,h5⟩,_⟩:=S.hp id _ hk0;exact Sim.write S hk0 rfl rfl rfl rfl (fun _ _=>rfl) h5 (jje S.sees h1) hk (.inl hnm) (by rw[h1];simp) (fun _ _ _ _ _ _ _ _=>rfl)
theorem jw9(id:Nat)(b b':Blk):∀h:List (Nat×Blk),seth id b (seth id b' h)=seth id b h
 |[]=>rfl
 |(j,x)::r=>by
  simp only[seth];split
  .rename_i he;simp[seth,he]
  rename_i he;simp[seth,he,jw9 id b b' r]
theorem je3(id:Nat)(b:Blk):∀h:List (Nat×Blk),look id h≠none->look id (seth id b h)=some b
 |[],hh=>absurd rfl hh
 |(j,x)::r,hh=>by
  simp only[seth];split
  .rename_i he;subst he;exact er _ _ _
  rename_i he;rw[ae,vd he];rw[ae,vd he] at hh;exact je3 id b r hh
theorem Sim.more{σ:Sto}(S:Sim P T M F0 w0 F ρ n σ h o a w){F':Frz}(hle:Le F F')(hc:∀p v,F' p=some v->F p=some v)(hs:Sees F' w) 
  (hm:∀b xs,F'.m b=some xs->F.m b=some xs\/M b) (hl:∀id es q,look id h=some (.map es q)->F'.m (ρ id)=none):Sim P T M F0 w0 F' ρ n σ h o a w where
 n:=S.n
 df:=S.df
 sees:=hs
 lay:=S.lay
 le:=S.le.trans hle
 new:=fun p v e=>S.new p v (hc p v e)
 newm:=fun b xs e=>(hm b xs e).elim (S.newm b xs) .inr
 bel:=S.bel
 hM:=S.hM
 tm:=fun i tv e=>by obtain⟨x,h1,h2⟩:=S.tm i tv e;exact⟨x,h1,h2.mono hle⟩
 wf:=S.wf
 hp:=fun id b e=>by
  obtain⟨h1,h2,h3⟩:=S.hp id b e;refine⟨?_,h2,h3⟩;cases b with
  |var cs _ _=>
   obtain⟨xs,ty,k1,k2,k3,k4,k5⟩:=h1;exact⟨xs,ty,k1,k2,k3,fun j c x e1 e2=>(k4 j c x e1 e2).mono hle,fun p v hp=>k5 p v (hc p v hp)⟩
  |con cs=>
   obtain⟨g,k1,k2,k3⟩:=h1;exact zd3
  |itr es c q=>exact RepB.itr_mono h1 rfl hle
  |map es q=>
   obtain⟨xs,ck,k1,_,k2,k3⟩:=h1;exact⟨xs,ck,k1,hl id es q e,k2,fun j k v x e1 e2=>⟨((k3 j k v x e1 e2).1).mono hle,((k3 j k v x e1 e2).2).mono hle⟩⟩
 nn:=S.nn
 z:=S.z
 nb:=S.nb
 inj:=S.inj
 ow:=fun j e c hj=>by
  obtain⟨v,h1,⟨m,xs,h2,h3⟩,h4⟩:=S.ow j e c hj;exact⟨v,h1,⟨m,xs,h2,fun g hg=>⟨(h3 g hg).1,fun p u hp=>(h3 g hg).2 p u (hc p u hp)⟩⟩,h4⟩
 od:=S.od
 oc:=S.oc
theorem jkf(id:Nat)(b:Blk):∀(h:List (Nat×Blk)) (i:Nat),i≠id->look i (seth id b h)=look i h
 |[],_,_=>rfl
 |(j,x)::r,i,hi=>by
  simp only[seth];split
  .rename_i he;subst he;rw[ae,ae,vd hi,vd hi]
  rw[ae,ae,jkf id b r i hi]
theorem Sim.frzM(S:SimS P T M F0 w0 F ρ st a w){es:List (V×V)}(hb:look id st.h=some (.map es nm)):
  ∃F',SimS P T M F0 w0 F' ρ { st with h:=seth id (.con []) st.h } a w/\Le F F'/\∃xs ck,F'.m (ρ id)=some (xs,ck)/\w.heap[ρ id]?=some (.map xs ck)/\xs.size=es.length/\∀(j:Nat) k v x,es[j]?=some (k,v)->xs[j]?=some x->Rep F' k x.key/\Rep F' v x.val:=by
 obtain⟨⟨xs,ck,b1,b0,b2,b3⟩,hB,hlt⟩:=S.hp id _ hb
 have hF:∀p u,F p=some u->p.block≠ρ id:=fun p u hp he=>by
  have:=S.sees p u hp;unfold World.cell? at this;rw[he,b1] at this;cases this
 have S1:=Sim.write S hb (w':=w) (k:=.con []) rfl rfl rfl rfl (fun _ _=>rfl) hF b0 ⟨fun _=>undef,smq,smq,smq⟩ (.inr rfl) (by rw[b1];simp) (fun _ _ _ _ _ _ _ _=>rfl)
 have hle:Le F { c:=F.c,m:=fun b=>if b=ρ id then some (xs,ck.1) else F.m b } := ⟨fun _ _ e=>e,fun b ys e=>by
  show (if b=ρ id then some (xs,ck.1) else F.m b)=some ys
  split
  .rename_i he;subst he;rw[b0] at e;cases e
  exact e⟩
 refine⟨{ c:=F.c,m:=fun b=>if b=ρ id then some (xs,ck.1) else F.m b },?_,hle,xs,ck.1,ve rfl,b1,b2,fun j k v x e1 e2=>⟨((b3 j k v x e1 e2).1).mono hle,((b3 j k v x e1 e2).2).mono hle⟩⟩;refine Sim.more S1 hle (fun _ _ e=>e) ⟨S.sees.c,fun b ys e=>?_⟩ (fun b ys e=>?_) (fun id' es' q e=>?_)
 .replace e:(if b=ρ id then some (xs,ck.1) else F.m b)=some ys:=e
  split at e
  .rename_i he;cases e;subst he;exact⟨⟨ck.1,ck.2,rfl⟩,b1⟩
  exact S.sees.m b ys e
 .replace e:(if b=ρ id then some (xs,ck.1) else F.m b)=some ys:=e
  split at e
  .rename_i he;subst he;exact .inr hB
  exact .inl e
 by_cases hi:id'=id
 .subst hi;rw[je3 id' _ st.h (by rw[hb];simp)] at e;cases e
 rw[jkf id _ st.h id' hi] at e;have hne:ρ id'≠ρ id:=fun he=>hi (S.inj id' id _ _ e hb he)
 show (if ρ id'=ρ id then some (xs,ck.1) else F.m (ρ id'))=none
 rw[vd hne];obtain⟨⟨_,_,_,h0,_⟩,_⟩:=S.hp id' _ e;exact h0
structure ExtX (b:Nat) (F:Frz) (w:World) (F':Frz) (w':World):Prop where
 le:Le F F'
 fr:Sees F' w'
 new:∀p v,F' p=some v->F p=some v\/w.heap.size<=p.block
 newm:∀b xs,F'.m b=some xs->F.m b=some xs\/w.heap.size<=b
 os:w'.os=w.os
 tape:w'.tape=w.tape
 output:w'.output=w.output
 size:w.heap.size<=w'.heap.size
 block:∀q,q<w.heap.size->q≠b->w'.heap[q]?=w.heap[q]?
theorem Sim.extX(S:SimS P T M F0 w0 F ρ st a w){cs':List V}{kk':Option (TypeId×Nat×Nat)}(hk0:look id st.h=some (.var cs nm kk)){F':Frz}{w':World}(hx:ExtX (ρ id) F w F' w')(hk:RepB F' w' (ρ id) (.var cs' nm kk')) 
  (hno:∀(j:Nat) e c,st.o[j]?=some (e,c)->∀i∈c,1000000000<=i->pid i≠id):SimS P T M F0 w0 F' ρ { st with h:=seth id (.var cs' nm kk') st.h } a w':=by
 obtain⟨⟨xs,ty,h1,h2,h3,h4,h5⟩,hM,hlt⟩:=S.hp id _ hk0;have hk':=hk;obtain⟨xs',ty',g1,g2,g3,g4,g5⟩:=hk
 let w1:World:= { w with heap:=w.heap.setIfInBounds (ρ id) (.cells xs' ty'.1.1 ty'.1.2) }
 have hw1:w1.heap[ρ id]?=some (.cells xs' ty'.1.1 ty'.1.2):=by simp[w1,hlt]
 have hw1o:∀j,j≠ρ id->w1.heap[j]?=w.heap[j]? := fun j hj=>by simp[w1,Array.getElem?_setIfInBounds_ne (Ne.symm hj)]
 have S1:SimS P T M F0 w0 F ρ { st with h:=seth id (.var [] nm) st.h } a w1:=
  Sim.write S hk0 rfl rfl rfl (by simp[w1]) hw1o h5 (jje S.sees h1) (k:=.var [] nm) ⟨xs',⟨ty'.1,ty'.2.fz⟩,hw1,smq,smq,smq,h5⟩ (.inl rfl) (by rw[h1];simp) (fun j e c hj i hi hge hp=>absurd hp (hno j e c hj i hi hge))
 have hE:Ext F w1 F' w':=⟨hx.le,hx.fr,fun p v e=>by have:=hx.new p v e;simpa [w1] using this,fun p v e=>by have:=hx.newm p v e;simpa [w1] using this,
  ⟨hx.os,hx.tape,hx.output,by have:=hx.size;simpa [w1] using this,fun q hq=>by
   have hq':q<w.heap.size:=by simpa [w1] using hq
   by_cases he:q=ρ id
   .subst he;rw[hw1,g1]
   rw[hw1o q he];exact hx.block q hq' he⟩⟩
 have S2:=Sim.ext S1 hE;have:=Sim.know (st:= { st with h:=seth id (.var [] nm) st.h }) S2 (cs:=[]) (nm:=nm) (kk:=none) (je3 id _ st.h (by rw[hk0];simp)) hk' rfl;simp only[jw9] at this;exact this
theorem ec{α:Type}{i:Nat}{x:α}: ∀ {l:List (Nat×α)},look i l=some x->(i,x)∈l
 |[],h=>by cases h
 |(j,y)::r,h=>by
  rw[ae] at h;split at h
  .rename_i he;cases h;subst he;exact yo
  exact ym _ (ec h)
theorem kw{α:Type}{i:Nat}: ∀ {l:List (Nat×α)},i∈l.map (·.1)->∃x,look i l=some x
 |[],h=>by cases h
 |(j,y)::r,h=>by
  rw[ae];by_cases he:i=j
  .exact⟨y,ve he⟩
  rw[vd he];exact kw (by simpa [he] using h)
theorem jam{k k' id:Nat}: ∀ {κ:List (Nat×Nat)},ndk κ=true->look k κ=some id->look k' κ=some id->k=k'
 |[],_,h,_=>by cases h
 |(a,i)::r,hn,h,h'=>by
  simp only[ndk,vn] at hn
  have key:∀q,look q r=some i->False:=fun q hq=>by
   have:=xi.1 hn.1 _ (ec hq);simp at this
  rw[ae] at h h';split at h
  .rename_i he;cases h;split at h'
   .rename_i he';rw[he,he']
   exact(key _ h').elim
  split at h'
  .cases h';exact(key _ h).elim
  exact jam hn.2 h h'
theorem je6:∀ {κ:List (Nat×Nat)},ndk κ=true->(κ.map (·.1)).Nodup
 |[],_=>List.nodup_nil
 |(a,i)::r,hn=>by
  simp only[ndk,vn] at hn;rw[vy,List.nodup_cons];refine⟨fun hm=>?_,je6 hn.2⟩;obtain⟨x,hx,he⟩:=ya.1 hm;have:=xi.1 hn.1 x hx;simp only[vn,xcu] at this;simp only at he;rw[he] at this;simp at this
theorem kz{k:Nat}(h:look k κ=some id):lk κ k=id:=by unfold lk;rw[h]
theorem jig{F:Frz}{w:World}{g:Nat}{b:Blk}(n:Option Nat):RepB F w g (b.wn n)↔RepB F w g b:=by cases b<;>exact Iff.rfl
theorem nm_wn{b:Blk}{n:Option Nat}(h:(b.wn n).nm=some q):n=some q:=by cases b<;>first|exact h|cases h
theorem jwc(id:Nat)(b:Blk):∀(h:List (Nat×Blk)) (i:Nat),look i (setb id b h)=if i=id then(look i h).map (fun x=>b.wn x.nm) else look i h
 |[],i=>by simp[setb,look]
 |(j,x)::r,i=>by
  simp only[setb];by_cases hj:id=j
  .subst hj;rw[ve rfl,ae,ae];by_cases hi:i=id
   .simp[hi]
   simp[hi]
  rw[vd hj,ae,ae,jwc id b r i];by_cases hi:i=j
  .subst hi;simp[Ne.symm hj]
  simp[hi]
theorem jgr{κ:List (Nat×Nat)}: ∀(bs:List (Nat×Blk)) (h:List (Nat×Blk)) (i:Nat),(bs.map (·.1)).Nodup->(∀k k',k∈bs.map (·.1)->k'∈bs.map (·.1)->lk κ k=lk κ k'->k=k')->
  (∃k b,look k bs=some b/\lk κ k=i/\look i (bg κ bs h)=(look i h).map fun x=>b.wn x.nm)\/((∀k b,look k bs=some b->lk κ k≠i)/\look i (bg κ bs h)=look i h)
 |[],h,i,_,_=>.inr ⟨fun k b e=>(by cases e),rfl⟩
 |(k,b)::r,h,i,hnd,hinj=>by
  rw[vy,List.nodup_cons] at hnd
  have hk:∀k2 b2,look k2 r=some b2->k2≠k/\k2∈r.map (·.1):=fun k2 b2 e=>by
   have hm:=xbi (f:=(·.1)) (ec e);exact⟨fun he=>hnd.1 (he▸hm),hm⟩
  have h1:=jwc (lk κ k) b h i;rcases jgr (κ:=κ) r (setb (lk κ k) b h) i hnd.2 (fun a a' ha ha'=>hinj a a' (ym _ ha) (ym _ ha')) with⟨k2,b2,e1,e2,e3⟩|⟨e1,e2⟩
  .obtain⟨n1,n2⟩:=hk k2 b2 e1;have hne:i≠lk κ k:=fun he=>n1 (hinj k2 k (ym _ n2) yo (e2.trans he));rw[vd hne] at h1;exact .inl ⟨k2,b2,by rw[ae,vd n1];exact e1,e2,by simp only[bg];rw[e3,h1]⟩
  by_cases he:i=lk κ k
  .rw[ve he] at h1;exact .inl ⟨k,b,er _ _ _,he.symm,by simp only[bg];rw[e2,h1]⟩
  rw[vd he] at h1;refine .inr ⟨fun k2 b2 e=>?_,by simp only[bg];rw[e2,h1]⟩;rw[ae] at e;split at e
  .rename_i hk2;subst hk2;exact fun h=>he h.symm
  exact e1 k2 b2 e
theorem qpf{c:List Nat}(hj:(delo i o)[j]?=some (e,c)):∃c0,o[j]?=some (e,c0)/\((c=c0/\i ∉ c0)\/c=[]):=by
 simp only[delo,xe,msi] at hj;obtain⟨⟨e',c'⟩,h1,h2⟩:=hj;split at h2
 .simp only[xo] at h2;obtain⟨rfl,rfl⟩:=h2;exact⟨c',h1,.inr rfl⟩
 rename_i hc;simp only[xo] at h2;obtain⟨rfl,rfl⟩:=h2;exact⟨c',h1,.inl ⟨rfl,by simpa using hc⟩⟩
theorem juu{κ:List (Nat×Nat)}: ∀ {os o:List (TypeId×List Nat)} {j:Nat} {e:TypeId} {c:List Nat},(fo κ os o)[j]?=some (e,c)->∃c0,o[j]?=some (e,c0)/\((c=c0/\∀x∈os,∀i r,x.2=i::r->mpc κ i ∉ c0)\/c=[])
 |[],o,j,e,c,h=>⟨c,h,.inl ⟨rfl,fun x hx=>by cases hx⟩⟩
 |(e1,c1)::r,o,j,e,c,h=>by
  simp only[fo] at h;obtain⟨c0,h1,h2⟩:=juu (os:=r) h;cases c1 with
  |nil=>
   refine⟨c0,h1,h2.imp (fun⟨a,b⟩=>⟨a,fun x hx i r' hxi=>?_⟩) id⟩;rcases vt.1 hx with rfl|hx
   .cases hxi
   exact b x hx i r' hxi
  |cons i1 r1=>
   obtain⟨c2,h3,h4⟩:=qpf h1;refine⟨c2,h3,?_⟩;rcases h2 with⟨rfl,h2⟩|h2
   .rcases h4 with⟨rfl,h4⟩|h4
    .refine .inl ⟨rfl,fun x hx i r' hxi=>?_⟩;rcases vt.1 hx with rfl|hx
     .cases hxi;exact h4
     exact h2 x hx i r' hxi
    exact .inr h4
   exact .inr h2
theorem qbg(h:hasC o=false){c:List Nat}(hj:o[j]?=some (e,c))(hi:i∈c):i<1000000000:=by
 rcases xk i 1000000000 with hl|hg
 .exact hl
 exfalso;have:hasC o=true:=yd.2 ⟨_,vp hj,yd.2 ⟨i,hi,vl hg⟩⟩;rw[h] at this;cases this
theorem qmm{d:Nat}{c:List Nat}(hj:(remB d o)[j]?=some (e,c)):∃c0,o[j]?=some (e,c0)/\∀i∈c,i∈c0/\(1000000000<=i->pid i≠d):=by
 simp only[remB,xe,msi] at hj;obtain⟨⟨e',c'⟩,h1,h2⟩:=hj;simp only[xo] at h2;obtain⟨rfl,rfl⟩:=h2;refine⟨c',h1,fun i hi=>?_⟩;obtain⟨h3,h4⟩:=xb7.1 hi;refine⟨h3,fun hge he=>?_⟩;subst he;simp[Nat.ble_eq_true_of_le hge] at h4
theorem ja6{d:Nat}{c:List Nat}(hj:(dh d o)[j]?=some (e,c)):∃c0,o[j]?=some (e,c0)/\∀i∈c,i∈c0/\(1000000000<=i->pid i≠d):=by
 unfold dh at hj;cases hc:hasC o with
 |true=>rw[hc] at hj;exact qmm hj
 |false=>
  rw[hc] at hj;exact⟨c,hj,fun i hi=>⟨hi,fun hge=>absurd (qbg hc hj hi) omq⟩⟩
theorem jln:∀ {κ:List (Nat×Nat)} {o:List (TypeId×List Nat)} {j:Nat} {e:TypeId} {c:List Nat},(remK κ o)[j]?=some (e,c)->∃c0,o[j]?=some (e,c0)/\∀i∈c,i∈c0/\(1000000000<=i->∀x∈κ,pid i≠x.2)
 |[],o,j,e,c,h=>⟨c,h,fun i hi=>⟨hi,fun _ x hx=>by cases hx⟩⟩
 |(a,d)::r,o,j,e,c,h=>by
  simp only[remK] at h;obtain⟨c0,h1,h2⟩:=jln (κ:=r) h;obtain⟨c1,h3,h4⟩:=ja6 h1;refine⟨c1,h3,fun i hi=>⟨(h4 i (h2 i hi).1).1,fun hge x hx=>?_⟩⟩;rcases vt.1 hx with rfl|hx
  .exact(h4 i (h2 i hi).1).2 hge
  exact(h2 i hi).2 hge x hx
theorem jne{κ:List (Nat×Nat)}: ∀ {os o:List (TypeId×List Nat)},su κ os o->∃f:Nat->Nat,(∀(j:Nat) e c,os[j]?=some (e,c)->∃i c0,c=[i]/\o[f j]?=some (e,c0)/\mpc κ i∈c0)/\∀(j j':Nat),j<os.length->j'<os.length->f j=f j'->j=j'
 |[],_,_=>⟨id,fun j e c h=>by simp at h,fun j j' h=>by simp at h⟩
 |(e,[])::r,o,h=>by cases h
 |(e,[i])::r,o,h=>by
  obtain⟨h1,h2⟩:=h;obtain⟨m,c0,h3,h4⟩:=ru h1;obtain⟨f',g1,g2⟩:=jne h2
  have g3:∀(j:Nat) e c,r[j]?=some (e,c)->∃i' c0',c=[i']/\o[f' j]?=some (e,c0')/\mpc κ i'∈c0'/\mpc κ i ∉ c0':=fun j e c hj=>by
   obtain⟨i',c0',a1,a2,a3⟩:=g1 j e c hj;obtain⟨b1,b2⟩:=jet _ _ _ a2 a3;exact⟨i',c0',a1,b1,a3,b2⟩
  have hne:∀j,j<r.length->m≠f' j:=fun j hj he=>by
   obtain⟨i',c0',a1,a2,a3,a4⟩:=g3 j _ _ (gge hj);rw[<- he,h3] at a2;cases a2;exact a4 h4
  refine⟨fun j=>match j with|0=>m|j+1=>f' j,fun j e' c' hj=>?_,fun j j' hj hj' he=>?_⟩
  .cases j with
   |zero=>simp at hj;obtain⟨rfl,rfl⟩:=hj;exact⟨i,c0,rfl,h3,h4⟩
   |succ j=>
    obtain⟨i',c0',a1,a2,a3,_⟩:=g3 j e' c' zfa;exact⟨i',c0',a1,a2,a3⟩
  cases j with
  |zero=>
   cases j' with
   |zero=>rfl
   |succ j'=>exact absurd he (hne j' (by simpa using hj'))
  |succ j=>
   cases j' with
   |zero=>exact absurd he.symm (hne j (by simpa using hj))
   |succ j'=>rw[g2 j j' (by simpa using hj) (by simpa using hj') he]
 |(e,i::i'::c)::r,o,h=>by cases h
theorem jbz{os:List (TypeId×List Nat)}(h:okO bs os=true){c:List Nat}(hj:os[j]?=some (e,c))(hi:i∈c):1000000000<=i/\∃b,look (pid i) bs=some b:=by
 have:=xi.1 (xi.1 h _ (vp hj)) i hi;simp only[vn] at this;exact⟨xb9 this.1,xbe.1 this.2⟩
theorem jag(i:Nat):held a w ρ (mpc κ i)=w.cell? ⟨ρ (lk κ (pid i)),pof i,none⟩:=by
 have:=ss (lk κ (pid i)) (pof i);unfold mpc;rw[dz omq,gl (jqs i),qj (jqs i)]
abbrev XL(κ:List (Nat×Nat))(bs:List (Nat×Blk))(os:List (TypeId×List Nat))(ρ:Nat->Nat)(a:Act)(w:World):Nat->Prop:=fun g=>
 (∃(j:Nat) (e:TypeId) (i:Nat) (v:Value),os[j]?=some (e,[i])/\held a w ρ (mpc κ i)=some v/\v.ownBlock=some g)\/∃(k:Nat) (b:Blk),look k bs=some b/\g=ρ (lk κ k)
theorem Sim.extS'(S:SimS P T M F0 w0 F ρ st a w){os os':List (TypeId×List Nat)}(hκ:ndk κ=true)(hk:bs.map (·.1)=κ.map (·.1))(hk':bs'.map (·.1)=κ.map (·.1)) 
  (hB:∀x∈bs,jcz κ st.h x) (hO:su κ os st.o) (hok:okO bs os=true) (hok':okO bs' os'=true):
  (∀g,XL κ bs os ρ a w g->M g/\g<w.heap.size)/\(∀id b,look id st.h=some b->(∀k b',look k bs'=some b'->lk κ k≠id)->¬XL κ bs os ρ a w (ρ id))/\
   (∀(j:Nat) e c0,st.o[j]?=some (e,c0)->(∀(j':Nat) e' i,os[j']?=some (e',[i])->mpc κ i ∉ c0)->∀i∈c0,∀u g,held a w ρ i=some u->u.ownBlock=some g->¬XL κ bs os ρ a w g)/\Lends P T F w (fun k=>ρ (lk κ k)) (XL κ bs os ρ a w) bs os/\∀F' w',ExtS (XL κ bs os ρ a w) F w F' w'->Lends P T F' w' (fun k=>ρ (lk κ k)) (fun g=>XL κ bs os ρ a w g\/w.heap.size<=g) bs' os'->
   SimS P T M F0 w0 F' ρ { st with h:=bg κ bs' st.h,o:=ep κ os'++remK κ (fo κ os st.o) } a w':=by
 have hnd:=je6 hκ;obtain⟨f,hf1,hf2⟩:=jne hO
 have hlent:∀k b,look k bs=some b->∃id b0,look k κ=some id/\lk κ k=id/\look id st.h=some b0/\b.wn none=b0.wn none/\(b.nm=none\/b.nm=b0.nm):=fun k b e=>by
  obtain⟨id,b0,h1,h2,h3,h4,_⟩:=hB _ (ec e);exact⟨id,b0,h1,kz h1,h2,h3,h4⟩
 have hlent':∀k b,look k bs'=some b->∃id b0,look k κ=some id/\lk κ k=id/\look id st.h=some b0:=fun k b e=>by
  have hm:k∈bs.map (·.1):=by rw[hk,<- hk'];exact xbi (f:=(·.1)) (ec e)
  obtain⟨b1,hb1⟩:=kw hm;obtain⟨id,b0,h1,h2,h3,_⟩:=hlent k b1 hb1;exact⟨id,b0,h1,h2,h3⟩
 have hinj:∀k k',k∈bs'.map (·.1)->k'∈bs'.map (·.1)->lk κ k=lk κ k'->k=k':=fun k k' h1 h2 he=>by
  exact zba
 let XR:Nat->Prop:=fun g=>∃(j:Nat) (e:TypeId) (i:Nat) (v:Value),os[j]?=some (e,[i])/\held a w ρ (mpc κ i)=some v/\v.ownBlock=some g
 let XB:Nat->Prop:=fun g=>∃(k:Nat) (b:Blk),look k bs=some b/\g=ρ (lk κ k)
 have hXR:∀g,XR g->M g/\g<w.heap.size/\(∀id b,look id st.h=some b->g≠ρ id):=fun g ⟨j,e,i,v,h1,h2,h3⟩=>by
  obtain⟨i',c0,e1,e2,e3⟩:=hf1 j e _ h1;cases e1;obtain⟨-,⟨m,xs,g1,g2⟩,g3⟩:=S.oval e2 e3 h2;exact⟨(g2 g h3).1,(g1.lt _ h3).2,fun id b hb he=>g3 id b hb (by rw[h3,he])⟩
 have hXB:∀g,XB g->M g/\g<w.heap.size/\∃id b,look id st.h=some b/\g=ρ id/\∃k,look k κ=some id:=fun g ⟨k,b,h1,h2⟩=>by
  obtain⟨id,b0,e1,e2,e3,_⟩:=hlent k b h1;obtain⟨q1,q2,q3⟩:=S.hp id b0 e3;rw[e2] at h2;subst h2;exact⟨q2,q3,id,b0,e3,rfl,k,e1⟩
 have hXD:∀D,w.heap[D]?=some (.deferred (some []))->¬(XR D\/XB D):=fun D hd hx=>by
  rcases hx with⟨j,e,i,v,h1,h2,h3⟩|⟨k,b,h1,h2⟩
  .obtain⟨i',c0,e1,e2,e3⟩:=hf1 j e _ h1;cases e1;obtain⟨-,⟨m,xs,g1,g2⟩,g3⟩:=S.oval e2 e3 h2;rcases g1.2 with⟨q1,_⟩|⟨g',cap,cur,q1,_,⟨_,_,q3⟩,_⟩
   .rw[q1] at h3;simp[Value.ownBlock] at h3
   rw[q1] at h3;simp only[Value.ownBlock,vk] at h3;subst h3;rw[q3] at hd;cases hd
  obtain⟨id,b0,e1,e2,e3,_⟩:=hlent k b h1;obtain⟨q1,_,_⟩:=S.hp id b0 e3;rw[e2] at h2;subst h2
  have hc:b0.isCon=false:=by
   obtain⟨id',b1,z1,z2,_,_,z3⟩:=hB _ (ec h1);rw[e1] at z1;cases z1;rw[e3] at z2;cases z2;exact z3
  cases b0 with
  |var cs _ _=>obtain⟨_,_,q,_⟩:=q1;rw[q] at hd;cases hd
  |map es _=>obtain⟨_,_,q,_⟩:=q1;rw[q] at hd;cases hd
  |itr es c _=>obtain⟨_,_,_,_,q,_⟩:=q1;rw[q] at hd;cases hd
  |con cs=>cases hc
 have hXM:∀g,(XR g\/XB g)->M g/\g<w.heap.size:=fun g h=>h.elim (fun h=>⟨(hXR g h).1,(hXR g h).2.1⟩) (fun h=>⟨(hXB g h).1,(hXB g h).2.1⟩)
 have hrow:∀(j:Nat) e c0,st.o[j]?=some (e,c0)->(∀(j':Nat) e' i,os[j']?=some (e',[i])->mpc κ i ∉ c0)->∀i∈c0,∀u g,held a w ρ i=some u->u.ownBlock=some g->¬(XR g\/XB g):=fun j e c0 hj hno i hi u g hu hg hx=>by
  rcases hx with⟨j',e',i',v,h1,h2,h3⟩|hx
  .obtain⟨i2,c2,e1,e2,e3⟩:=hf1 j' e' _ h1;cases e1
   have hne:j≠f j':=fun he=>by
    subst he;rw[hj] at e2;cases e2;exact hno j' e i' h1 e3
   exact S.od j (f j') e c0 e' c2 hne hj e2 i hi (mpc κ i') e3 u v g hu h2 hg h3
  obtain⟨_,_,id,b,hb,he,_⟩:=hXB g hx;exact(S.oval hj hi hu).2.2 id b hb (by rw[hg,he])
 have hblk:∀id b,look id st.h=some b->(∀k b',look k bs'=some b'->lk κ k≠id)->¬(XR (ρ id)\/XB (ρ id)):=fun id b hb hno hx=>by
  rcases hx with hx|⟨k,b1,h1,h2⟩
  .exact(hXR _ hx).2.2 id b hb rfl
  obtain⟨id',b0,e1,e2,e3,_⟩:=hlent k b1 h1;rw[e2] at h2;have:=S.inj id id' b b0 hb e3 h2;subst this;have hm:k∈bs'.map (·.1):=by rw[hk',<- hk];exact xbi (f:=(·.1)) (ec h1)
  obtain⟨b2,hb2⟩:=kw hm;exact hno k b2 hb2 e2
 refine⟨hXM,hblk,hrow,?_,?_⟩
 .refine { hp:= ?_,nb:= ?_,inj:= ?_,ow:= ?_,od:= ?_,oc:=fun j e c hj i hi=>⟨(jbz hok hj hi).1,fun he=>by obtain⟨b,hb⟩:=(jbz hok hj hi).2;rw[hb] at he;cases he⟩,lay:=fun g hg hx=>S.lay.2 g hg (hXM g hx).1 }
  .intro k b e;obtain⟨id,b0,e1,e2,e3,e4,e5⟩:=hlent k b e;obtain⟨q1,q2,q3⟩:=S.hp id b0 e3;refine⟨?_,.inr ⟨k,b,e,rfl⟩,by rw[e2];exact q3⟩;rw[e2];exact(jig none).1 (by rw[e4];exact(jig none).2 q1)
  .intro k b q e hq;obtain⟨id,b0,e1,e2,e3,e4,e5⟩:=hlent k b e;rw[e2];rcases e5 with e5|e5
   .rw[e5] at hq;cases hq
   exact S.nb id b0 q e3 (by rw[<- e5];exact hq)
  .intro k k' b b' e e' he;obtain⟨id,b0,e1,e2,e3,_⟩:=hlent k b e;obtain⟨id',b0',e1',e2',e3',_⟩:=hlent k' b' e';have he':ρ (lk κ k)=ρ (lk κ k'):=he;rw[e2,e2'] at he';have:=S.inj id id' b0 b0' e3 e3' he';subst this;exact jam hκ e1 e1'
  .intro j e c hj;obtain⟨i,c0,rfl,e2,e3⟩:=hf1 j e c hj;obtain⟨v,g1,⟨m,xs,g2,g3⟩,g4⟩:=S.ow _ e c0 e2;have hv:=g1 _ e3;refine⟨v,fun i' hi'=>?_,⟨m,xs,g2,fun g hg=>⟨.inl ⟨j,e,i,v,hj,hv,hg⟩,(g3 g hg).2⟩⟩,fun k b hb=>?_⟩
   .simp at hi';subst hi';rw[jag] at hv;exact hv
   obtain⟨id,b0,e1,e2',e3',_⟩:=hlent k b hb
   show v.ownBlock≠some (ρ (lk κ k))
   rw[e2'];exact g4 id b0 e3'
  intro j j' e c e' c' hne hj hj' i hi i' hi' v v' g hv hv' hg;obtain⟨i1,c0,rfl,e2,e3⟩:=hf1 j e c hj;obtain⟨i2,c0',rfl,e2',e3'⟩:=hf1 j' e' c' hj';simp at hi hi';subst hi hi';exact S.od (f j) (f j') e c0 e' c0' (fun he=>hne (hf2 j j' (gsi.1 hj).1 (gsi.1 hj').1 he)) e2 e2' _ e3 _ e3' v v' g (by rw[jag];exact hv) (by rw[jag];exact hv') hg
 intro F' w' hx L;have hlook:=fun i=>jgr (κ:=κ) bs' st.h i (by rw[hk'];exact hnd) hinj
 have hnone:∀i,look i st.h≠none->look i (bg κ bs' st.h)≠none:=fun i hi=>by
  rcases hlook i with⟨k,b,_,_,e3⟩|⟨_,e2⟩
  .rw[e3];cases hl:look i st.h with
   |none=>exact absurd hl hi
   |some x=>simp
  rw[e2];exact hi
 have hold:∀i b,look i (bg κ bs' st.h)=some b->∃b0,look i st.h=some b0/\b.nm=none\/∃b0,look i st.h=some b0/\b.nm=b0.nm:=fun i b e=>by
  rcases hlook i with⟨k,b',_,_,e3⟩|⟨_,e2⟩
  .rw[e3] at e;obtain⟨x,hx1,rfl⟩:=msi.1 e;cases hb:b'.wn x.nm with
   |con cs=>exact⟨x,.inl ⟨hx1,rfl⟩⟩
   |var cs n _=>
    cases b' <;> simp only[Blk.wn] at hb<;>cases hb
    exact⟨x,.inr ⟨x,hx1,rfl⟩⟩
   |itr es c n=>
    cases b' <;> simp only[Blk.wn] at hb<;>cases hb
    exact⟨x,.inr ⟨x,hx1,rfl⟩⟩
   |map es n=>
    cases b' <;> simp only[Blk.wn] at hb<;>cases hb
    exact⟨x,.inr ⟨x,hx1,rfl⟩⟩
  rw[e2] at e;exact⟨b,.inr ⟨b,e,rfl⟩⟩
 have hex:∀i b,look i (bg κ bs' st.h)=some b->∃b0,look i st.h=some b0:=fun i b e=>by
  cases h:look i st.h with
  |some b0=>exact⟨b0,rfl⟩
  |none=>
   rcases hlook i with⟨k,b',_,_,e3⟩|⟨_,e2⟩
   .rw[e3,h] at e;cases e
   rw[e2,h] at e;cases e
 have hkeep:∀id b,look id st.h=some b->(∀k b',look k bs'=some b'->lk κ k≠id)->w'.heap[ρ id]?=w.heap[ρ id]? := fun id b hb hno=>hx.block _ (S.hp id b hb).2.2 (hblk id b hb hno)
 have hF:∀p v,F' p=some v->∀id b,look id st.h=some b->(∀k b',look k bs'=some b'->lk κ k≠id)->p.block=ρ id->F p=some v:=fun p v hp id b hb hno he=>by
  rcases hx.new p v hp with h|h|h
  .exact h
  .rw[he] at h;exact absurd h (hblk id b hb hno)
  rw[he] at h;have:=(S.hp id b hb).2.2;omega
 have hcls:∀(j:Nat) e c,(remK κ (fo κ os st.o))[j]?=some (e,c)->c=[]\/∃c0,st.o[j]?=some (e,c0)/\(∀i∈c,i∈c0/\held a w' ρ i=held a w ρ i)/\∀i∈c0,∀u g,held a w ρ i=some u->u.ownBlock=some g->¬(XR g\/XB g):=fun j e c hj=>by
  obtain⟨c1,h1,h2⟩:=jln hj;obtain⟨c0,h3,h4⟩:=juu h1;by_cases hc:c=[]
  .exact .inl hc
  right;rcases h4 with⟨rfl,h4⟩|rfl
  .refine⟨c1,h3,fun i hi=>⟨(h2 i hi).1,?_⟩,hrow j e c1 h3 fun j' e' i hj'=>h4 _ (vp hj') i [] rfl⟩;by_cases hge:1000000000<=i
   .rw[dz omq,dz omq];obtain⟨b,hb⟩:=xan.1 (S.oc j e c1 h3 i (h2 i hi).1 hge);refine World.cell?_of_block (hkeep _ b hb fun k b' hb' he=>?_);obtain⟨id,b0,e1,e2,e3⟩:=hlent' k b' hb';exact(h2 i hi).2 hge (k,id) (ec e1) (by rw[<- he,e2])
   rw[kx omq,kx omq]
  exfalso;cases c with
  |nil=>exact hc rfl
  |cons x r=>have:=(h2 x yo).1;cases this
 have hnew:∀g,((XR g\/XB g)\/w.heap.size<=g)->M g:=fun g h=>h.elim (fun h=>(hXM g h).1) (fun h=>S.hM g (xc S.bel.size h))
 have hback:∀(j:Nat) e c,(ep κ os')[j]?=some (e,c)->∃c0,os'[j]?=some (e,c0)/\c=c0.map (mpc κ):=fun j e c hj=>by
  simp only[ep,xe,msi] at hj;obtain⟨⟨e',c'⟩,h1,h2⟩:=hj;simp only[xo] at h2;obtain⟨rfl,rfl⟩:=h2;exact⟨c',h1,rfl⟩
 have hbval:∀(j:Nat) e c0,os'[j]?=some (e,c0)->∀i∈c0,∀u,held a w' ρ (mpc κ i)=some u->∀g,u.ownBlock=some g->((XR g\/XB g)\/w.heap.size<=g):=fun j e c0 hj i hi u hu g hg=>by
  obtain⟨v,g1,⟨m,xs,g2,g3⟩,_⟩:=L.ow j e c0 hj;have:=g1 i hi;rw[jag] at hu;rw[hu] at this;cases this;exact(g3 g hg).1
 refine { n:=S.n,df:=S.df.keep (fun D hd _=>hx.block D (qn hd) (hXD D hd)),sees:=hx.fr,lay:=S.lay,le:=S.le.trans hx.le,new:= ?_,newm:= ?_,bel:=S.bel.trans ⟨hx.os,hx.tape,hx.output,hx.size,fun q hq hm=>hx.block q hq fun h=>hm (hXM q h).1⟩,hM:=S.hM,tm:= ?_,wf:= ?_,hp:= ?_,nn:=S.nn,z:= ?_,nb:= ?_,inj:= ?_,ow:= ?_,od:= ?_,oc:= ?_ }
 .intro p v e;rcases hx.new p v e with h|h|h
  .exact S.new p v h
  .exact .inr (hXM _ h).1
  exact .inr (S.hM _ (xc S.bel.size h))
 .intro b xs e;rcases hx.newm b xs e with h|h|h
  .exact S.newm b xs h
  .exact .inr (hXM _ h).1
  exact .inr (S.hM _ (xc S.bel.size h))
 .intro i tv e;obtain⟨x,h1,h2⟩:=S.tm i tv e;exact⟨x,h1,h2.mono hx.le⟩
 .intro i tv e;have hw:=S.wf i tv e;cases tv with
  |p id off=>exact hnone id hw
  |m id=>exact hnone id hw
  |s id off m size=>exact hnone id hw
  |v y=>trivial
  |u=>trivial
 .intro i b e;rcases hlook i with⟨k,b',e1,e2,e3⟩|⟨e1,e2⟩
  .replace e:look i (bg κ bs' st.h)=some b:=e
   rw[e3] at e;obtain⟨x,hx1,rfl⟩:=msi.1 e;obtain⟨q1,q2,q3⟩:=L.hp k b' e1;obtain⟨p1,p2,p3⟩:=S.hp i x hx1;refine⟨?_,p2,xao p3 hx.size⟩;have q1':RepB F' w' (ρ (lk κ k)) b':=q1;rw[e2] at q1';exact(jig x.nm).2 q1'
  replace e:look i (bg κ bs' st.h)=some b:=e
  rw[e2] at e;obtain⟨p1,p2,p3⟩:=S.hp i b e;refine⟨?_,p2,xao p3 hx.size⟩;have hke:=hkeep i b e e1;cases b with
  |var cs q _=>
   obtain⟨ys,ty,r1,r2,r3,r4,r5⟩:=p1;exact⟨ys,ty,hke.trans r1,r2,r3,fun j c x q1 q2=>(r4 j c x q1 q2).mono hx.le,fun p v hp hpb=>r5 p v (hF p v hp i _ e e1 hpb) hpb⟩
  |con cs=>
   obtain⟨g,r1,r2,r3⟩:=p1;exact⟨g,r1,fun j c hj=>hx.le _ _ (r2 j c hj),fun j c hj=>(r3 j c hj).mono hx.le⟩
  |itr es c q=>exact RepB.itr_mono p1 hke hx.le
  |map es q=>
   obtain⟨ys,ck,r1,r0,r2,r3⟩:=p1;refine⟨ys,ck,hke.trans r1,?_,r2,fun j k v x q1 q2=>⟨((r3 j k v x q1 q2).1).mono hx.le,((r3 j k v x q1 q2).2).mono hx.le⟩⟩;cases hm:F'.m (ρ i) with
   |none=>rfl
   |some zs=>
    rcases hx.newm _ zs hm with h|h|h
    .rw[r0] at h;cases h
    .exact absurd h (hblk i _ e e1)
    omega
 .intro i b hi e;obtain⟨b0,hb0⟩:=hex i b e;exact S.z i b0 hi hb0
 .intro i b q e hq;obtain⟨b0,h|⟨b1,h1,h2⟩⟩:=hold i b e
  .rw[h.2] at hq;cases hq
  exact S.nb i b1 q h1 (by rw[<- h2];exact hq)
 .intro i i' b b' e e' he;obtain⟨b0,hb0⟩:=hex i b e;obtain⟨b0',hb0'⟩:=hex i' b' e';exact S.inj i i' b0 b0' hb0 hb0' he
 .intro j e c hj
  replace hj:(ep κ os'++remK κ (fo κ os st.o))[j]?=some (e,c):=hj
  rcases xk j (ep κ os').length with hlt|hge
  .rw[xp hlt] at hj;obtain⟨c0,h1,rfl⟩:=hback j e c hj;obtain⟨v,g1,⟨m,xs,g2,g3⟩,g4⟩:=L.ow j e c0 h1;refine⟨v,fun i hi=>?_,⟨m,xs,g2,fun g hg=>⟨hnew g (g3 g hg).1,(g3 g hg).2⟩⟩,fun i b e' he=>?_⟩
   .obtain⟨i0,hi0,rfl⟩:=ya.1 hi;rw[jag];exact g1 i0 hi0
   replace e':look i (bg κ bs' st.h)=some b:=e'
   rcases hlook i with⟨k,b',e1,e2,e3⟩|⟨e1,e2⟩
   .exact g4 k b' e1 (by show _=some (ρ (lk κ k));rw[e2];exact he)
   rw[e2] at e';rcases (g3 _ he).1 with h|h
   .exact hblk i b e' e1 h
   have:=(S.hp i b e').2.2;omega
  rw[yb hge] at hj;rcases hcls _ e c hj with rfl|⟨c0,h1,h2,h3⟩
  .exact ze
  obtain⟨v,g1,⟨m,xs,g2,g3⟩,g4⟩:=S.ow _ e c0 h1;by_cases hemp:c=[]
  .subst hemp;exact ze
  obtain⟨i0,hi0⟩:=List.exists_mem_of_ne_nil c hemp;have hno:∀g,v.ownBlock=some g->¬(XR g\/XB g):=fun g hg=>h3 i0 (h2 i0 hi0).1 v g (g1 i0 (h2 i0 hi0).1) hg;refine⟨v,fun i hi=>by rw[(h2 i hi).2];exact g1 i (h2 i hi).1,⟨m,xs,?_,fun g hg=>⟨(g3 g hg).1,fun p u hp hpg=>?_⟩⟩,fun i b e'=>?_⟩
  .cases hv:v.ownBlock with
   |none=>
    rcases g2.2 with⟨rfl,hm0⟩|⟨g,cap,cur,rfl,_⟩
    .exact⟨g2.1,.inl ⟨rfl,hm0⟩⟩
    simp[Value.ownBlock] at hv
   |some g=>
    refine⟨g2.1,?_⟩;rcases g2.2 with h|⟨g',cap,cur,q1,q2,⟨fz,qf,q3⟩,q4⟩
    .exact .inl h
    have hlt:=(g2.lt g' (by rw[q1];rfl)).2;exact .inr ⟨g',cap,cur,q1,q2,⟨fz,qf,(hx.block g' hlt (hno g' (by rw[q1];rfl))).trans q3⟩,q4⟩
  .rcases hx.new p u hp with h|h|h
   .exact(g3 g hg).2 p u h hpg
   .rw[hpg] at h;exact absurd h (hno g hg)
   rw[hpg] at h;have:=(g2.lt _ hg).2;omega
  obtain⟨b0,hb0⟩:=hex i b e';exact g4 i b0 hb0
 .intro j j' e c e' c' hne hj hj' i hi i' hi' v v' g hv hv' hg
  replace hj:(ep κ os'++remK κ (fo κ os st.o))[j]?=some (e,c):=hj
  replace hj':(ep κ os'++remK κ (fo κ os st.o))[j']?=some (e',c'):=hj'
  have rest:∀(j:Nat) e c,(remK κ (fo κ os st.o))[j]?=some (e,c)->∀i∈c,∀v,held a w' ρ i=some v->∃c0,st.o[j]?=some (e,c0)/\i∈c0/\held a w ρ i=some v/\∀g,v.ownBlock=some g->¬((XR g\/XB g)\/w.heap.size<=g):=fun j e c hj i hi v hv=>by
   rcases hcls j e c hj with rfl|⟨c0,h1,h2,h3⟩
   .cases hi
   obtain⟨h4,h5⟩:=h2 i hi;rw[h5] at hv;refine⟨c0,h1,h4,hv,fun g hg h=>?_⟩;rcases h with h|h
   .exact h3 i h4 v g hv hg h
   obtain⟨-,⟨m,xs,g2,_⟩,-⟩:=S.oval h1 h4 hv;have:=(g2.lt _ hg).2;omega
  rcases xk j (ep κ os').length with hlt|hge
  .rw[xp hlt] at hj;obtain⟨c0,h1,rfl⟩:=hback j e c hj;obtain⟨i0,hi0,rfl⟩:=ya.1 hi;rcases xk j' (ep κ os').length with hlt'|hge'
   .rw[xp hlt'] at hj';obtain⟨c0',h1',rfl⟩:=hback j' e' c' hj';obtain⟨i0',hi0',rfl⟩:=ya.1 hi';rw[jag] at hv hv';exact L.od j j' e c0 e' c0' hne h1 h1' i0 hi0 i0' hi0' v v' g hv hv' hg
   rw[yb hge'] at hj';obtain⟨c0',_,_,_,h4⟩:=rest _ e' c' hj' i' hi' v' hv';exact fun hg'=>h4 g hg' (hbval j e c0 h1 i0 hi0 v hv g hg)
  rw[yb hge] at hj;obtain⟨c0,h1,h2,h3,h4⟩:=rest _ e c hj i hi v hv;rcases xk j' (ep κ os').length with hlt'|hge'
  .rw[xp hlt'] at hj';obtain⟨c0',h1',rfl⟩:=hback j' e' c' hj';obtain⟨i0',hi0',rfl⟩:=ya.1 hi';exact fun hg'=>h4 g hg (hbval j' e' c0' h1' i0' hi0' v' hv' g hg')
  rw[yb hge'] at hj';obtain⟨c0',h1',h2',h3',_⟩:=rest _ e' c' hj' i' hi' v' hv';exact S.od _ _ e c0 e' c0' omq h1 h1' i h2 i' h2' v v' g h3 h3' hg
 intro j e c hj i hi hge
 replace hj:(ep κ os'++remK κ (fo κ os st.o))[j]?=some (e,c):=hj
 show look (pid i) (bg κ bs' st.h)≠none
 rcases xk j (ep κ os').length with hlt|hge'
 .rw[xp hlt] at hj;obtain⟨c0,h1,rfl⟩:=hback j e c hj;obtain⟨i0,hi0,rfl⟩:=ya.1 hi;obtain⟨_,b,hb⟩:=jbz hok' h1 hi0;obtain⟨id,b0,e1,e2,e3⟩:=hlent' _ b hb;have:pid (mpc κ i0)=id:=by unfold mpc;rw[gl (jqs i0),e2]
  rw[this];exact hnone id (by rw[e3];simp)
 rw[yb hge'] at hj;rcases hcls _ e c hj with rfl|⟨c0,h1,h2,_⟩
 .cases hi
 exact hnone _ (S.oc _ e c0 h1 i (h2 i hi).1 hge)
theorem qjg(hκ:ndk κ=true)(hk:bs.map (·.1)=κ.map (·.1))(hk':bs'.map (·.1)=κ.map (·.1))(hB:∀x∈bs,jcz κ h x){k:Nat}{b:Blk}(e:look k bs'=some b):
  look (lk κ k) (bg κ bs' h)≠none:=by
 have hlent':∀k b,look k bs'=some b->∃id b0,look k κ=some id/\lk κ k=id/\look id h=some b0:=fun k b e=>by
  have hm:k∈bs.map (·.1):=by rw[hk,<- hk'];exact xbi (f:=(·.1)) (ec e)
  obtain⟨b1,hb1⟩:=kw hm;obtain⟨id,b0,h1,h2,h3,_⟩:=hB _ (ec hb1);exact⟨id,b0,h1,kz h1,h2⟩
 obtain⟨id,b0,e1,e2,e3⟩:=hlent' k b e
 have hinj:∀k k',k∈bs'.map (·.1)->k'∈bs'.map (·.1)->lk κ k=lk κ k'->k=k':=fun k k' h1 h2 he=>by
  exact zba
 rcases jgr (κ:=κ) bs' h (lk κ k) (by rw[hk'];exact je6 hκ) hinj with⟨_,_,_,_,h3⟩|⟨h1,_⟩
 .rw[h3,e2,e3];simp
 exact absurd rfl (h1 k b e)
theorem jdk{ρa:Operand->Option TV}{ρc:Operand->Value}{F:Frz}{ρ:Nat->Nat}(G:∀x tv,ρa x=some tv->RepT F ρ tv (ρc x)):∀(l:List Operand) {ts:List TV},jg ρa l=some ts->
  ts.length=l.length/\∀(j:Nat) t x,ts[j]?=some t->(l.map ρc)[j]?=some x->RepT F ρ t x
 |[],ts,e=>by simp only[jg,vk] at e;subst e;simp
 |y::r,ts,e=>by
  simp only[jg] at e;split at e
  .rename_i v vs h1 h2;cases e;obtain⟨hl,hh⟩:=jdk G r h2;refine⟨by simp[hl],fun j t x e1 e2=>?_⟩;cases j with
   |zero=>simp at e1 e2;subst e1 e2;exact G y _ h1
   |succ j=>exact hh j t x (by simpa using e1) (by simpa using e2)
  cases e
theorem jyc{ρa:Operand->Option TV}: ∀ {l:List Operand} {vs:List V},vsOf ρa l=some vs->jg ρa l=some (vs.map .v)
 |[],vs,e=>by simp only[vsOf,vk] at e;subst e;rfl
 |x::r,vs,e=>by
  simp only[vsOf] at e;split at e
  .rename_i v ws h1 h2;cases e;simp only[jg,jyc h2];rw[jeg h1];rfl
  cases e
theorem qum{F:Frz}{ρ:Nat->Nat}(hn:∀id k b,look id h=some k->k.nm=some b->ρ id=b){t s:TV}{x:Value}(ha:ArgM κ h t s)(hr:RepT F ρ s x):RepT F (fun k=>ρ (lk κ k)) t x:=by
 have nm:∀ {id b:Nat},nmOf (look id h)=some b->ρ id=b:=fun {id b} e=>by
  cases hk:look id h with
  |none=>rw[hk] at e;cases e
  |some k=>rw[hk] at e;exact hn id k b hk e
 cases ha with
 |v x=>exact hr
 |p e=>simp only[RepT] at hr ⊢;rw[kz e];exact hr
 |s e=>simp only[RepT] at hr ⊢;rw[kz e];exact hr
 |m e=>simp only[RepT] at hr ⊢;rw[kz e];exact hr
 |pn e e'=>simp only[RepT];rw[kz e,nm e'];exact al hr
 |mn e e'=>simp only[RepT];rw[kz e,nm e'];exact al hr
 |sn e e' h1 h2 h3=>simp only[RepT];rw[kz e,nm e'];exact⟨_,h1,h2,h3,al hr⟩
theorem jy4{F:Frz}{ρ:Nat->Nat}(hn:∀id k b,look id h=some k->k.nm=some b->ρ id=b){l m:List TV}(ha:ArgsM κ h l m):
  ∀ {xs:List Value},jba F ρ m xs->jba F (fun k=>ρ (lk κ k)) l xs:=by
 induction ha with
 |nil=>rintro xs ⟨h1,_⟩;exact⟨h1,fun j t x e=>by simp at e⟩
 |cons x t ih=>
  rintro xs ⟨h1,h2⟩
  match xs,h1 with
  |y::xs,h1=>
   have:=ih (xs:=xs) ⟨by simpa using h1,fun j v y e1 e2=>h2 (j+1) v y ze4 zeu⟩;refine⟨by simp[this.1],fun j v z e1 e2=>?_⟩;cases j with
   |zero=>simp at e1 e2;subst e1 e2;exact qum hn x (h2 0 _ _ rfl rfl)
   |succ j=>exact this.2 j v z (by simpa using e1) (by simpa using e2)
theorem Sim.extS(S:SimS P T M F0 w0 F ρ st a w){os os':List (TypeId×List Nat)}(hκ:ndk κ=true)(hk:bs.map (·.1)=κ.map (·.1))(hk':bs'.map (·.1)=κ.map (·.1)) 
  (hB:∀x∈bs,jcz κ st.h x) (hO:su κ os st.o) (hok:okO bs os=true) (hok':okO bs' os'=true):
  ∃X:Nat->Prop,Lends P T F w (fun k=>ρ (lk κ k)) X bs os/\∀F' w',ExtS X F w F' w'->Lends P T F' w' (fun k=>ρ (lk κ k)) (fun g=>X g\/w.heap.size<=g) bs' os'->
   SimS P T M F0 w0 F' ρ { st with h:=bg κ bs' st.h,o:=ep κ os'++remK κ (fo κ os st.o) } a w':=by
 obtain⟨_,_,_,L,h⟩:=Sim.extS' S hκ hk hk' hB hO hok hok';exact⟨_,L,h⟩
theorem qim{k:St->TV->Prop}{g:FuncId}{cap:List V}{ts:List TV}(S:SimS P T M F0 w0 F ρ st a w)(ho:op.op=.call c)(hc:c.callee=.value f) 
  (hf:vOf (opv st.σ f)=some (.func g cap)) (hts:jg (opv st.σ) c.args.toList=some ts) (hk:qek P T g ts cap st k) {next:Act->World->Prop} {Q:Exit->Act->World->Prop}
  (kk:∀F' w' y st' tv,SimS P T M F0 w0 F' ρ st' a w'->RepT F' ρ tv y->wfT st'.h tv->k st' tv->next (a.put op.dst y) w'):opG rd P op a w next Q:=by
 have G:=Sim.good S;have hfv:=G.v hf;generalize hfx:a.eval f=fx at hfv;cases hfv with
 |func hl hh=>
  rename_i xs;obtain⟨hl2,hh2⟩:=jdk G.opr _ hts;obtain⟨κ,bs,bs',os,os',as,r,hden,hargs,hκ,hk1,hk2,hB,hO,ok1,ok2,okr,hK⟩:=hk;obtain⟨X,L,hback⟩:=Sim.extS S hκ hk1 hk2 hB hO ok1 ok2
  have ha0:jba F ρ (ts++cap.map .v) ((c.args.toList.map a.eval)++xs.toList):=by
   refine⟨by simp[hl,hl2],fun j v x e1 e2=>?_⟩;by_cases hj:j<ts.length
   .exact zh
   exact zp
  have hrun:∀(he:Enters P g),(execOp a.eval op).run P w=.ok (.enter g ((c.args.toList.map a.eval)++xs.toList).toArray) w:=by
   intro he;have:=he ((c.args.map a.eval)++xs) w
   have harr:((c.args.toList.map a.eval)++xs.toList).toArray=(c.args.map a.eval)++xs:=by
    apply yj;simp
   exact zi
  refine tn (hrun hden.1) ?_;refine(hden.2 w F _ X _ S.sees (S.laid) L (jy4 S.nb hargs ha0)).mono ?_;rintro e w' ⟨y,F',rfl,hx,hL,hr⟩
  have there:∀k,(look k bs').isSome=true->look (lk κ k) (bg κ bs' st.h)≠none:=fun k hk=>by
   obtain⟨b,hb⟩:=xbe.1 hk;exact qjg hκ hk1 hk2 hB hb
  refine kk F' w' y _ _ (hback F' w' hx hL) ?_ ?_ hK
  .cases r<;>exact hr
  cases r with
  |v x=>trivial
  |u=>trivial
  |p k off=>simp only[okA,xc7] at okr;exact there k okr
  |m k=>simp only[okA,xc7] at okr;exact there k okr
  |s k off n size=>simp only[okA,xc7] at okr;exact there k okr
theorem qll{K:V->Option TypeId->Prop}{KN:Nat->List (List V)->Prop}{g:FuncId}{cap vs:List V}(S:SimS P T M F0 w0 F ρ st a w)(ho:op.op=.call c)(hc:c.callee=.value f) 
  (hf:vOf (opv st.σ f)=some (.func g cap)) (hvs:vsOf (opv st.σ) c.args.toList=some vs) {MX:Prop} (hk:Call P T g (vs++cap) K KN MX) {next:Act->World->Prop} {Q:Exit->Act->World->Prop}
  (k:∀F' w' y r own,Ext F w F' w'->Rep F' r y->(∀e,own=some e->Own F' w' (fun g=>w.heap.size<=g) e (P.cellsOf e) y)->K r own->next (a.put op.dst y) w')
  (kn:∀F' w' y size es,Ext F w F' w'->New F' w' w.heap.size size es y->KN size es->next (a.put op.dst y) w') (km:MX->opG rd P op a w next Q):opG rd P op a w next Q:=by
 have G:=Sim.good S;have hfv:=G.v hf;generalize hfx:a.eval f=fx at hfv;cases hfv with
 |func hl hh=>
  rename_i xs;obtain⟨hl2,hh2⟩:=jk9 G hvs
  have hargs:Reps F (vs++cap) ((c.args.toList.map a.eval)++xs.toList):=by
   refine⟨by simp[hl,hl2],fun j v x e1 e2=>?_⟩;by_cases hj:j<vs.length
   .exact zh
   exact zc
  have hrun:∀(he:Enters P g),(execOp a.eval op).run P w=.ok (.enter g ((c.args.toList.map a.eval)++xs.toList).toArray) w:=by
   intro he;have:=he ((c.args.map a.eval)++xs) w
   have harr:((c.args.toList.map a.eval)++xs.toList).toArray=(c.args.map a.eval)++xs:=by
    apply yj;simp
   exact zi
  rcases hk with⟨r,hden,hk⟩|⟨r,e,hden,hk⟩|⟨size,es,hden,hk⟩|hk
  rotate_left 3
  .exact km hk
  .refine tn (hrun hden.1) ?_;refine(hden.2 w F _ S.sees (S.laid) hargs).mono ?_;rintro e w' ⟨y,F',rfl,hx,hr⟩;exact k F' w' y r none hx hr (fun e he=>by cases he) hk
  .refine tn (hrun hden.1) ?_;refine(hden.2 w F _ S.sees (S.laid) hargs).mono ?_;rintro e' w' ⟨y,F',rfl,hx,hr,hown⟩;exact k F' w' y r (some e) hx hr (fun e he=>by cases he;exact hown) hk
  refine tn (hrun hden.1) ?_;refine(hden.2 w F _ S.sees (S.laid) hargs).mono ?_;rintro e' w' ⟨y,F',rfl,hx,hn⟩;exact kn F' w' y size es hx hn hk
def flat(m size:Nat)(g:Nat->Nat->Value):List Value:=(List.range (m*size)).map fun q=>g (q / size) (q % size)
theorem jdn(m size:Nat)(g:Nat->Nat->Value):(flat m size g).length=m*size:=by simp[flat]
theorem ji5{size:Nat}{g:Nat->Nat->Value}(hi:i<m)(hj:j<size):(flat m size g)[i*size+j]?=some (g i j):=by
 have hlt:i*size+j<m*size:=by
  have:(i+1)*size<=m*size:=xb2 _ hi;rw[yy] at this;omega
 have h1:(i*size+j) / size=i:=by
  rw[xbq,Nat.mul_add_div omq,xd7 hj];simp
 have h2:(i*size+j) % size=j:=by
  rw[xbq,Nat.mul_add_mod,Nat.mod_eq_of_lt hj]
 simp[flat,hlt,h1,h2]
theorem jz9{size:Nat}{g:Nat->Nat->Value}{u:Value}(h:(flat m size g)[q]?=some u):∃i j,i<m/\j<size/\q=i*size+j/\u=g i j:=by
 have hlt:q<m*size:=by
  have:=(gsi.1 h).1
  rwa [jdn] at this
 have hs:0<size:=by
  rcases xd8 size with h0|h0
  .subst h0;simp at hlt
  exact h0
 refine⟨q / size,q % size,(Nat.div_lt_iff_lt_mul hs).2 hlt,Nat.mod_lt _ hs,?_,?_⟩
 .rw[xbq];exact(xcj q size).symm
 simp[flat,hlt] at h;exact h.symm
theorem jgg{size:Nat}{x:Value}(hF:Sees F w)(h:Rep F (.slice size es) x):
  ∃g:Nat->Nat->Value,((x=.slice none 0 0/\es.length=0)\/∃a c,x=.slice (some a) es.length c/\∀j u,(flat es.length size g)[j]?=some u->w.cell? (a.add j)=some u)/\
   (∀u∈flat es.length size g,u.oneCell'=true)/\(∀e∈es,e.length=size)/\(∀e∈es,∀c∈e,c.one=true)/\
   ∀(i j:Nat) e c,es[i]?=some e->e[j]?=some c->Rep F c (g i j):=by
 rcases py h with⟨rfl,rfl⟩|⟨a,cap,g,rfl,hc,hm,hs,ho,hg,hr⟩
 .exact⟨fun _ _=>undef,.inl ⟨rfl,rfl⟩,by simp[flat],smq,smq,smq⟩
 have key:∀i j,i<es.length->j<size->∃e c,es[i]?=some e/\e[j]?=some c:=fun i j hi hj=>by
  have he:=gge hi;have hl:=hs es[i] (xbo hi);exact⟨es[i],es[i][j]' omq,he,gge omq⟩
 refine⟨g,.inr ⟨a,cap,rfl,fun q u hq=>?_⟩,fun u hu=>?_,hs,ho,hr⟩
 .obtain⟨i,j,hi,hj,rfl,rfl⟩:=jz9 hq;obtain⟨e,c,h1,h2⟩:=key i j hi hj;exact hF _ _ (hg i j e c h1 h2)
 obtain⟨q,hq⟩:=xm hu;obtain⟨i,j,hi,hj,rfl,rfl⟩:=jz9 hq;obtain⟨e,c,h1,h2⟩:=key i j hi hj;exact(hr i j e c h1 h2).one (ho e (vp h1) c (vp h2))
theorem qlt(S:SimS P T M F0 w0 F ρ st a w)(ho:op.op=.call c)(hc:c.callee=.builtin .append)(hk:appK P op c st K) 
  {next:Act->World->Prop} {Q:Exit->Act->World->Prop} (k:∀F' ρ' st' a' w',SimS P T M F0 w0 F' ρ' st' a' w'->K st'->next a' w'):opG rd P op a w next Q:=by
 have G:=Sim.good S;unfold appK at hk;split at hk
 .rename_i s x t t' d h1 h2 hd;split at hk
  .rename_i htt;subst htt;split at hk
   .rename_i e size hsl;obtain⟨hu,hsz,hz⟩:=ip hsl;split at hk
    .rename_i es io xsv hS hX;obtain⟨hzc,happ,hdn,hK⟩:=hk;obtain⟨inf,hi⟩:=mc (P:=P) (t:=e) omq;have hisz:inf.size=size:=by rw[<- hsz];simp[Program.cellsOf,hi]
     have hiby:inf.bytes=P.bytesOf e:=by simp[Program.bytesOf,hi]
     have hzz:∃z,inf.zero=some z/\z.cells.size=size:=by
      exact zbp
     obtain⟨z,hz1,hz2⟩:=hzz
     have hrow:∃xs0,co w 0 e size (a.eval s) es.length xs0/\(∀g,(a.eval s).ownBlock=some g->M g)/\(∀g,(a.eval s).ownBlock=some g->∀p u,F p=some u->p.block=g->p.off<es.length*size)/\
       (∀id b,look id st.h=some b->(a.eval s).ownBlock≠some (ρ id))/\
       (∀(j:Nat) e c,(ra io st.o)[j]?=some (e,c)->∀i∈c,∀u g,held a w ρ i=some u->(a.eval s).ownBlock=some g->u.ownBlock≠some g)/\
       (∀e∈es,e.length=size)/\(∀e∈es,∀c∈e,c.one=true)/\
       ∀(i j:Nat) e c,es[i]?=some e->e[j]?=some c->∃u,xs0[i*size+j]?=some u/\Rep F c u:=by
      unfold appS at hS;split at hS
      .rename_i hv;cases hS;have:=al (G.v hv);rw[this];exact⟨[],co.nil w 0 e size,by simp[Value.ownBlock],by simp[Value.ownBlock],by simp[Value.ownBlock],by simp[Value.ownBlock],smq,smq,smq⟩
      .rename_i s' es' hv;split at hS
       .rename_i i;split at hS
        .rename_i hcond;cases hS;obtain⟨rfl,hown⟩:=hcond;obtain⟨j0,c0,hj0,hi0⟩:=ru hown;obtain⟨v,hv1,⟨m,xs0,hv2,hv3⟩,hv4⟩:=S.ow j0 e c0 hj0
         have hev:a.eval (.tmp i)=v:=by
          exact zm
         have hrep:=G.v hv;rw[hev] at hrep ⊢;rw[hsz] at hv2 hv3
         have hm:m=es.length:=by
          obtain⟨aa,cc,hvv⟩:=ja0 hrep;rcases hv2.2 with⟨e1,e2⟩|⟨g,cap,cur,e1,_⟩
          .rw[e1] at hvv;simp only[Value.slice.injEq] at hvv;omega
          exact zcc
         subst hm;obtain⟨gg,hc1,hc2,hc3,hc4,hc5⟩:=jgg S.sees hrep;refine⟨xs0,hv2,fun g hg=>(hv3 g hg).1,fun g hg=>(hv3 g hg).2,hv4,?_,hc3,hc4,fun i' j e' c e1 e2=>?_⟩
         .intro j' e' c' hj' i' hi' u g hu hg;obtain⟨q1,q2⟩:=jet j' e' c' hj' hi';refine S.od j0 j' e c0 e' c' (fun he=>?_) hj0 q1 i hi0 i' hi' v u g (hv1 i hi0) hu hg;subst he;rw[hj0] at q1;cases q1;exact q2 hi0
         have hi'lt:=(gsi.1 e1).1
         have hjlt:j<s':=by
          have:=(gsi.1 e2).1;rw[hc3 e' (vp e1)] at this;exact this
         refine⟨gg i' j,?_,hc5 i' j e' c e1 e2⟩;have hfl:=ji5 (g:=gg) hi'lt hjlt;rcases hc1 with⟨_,h0⟩|⟨aa,cc,hvv,hcell⟩
         .omega
         have hw:=hcell _ _ hfl;have hob:v.ownBlock=some aa.block:=by rw[hvv];rfl
         have hxl:i'*s'+j<xs0.length:=by
          rw[hv2.1];have:(i'+1)*s'<=es.length*s':=xb2 _ hi'lt;rw[yy] at this;omega
         have hcx:=hv2.cells hob _ _ (gge hxl)
         have haa:aa=⟨aa.block,0,none⟩:=by
          rcases hv2.2 with⟨e1,e2⟩|⟨g,cap,cur,e1,_⟩
          .rw[e1] at hvv;simp at hvv
          rw[e1] at hvv;simp only[Value.slice.injEq,vk] at hvv;rw[<- hvv.1]
         rw[haa] at hw;rw[hw] at hcx;rw[gge hxl,<- xt hcx]
        cases hS
       cases hS
      cases hS
     obtain⟨xs0,r1,rM,r2,r3,r4,r5,r6,r7⟩:=hrow
     have hnew:∃g:Nat->Nat->Value,((a.eval x=.slice none 0 0/\xsv.length=0)\/∃ad c,a.eval x=.slice (some ad) xsv.length c/\∀j u,(flat xsv.length size g)[j]?=some u->w.cell? (ad.add j)=some u)/\
       (∀u∈flat xsv.length size g,u.oneCell'=true)/\(∀e∈xsv,e.length=size)/\(∀e∈xsv,∀c∈e,c.one=true)/\
       ∀(i j:Nat) e c,xsv[i]?=some e->e[j]?=some c->Rep F c (g i j):=by
      unfold appX at hX;split at hX
      .rename_i hv;cases hX;exact zdi
      .rename_i s' es' hv;split at hX
       .rename_i hss;cases hX;subst hss;exact jgg S.sees (G.v hv)
       cases hX
      cases hX
     obtain⟨gx,n1,n2,n3,n4,n5⟩:=hnew;obtain⟨v',w',hrun,hown,hat⟩:=jjw (P:=P) w 0 t op.type e inf z size (P.bytesOf e) hu hi hz1 hisz hiby hz2 omq (a.eval s) es.length xs0 r1 (a.eval x) xsv.length (flat xsv.length size gx) (jdn _ _ _) n1 n2 happ.1 happ.2 (vj _)
     have hrunop:(execOp a.eval op).run P w=.ok (.value v') w':=by
      have ha:c.args= #[s,x]:=by apply yj;simpa using h1
      have hb:c.argTypes= #[t,t]:=by apply yj;simpa using h2
      exact zj
     have S1:Sim P T M F0 w0 F ρ st.n st.σ st.h (ra io st.o) a w:=by
      cases io with
      |none=>exact S
      |some i=>exact Sim.delo S i
     obtain⟨F',f1,f2,f3,f4,f5,f6⟩:=Sim.grow S1 r1 rM r2 r3 r4 hown hat;have hlen:es.length+xsv.length=(es++xsv).length:=by simp
     have hrep:Rep F' (.slice size (es++xsv)) v':=by
      rcases hown.2 with⟨e1,e2⟩|⟨g,cap,cur,e1,e2,e3,e4,e5,_⟩
      .have:es++xsv=[]:=yg omq;rw[this,e1];exact .snil
      have hob:v'.ownBlock=some g:=by rw[e1];rfl
      have hcell:=f6 g hob;rw[e1,hlen]
      have hall:∀(i j:Nat) e c,(es++xsv)[i]?=some e->e[j]?=some c->∃u,(xs0++flat xsv.length size gx)[i*size+j]?=some u/\Rep F' c u:=fun i j e' c g1 g2=>by
       by_cases hi':i<es.length
       .rw[xp hi'] at g1;obtain⟨u,u1,u2⟩:=r7 i j e' c g1 g2;have hl:=(gsi.1 u1).1;exact⟨u,by rw[xp hl];exact u1,u2.mono f1⟩
       rw[yb omq] at g1;have hilt:=(gsi.1 g1).1
       have hjlt:j<size:=by
        have:=(gsi.1 g2).1;rw[n3 e' (vp g1)] at this;exact this
       refine⟨gx (i-es.length) j,?_,(n5 _ j e' c g1 g2).mono f1⟩;have hmul:es.length*size<=i*size:=xb2 _ omq;rw[yb (by rw[r1.1];omega),r1.1,<- ji5 (g:=gx) hilt hjlt];congr 1;rw[Nat.sub_mul];omega
      refine .slice (fun i j=>((xs0++flat xsv.length size gx)[i*size+j]?).getD undef) (by rw[<- hlen];exact e4) e5 (fun e he=>?_) (fun e he=>?_) (fun i j e c g1 g2=>?_) (fun i j e c g1 g2=>?_)
      .rcases xbu.1 he with he|he
       .exact r5 e he
       exact n3 e he
      .rcases xbu.1 he with he|he
       .exact r6 e he
       exact n4 e he
      .obtain⟨u,u1,u2⟩:=hall i j e c g1 g2;rw[eu,xl,hcell _ u u1,u1];rfl
      obtain⟨u,u1,u2⟩:=hall i j e c g1 g2;simp only[u1,Option.getD_some];exact u2
     refine cx hrunop ?_;have S3:=Sim.putr (d:=d) (tv:=.v (.slice size (es++xsv))) f2 hrep trivial hdn;have hszt:d<a.tmps.size:=by rw[S.n];exact hdn
     rw[<- hsz] at f3
     have S4:=S3.newOwn (v:=v') (e:=e) (by rw[qh hszt S.nn,ve rfl]) (fun hge=>(jcu hszt S.nn hge).elim) f3 f4 (fun j e' c' hj i hi u g hu hg=>by
      have hne:i≠d:=fun he=>jmw j e' c' hj (he▸hi);rw[qh hszt S.nn,vd hne] at hu;simp only[remo,xe,msi] at hj;obtain⟨⟨e2,c2⟩,h3,h4⟩:=hj;simp only[xo] at h4;obtain⟨rfl,rfl⟩:=h4
      exact f5 j e2 c2 h3 i (xb7.1 hi).1 u g hu hg)
     show next (a.put op.dst v') w'
     rw[hd];refine k F' ρ _ _ w' ?_ hK;unfold SimS;rw[σ_cons];exact S4
    exact hk.elim
   exact hk.elim
  exact hk.elim
 exact hk.elim
theorem jgb{size:Nat}: ∀ {es:List (List V)} (_:∀e∈es,e.length=size) {q:Nat} {c:V},es.flatten[q]?=some c->∃e,es[q / size]?=some e/\e[q % size]?=some c
 |[],_,q,c,h=>by simp at h
 |e::r,hs,q,c,h=>by
  have he:=hs e smq;rw[List.flatten_cons] at h;by_cases hq:q<e.length
  .rw[xp hq] at h;rw[xd7 omq,Nat.mod_eq_of_lt omq];exact⟨e,rfl,h⟩
  rw[yb omq] at h;obtain⟨e',h1,h2⟩:=jgb (size:=size) (es:=r) (fun x hx=>hs x (by simp[hx])) h;rw[he] at h1 h2
  have hpos:0<size:=by
   rcases xd8 size with h0|h0
   .subst h0
    have hl:∀(r:List (List V)),(∀x∈r,x.length=0)->r.flatten=[]:=fun r=>by
     induction r with
     |nil=>intro _;rfl
     |cons y r ih=>
      intro hy;rw[List.flatten_cons,ih fun x hx=>hy x (by simp[hx]),yg (hy y smq)];rfl
    rw[hl r fun x hx=>hs x (by simp[hx])] at h;simp at h
   exact h0
  have e1:q / size=(q-size) / size+1:=by
   rw[<- Nat.add_div_right _ hpos];congr 1;omega
  have e2:q % size=(q-size) % size:=by
   rw[<- Nat.add_mod_right (q-size) size];congr 1;omega
  exact⟨e',by rw[e1,List.getElem?_cons_succ];exact h1,by rw[e2];exact h2⟩
theorem jdg{size:Nat}: ∀ {es:List (List V)} (_:∀e∈es,e.length=size),es.flatten.length=es.length*size
 |[],_=>by simp
 |e::r,hs=>by
  rw[List.flatten_cons,vr,jdg fun x hx=>hs x (by simp[hx]),hs e smq,List.length_cons,yy,Nat.one_mul,xbm]
theorem qls(S:SimS P T M F0 w0 F ρ st a w)(ho:op.op=.call c)(hc:c.callee=.builtin .append)(hk:appL P op c st K) 
  {next:Act->World->Prop} {Q:Exit->Act->World->Prop} (k:∀F' ρ' st' a' w',SimS P T M F0 w0 F' ρ' st' a' w'->K st'->next a' w'):opG rd P op a w next Q:=by
 have G:=Sim.good S;unfold appL at hk;split at hk
 .rename_i s x t t' d h1 h2 hd;split at hk
  .rename_i htt;subst htt;split at hk
   .rename_i e size hsl;obtain⟨hu,hsz,hz⟩:=ip hsl;split at hk
    .rename_i io xsv hS hX;obtain⟨hpos,hzc,happ,hdn,hdh,hK⟩:=hk;have hne:xsv≠[]:=yn.1 hpos;obtain⟨inf,hi⟩:=mc (P:=P) (t:=e) omq;have hisz:inf.size=size:=by rw[<- hsz];simp[Program.cellsOf,hi]
     have hiby:inf.bytes=P.bytesOf e:=by simp[Program.bytesOf,hi]
     have hzz:∃z,inf.zero=some z/\z.cells.size=size:=by
      exact zbp
     obtain⟨z,hz1,hz2⟩:=hzz
     have hrow:co w 0 e size (a.eval s) 0 []/\(∀g,(a.eval s).ownBlock=some g->M g)/\(∀g,(a.eval s).ownBlock=some g->∀p u,F p=some u->p.block≠g)/\
       (∀id b,look id st.h=some b->(a.eval s).ownBlock≠some (ρ id))/\
       (∀(j:Nat) e c,(ra io st.o)[j]?=some (e,c)->∀i∈c,∀u g,held a w ρ i=some u->(a.eval s).ownBlock=some g->u.ownBlock≠some g):=by
      unfold appS at hS;split at hS
      .rename_i hv;cases hS;have:=al (G.v hv);rw[this];exact⟨co.nil w 0 e size,by simp[Value.ownBlock],by simp[Value.ownBlock],by simp[Value.ownBlock],by simp[Value.ownBlock]⟩
      .rename_i s' es' hv;split at hS
       .rename_i i;split at hS
        .rename_i hcond;cases hS;obtain⟨rfl,hown⟩:=hcond;obtain⟨j0,c0,hj0,hi0⟩:=ru hown;obtain⟨v,hv1,⟨m,xs0,hv2,hv3⟩,hv4⟩:=S.ow j0 e c0 hj0
         have hev:a.eval (.tmp i)=v:=by
          exact zm
         have hrep:=G.v hv;rw[hev] at hrep ⊢;rw[hsz] at hv2 hv3
         have hm:m=0:=by
          obtain⟨aa,cc,hvv⟩:=ja0 hrep;rcases hv2.2 with⟨e1,e2⟩|⟨g,cap,cur,e1,_⟩
          .exact e2
          exact zcc
         subst hm;have hx0:xs0=[]:=yg (by rw[hv2.1];simp);subst hx0;refine⟨hv2,fun g hg=>(hv3 g hg).1,fun g hg p u hp hpg=>?_,hv4,?_⟩
         .have:=(hv3 g hg).2 p u hp hpg;omega
         intro j' e' c' hj' i' hi' u g hu hg;obtain⟨q1,q2⟩:=jet j' e' c' hj' hi';refine S.od j0 j' e c0 e' c' (fun he=>?_) hj0 q1 i hi0 i' hi' v u g (hv1 i hi0) hu hg;subst he;rw[hj0] at q1;cases q1;exact q2 hi0
        cases hS
       cases hS
      cases hS
     obtain⟨r1,rM,r2,r3,r4⟩:=hrow
     have hnew:∃g:Nat->Nat->Value,((a.eval x=.slice none 0 0/\xsv.length=0)\/∃ad c,a.eval x=.slice (some ad) xsv.length c/\∀j u,(flat xsv.length size g)[j]?=some u->w.cell? (ad.add j)=some u)/\
       (∀u∈flat xsv.length size g,u.oneCell'=true)/\(∀e∈xsv,e.length=size)/\(∀e∈xsv,∀c∈e,c.one=true)/\
       ∀(i j:Nat) e c,xsv[i]?=some e->e[j]?=some c->Rep F c (g i j):=by
      unfold appX at hX;split at hX
      .rename_i hv;cases hX;exact zdi
      .rename_i s' es' hv;split at hX
       .rename_i hss;cases hX;subst hss;exact jgg S.sees (G.v hv)
       cases hX
      cases hX
     obtain⟨gx,n1,n2,n3,n4,n5⟩:=hnew;obtain⟨v',w',hrun,hown,hat⟩:=jjw (P:=P) w 0 t op.type e inf z size (P.bytesOf e) hu hi hz1 hisz hiby hz2 omq (a.eval s) 0 [] r1 (a.eval x) xsv.length (flat xsv.length size gx) (jdn _ _ _) n1 n2 (by rw[xl];exact happ.1) (by rw[xl];exact happ.2) (vj _)
     have hrunop:(execOp a.eval op).run P w=.ok (.value v') w':=by
      have ha:c.args= #[s,x]:=by apply yj;simpa using h1
      have hb:c.argTypes= #[t,t]:=by apply yj;simpa using h2
      exact zj
     have S1:SimS P T M F0 w0 F ρ { st with o:=ra io st.o } a w:=by
      cases io with
      |none=>exact S
      |some i=>exact Sim.delo S i
     simp only[xl,List.nil_append] at hown;have hxl:0<xsv.length:=yn.2 hne;rcases hown.2 with⟨e1,e2⟩|⟨g,cap,cur,e1,e2,⟨fz,ef,e3⟩,e4,e5,e6,e7⟩
     .omega
     have hob:v'.ownBlock=some g:=by rw[e1];rfl
     have hcur:∀(q:Nat) c u,xsv.flatten[q]?=some c->cur[q]?=some u->Rep F c u:=fun q c u g1 g2=>by
      obtain⟨e',q1,q2⟩:=jgb n3 g1;have hil:=(gsi.1 q1).1
      have hjl:q % size<size:=by
       have:=(gsi.1 q2).1
       rwa [n3 e' (vp q1)] at this
      have hf:=ji5 (g:=gx) hil hjl;have hqq:q / size*size+q % size=q:=by rw[xbq];exact xcj q size
      rw[hqq] at hf;have hql:=(gsi.1 hf).1;rw[jdn] at hql;have hg2:cur.toList[q]?=some u:=by simpa using g2
      rw[<- e7,yx,ve hql,hg2] at hf;cases hf;exact n5 _ _ e' c q1 q2
     have hlen:xsv.flatten.length<=cur.size:=by
      rw[jdg n3,e6];exact xb2 _ e4
     have hones:∀c∈xsv.flatten,c.one=true:=fun c hc'=>by
      obtain⟨e',h3,h4⟩:=List.mem_flatten.1 hc';exact n4 e' h3 c h4
     refine cx hrunop ?_
     show next (a.put op.dst v') w'
     rw[hd];rcases hat with⟨hq,hg⟩|⟨hq,hg⟩
     ·-- in place
      have hog:(a.eval s).ownBlock=some g:=by rw[<- hq];exact hob
      have hglt:=(r1.lt g hog).2
      have hg0:∃cur0 fz0,FzT cur0.size fz0/\w.heap[g]?=some (.cells cur0 e fz0):=by
       rcases r1.2 with⟨z1,z2⟩|⟨g',cap',cur0,z1,z2,z3,_⟩
       .rw[z1] at hog;cases hog
       exact zd9
      obtain⟨cur0,fz0,hf0,hg0⟩:=hg0
      have S2:SimS P T M F0 w0 F (fun i=>if i=d then g else ρ i) { st with h:=(d,.var [])::st.h,o:=ra io st.o } a w:=
       Sim.bind S1 (k:=.var []) hdn hdh ⟨cur0,⟨(e,fz0),hf0⟩,hg0,vj _,smq,smq,fun p u hp=>r2 g hog p u hp⟩ (rM g hog) hglt (fun id k' hk' he=>r3 id k' hk' (he▸hog)) (fun j e' c hj i hi u hu=>r4 j e' c hj i hi u g hu hog) (fun q hq=>by cases hq)
      have hsee:Sees F w':=⟨fun p u hp=>by
       rw[World.cell?_of_block (w:=w) (hg.block p.block (jf S.sees hp) ze9)];exact S.sees p u hp,fun b xs hb=>by
       obtain⟨ck,hb'⟩:=S.sees.m b xs hb
       refine⟨ck,(hg.block b (ju S.sees hb) zex).trans hb'⟩⟩
      have hx:ExtX g F w F w':=⟨Le.refl F,hsee,fun _ _ h=>.inl h,fun _ _ h=>.inl h,hg.os,hg.tape,hg.output,hg.size,fun q hq' hne'=>hg.block q hq' (by rw[hog];exact fun h=>hne' (xt h))⟩;have S3:=Sim.extX (id:=d) (cs:=[]) (cs':=xsv.flatten) (kk':=none) S2 (er _ _ _) (by simp only[xf];exact hx) (by simp only[xf];exact⟨cur,⟨(e,fz),ef⟩,e3,hlen,hones,hcur,fun p u hp=>r2 g hog p u hp⟩) (fun j e' c hj i hi hge he=>S1.oc j e' c hj i hi hge (by rw[he];exact hdh));refine k F (fun i=>if i=d then g else ρ i) _ _ _ ?_ hK;unfold SimS;rw[σ_cons];refine Sim.putr (tv:=.s d 0 xsv.length size) (h:=(d,.var xsv.flatten)::st.h) ?_ ⟨cap,e4,e5,hxl,by rw[e1];simp⟩ zff hdn;have:=S3;simp only[seth,xf] at this;exact this
     -- a new row
     have hgs:g=w.heap.size:=by rw[hob] at hq;exact xt hq
     have hx:Ext F w F w':=⟨Le.refl F,⟨fun p u hp=>by
      rw[World.cell?_of_block (w:=w) (hg.block p.block (jf S.sees hp) smq)];exact S.sees p u hp,fun b xs hb=>by
      obtain⟨ck,hb'⟩:=S.sees.m b xs hb
      exact⟨ck,(hg.block b (ju S.sees hb) smq).trans hb'⟩⟩,fun _ _ h=>.inl h,fun _ _ h=>.inl h,⟨hg.os,hg.tape,hg.output,hg.size,fun q hq'=>hg.block q hq' smq⟩⟩
     have hN:New F w' w.heap.size size xsv v':= .inr ⟨g,cap,e1,e4,e5,hne,omq,(hown.lt g hob).2,⟨cur,⟨(e,fz),ef⟩,e3,hlen,hones,hcur,fun p u hp=>by have:=jf S.sees hp;omega⟩⟩;obtain⟨ρ',st',S',hK'⟩:=juq (K:=K) (d:=some d) S1 hx hN ⟨hdn,hdh,fun h=>absurd h hne,fun _=>hK⟩;exact k F ρ' st' _ _ S' hK'
    exact hk.elim
   exact hk.elim
  exact hk.elim
 exact hk.elim
theorem jjy{K:St->Prop}(S:SimS P T M F0 w0 F ρ st a w)(ho:op.op=.call c)(hc:c.callee=.builtin .append){s:Operand}{d:Nat}(h1:c.args.toList=[s,x])(h2:c.argTypes.toList=[t,t])(hd:op.dst=some d) 
  {e:TypeId} {size n:Nat} (hsl:slV P t=some (e,size)) {xsv:List (List V)} (hx:(xsv=[]/\a.eval x=.slice none 0 0)\/Rep F (.slice size xsv) (a.eval x)) (hpos:0<xsv.length) (hzc:qw P e size) (happ:th P e (n+xsv.length)) (hdn:d<st.n) (hdh:look d st.h=none)
  {olds:List Value} (r1:co w 0 e size (a.eval s) n olds) (rM:∀g,(a.eval s).ownBlock=some g->M g) (r2:∀g,(a.eval s).ownBlock=some g->∀p u,F p=some u->p.block≠g)
  (r3:∀id b,look id st.h=some b->(a.eval s).ownBlock≠some (ρ id)) (r4:∀(j:Nat) e c,st.o[j]?=some (e,c)->∀i∈c,∀u g,held a w ρ i=some u->(a.eval s).ownBlock=some g->u.ownBlock≠some g)
  {cs:List V} (q1:cs.length=n*size) (q2:∀c∈cs,c.one=true) (q3:∀(q:Nat) c u,cs[q]?=some c->olds[q]?=some u->Rep F c u) (hK:jjf st d e size n cs xsv K)
  {next:Act->World->Prop} {Q:Exit->Act->World->Prop} (k:∀F' ρ' st' a' w',SimS P T M F0 w0 F' ρ' st' a' w'->K st'->next a' w'):opG rd P op a w next Q:=by
 obtain⟨hu,hsz,hz⟩:=ip hsl;have hne:xsv≠[]:=yn.1 hpos;obtain⟨inf,hi⟩:=mc (P:=P) (t:=e) omq;have hisz:inf.size=size:=by rw[<- hsz];simp[Program.cellsOf,hi]
 have hiby:inf.bytes=P.bytesOf e:=by simp[Program.bytesOf,hi]
 have hzz:∃z,inf.zero=some z/\z.cells.size=size:=by
  exact zbp
 obtain⟨z,hz1,hz2⟩:=hzz
 have hnew:∃g:Nat->Nat->Value,((a.eval x=.slice none 0 0/\xsv.length=0)\/∃ad c,a.eval x=.slice (some ad) xsv.length c/\∀j u,(flat xsv.length size g)[j]?=some u->w.cell? (ad.add j)=some u)/\
   (∀u∈flat xsv.length size g,u.oneCell'=true)/\(∀e∈xsv,e.length=size)/\(∀e∈xsv,∀c∈e,c.one=true)/\
   ∀(i j:Nat) e c,xsv[i]?=some e->e[j]?=some c->Rep F c (g i j):=by
  rcases hx with⟨hx,_⟩|hx
  .exact absurd hx hne
  exact jgg S.sees hx
 obtain⟨gx,n1,n2,n3,n4,n5⟩:=hnew;obtain⟨v',w',hrun,hown,hat⟩:=jjw (P:=P) w 0 t op.type e inf z size (P.bytesOf e) hu hi hz1 hisz hiby hz2 omq (a.eval s) n olds r1 (a.eval x) xsv.length (flat xsv.length size gx) (jdn _ _ _) n1 n2 happ.1 happ.2 (vj _)
 have hrunop:(execOp a.eval op).run P w=.ok (.value v') w':=by
  have ha:c.args= #[s,x]:=by apply yj;simpa using h1
  have hb:c.argTypes= #[t,t]:=by apply yj;simpa using h2
  exact zj
 rcases hown.2 with⟨e1,e2⟩|⟨g,cap,cur,e1,e2,⟨fz,ef,e3⟩,e4,e5,e6,e7⟩
 .omega
 have hob:v'.ownBlock=some g:=by rw[e1];rfl
 have hol:olds.length=n*size:=r1.1
 have hcur:∀(q:Nat) c u,(cs++xsv.flatten)[q]?=some c->cur[q]?=some u->Rep F c u:=fun q c u g1 g2=>by
  have hg2:cur.toList[q]?=some u:=by simpa using g2
  have hql:q<(n+xsv.length)*size:=by
   have:=(gsi.1 g1).1;rw[vr,q1,jdg n3] at this;rw[yy];exact this
  have hcu:(olds++flat xsv.length size gx)[q]?=some u:=by rw[<- e7,yx,ve hql];exact hg2
  by_cases hq:q<n*size
  .rw[xp omq] at g1 hcu;exact q3 q c u g1 hcu
  rw[yb omq,q1] at g1;rw[yb omq,hol] at hcu;obtain⟨e',p1,p2⟩:=jgb n3 g1;have hil:=(gsi.1 p1).1
  have hjl:(q-n*size) % size<size:=by
   have:=(gsi.1 p2).1
   rwa [n3 e' (vp p1)] at this
  have hf:=ji5 (g:=gx) hil hjl;have hqq:(q-n*size) / size*size+(q-n*size) % size=q-n*size:=by rw[xbq];exact xcj _ size
  rw[hqq,hcu] at hf;cases hf;exact n5 _ _ e' c p1 p2
 have hlen:(cs++xsv.flatten).length<=cur.size:=by
  rw[vr,q1,jdg n3,e6,<- yy];exact xb2 _ e4
 have hones:∀c∈cs++xsv.flatten,c.one=true:=fun c hc'=>by
  rcases xbu.1 hc' with h|h
  .exact q2 c h
  obtain⟨e',h3,h4⟩:=List.mem_flatten.1 h;exact n4 e' h3 c h4
 refine cx hrunop ?_
 show next (a.put op.dst v') w'
 rw[hd]
 have fin:∀ {ρ':Nat->Nat},ρ' d=g->(∀id,id≠d->ρ' id=ρ id)->(∀id k,look id st.h=some k->ρ id≠g)->SimS P T M F0 w0 F ρ' { st with h:=(d,.var (cs++xsv.flatten) (some g) (some (e,size,cap)))::st.h } a w'->next (a.put (some d) v') w':=fun {ρ'} hρ _ hfar S3=>by
  refine k F ρ' _ _ _ ?_ (hK g cap (fun id b q hb hq he=>hfar id b hb ((S.nb id b q hb hq).trans he)) e4 e5);unfold SimS;rw[σ_cons];refine Sim.putr (tv:=.v (.val (.slice (some ⟨g,0,none⟩) (n+xsv.length) cap))) (h:=(d,.var (cs++xsv.flatten) (some g) (some (e,size,cap)))::st.h) S3 ?_ trivial hdn;rw[e1];exact Rep.val _
 rcases hat with⟨hq,hg⟩|⟨hq,hg⟩
 ·-- in place
  have hog:(a.eval s).ownBlock=some g:=by rw[<- hq];exact hob
  have hglt:=(r1.lt g hog).2
  have hg0:∃cur0 fz0,FzT cur0.size fz0/\w.heap[g]?=some (.cells cur0 e fz0):=by
   rcases r1.2 with⟨z1,z2⟩|⟨g',cap',cur0,z1,z2,z3,_⟩
   .rw[z1] at hog;cases hog
   exact zd9
  obtain⟨cur0,fz0,hf0,hg0⟩:=hg0;have hfar:∀id k,look id st.h=some k->ρ id≠g:=fun id k hk he=>r3 id k hk (he▸hog)
  have S2:SimS P T M F0 w0 F (fun i=>if i=d then g else ρ i) { st with h:=(d,.var [] (some g))::st.h } a w:=
   Sim.bind S (k:=.var [] (some g)) hdn hdh ⟨cur0,⟨(e,fz0),hf0⟩,hg0,vj _,smq,smq,fun p u hp=>r2 g hog p u hp⟩ (rM g hog) hglt hfar (fun j e' c hj i hi u hu=>r4 j e' c hj i hi u g hu hog) (fun q hq=>by cases hq;rfl)
  have hsee:Sees F w':=⟨fun p u hp=>by
   rw[World.cell?_of_block (w:=w) (hg.block p.block (jf S.sees hp) ze9)];exact S.sees p u hp,fun b xs hb=>by
   obtain⟨ck,hb'⟩:=S.sees.m b xs hb
   refine⟨ck,(hg.block b (ju S.sees hb) zex).trans hb'⟩⟩
  have hx':ExtX g F w F w':=⟨Le.refl F,hsee,fun _ _ h=>.inl h,fun _ _ h=>.inl h,hg.os,hg.tape,hg.output,hg.size,fun q hq' hne'=>hg.block q hq' (by rw[hog];exact fun h=>hne' (xt h))⟩;have S3:=Sim.extX (id:=d) (cs:=[]) (cs':=cs++xsv.flatten) (nm:=some g) (kk':=some (e,size,cap)) S2 (er _ _ _) (by simp only[xf];exact hx') (by simp only[xf];exact⟨cur,⟨(e,fz),rfl,e6,e5,ef⟩,e3,hlen,hones,hcur,fun p u hp=>r2 g hog p u hp⟩) (fun j e' c hj i hi hge he=>S.oc j e' c hj i hi hge (by rw[he];exact hdh));simp only[seth,xf] at S3;exact fin smq (fun id hne=>by simp[hne]) hfar S3
 -- a new row
 have hgs:g=w.heap.size:=by rw[hob] at hq;exact xt hq
 have hx':Ext F w F w':=⟨Le.refl F,⟨fun p u hp=>by
  rw[World.cell?_of_block (w:=w) (hg.block p.block (jf S.sees hp) smq)];exact S.sees p u hp,fun b xs hb=>by
  obtain⟨ck,hb'⟩:=S.sees.m b xs hb
  exact⟨ck,(hg.block b (ju S.sees hb) smq).trans hb'⟩⟩,fun _ _ h=>.inl h,fun _ _ h=>.inl h,⟨hg.os,hg.tape,hg.output,hg.size,fun q hq'=>hg.block q hq' smq⟩⟩
 have hfar:∀id k,look id st.h=some k->ρ id≠g:=fun id k hk he=>by have:=(S.hp id k hk).2.2;omega
 have S1:=Sim.ext S hx'
 have S3:=Sim.bind S1 (k:=.var (cs++xsv.flatten) (some g) (some (e,size,cap))) hdn hdh ⟨cur,⟨(e,fz),rfl,e6,e5,ef⟩,e3,hlen,hones,hcur,fun p u hp=>by have:=jf S.sees hp;omega⟩ (S.hM g (by have:=S.bel.size;omega)) (hown.lt g hob).2 hfar
  (fun j e' c hj i hi u hu=>by
   rw[og S (w':=w') (fun g' hg' _=>hx'.bel.block g' hg') j e' c hj i hi] at hu;obtain⟨-,⟨m,ys,p1,_⟩,-⟩:=S.oval hj hi hu;intro he;have:=(p1.lt _ he).2
   omega) (fun q hq=>by cases hq;rfl)
 exact fin smq (fun id hne=>by simp[hne]) hfar S3
theorem jkn(e:TypeId)(xs:Array Value)(w:World):(newRow e xs).run P w=.ok ⟨w.heap.size,0,none⟩ (w.alloc (.cells xs e)):=rfl
theorem jyk(hF:Sees F w){e:TypeId}(h1:xs.size=cs.length)(h2:∀c∈cs,c.one=true)(h3:∀(j:Nat) c x,cs[j]?=some c->xs[j]?=some x->Rep F c x):
  RepB F (w.alloc (.cells xs e)) w.heap.size (.var cs):=
 ⟨xs,⟨(e,0,0),.inl rfl⟩,heap_alloc_new w _,Nat.le_of_eq h1.symm,h2,h3,fun _ _ hp=>Nat.ne_of_lt (jf hF hp)⟩
theorem jup{xs:Array MapEntry}(h:kj xs ck):(xs.toList.map (·.born)).Nodup:=by
 rw[List.nodup_iff_pairwise_ne,List.pairwise_iff_getElem];intro i j hi hj hlt he;rw[vm] at hi hj;simp only[List.getElem_map] at he;have:=h.2 i j _ _ (by simp at hi;simp[hi]) (by simp at hj;simp[hj]) he;omega
theorem jv3(e:MapEntry):∀(L:List MapEntry) (i:Nat),(L.map (·.born)).Nodup->L[i]?=some e->L.filter (fun x=> !(x.born == e.born))=L.eraseIdx i
 |[],i,_,h=>by simp at h
 |x::L,0,hn,h=>by
  simp only[List.getElem?_cons_zero,vk] at h;subst h;obtain⟨h1,h2⟩:=List.nodup_cons.1 (show (x.born::L.map (·.born)).Nodup from hn);rw[List.eraseIdx_cons_zero,xdb smq];refine xck.2 fun y hy=>?_;have:y.born≠x.born:=fun he=>h1 (he▸xbi hy);exact zb4
 |x::L,i+1,hn,h=>by
  simp only[List.getElem?_cons_succ] at h;obtain⟨h1,h2⟩:=List.nodup_cons.1 (show (x.born::L.map (·.born)).Nodup from hn);have hne:x.born≠e.born:=fun he=>h1 (he▸xbi (vp h));rw[List.eraseIdx_cons_succ,xco (by simpa using hne),jv3 e L i h2 h]
theorem qn4{xs:Array MapEntry}(h:kj xs ck){seen:Array Nat}{e:MapEntry}(he:(pj xs seen)[i]?=some e):pj xs (seen.push e.born)=(pj xs seen).eraseIdx i:=by
 have hn:((pj xs seen).map (·.born)).Nodup:=(jup h).sublist (List.Sublist.map _ List.filter_sublist);rw[<- jv3 e _ i hn he];unfold pj;rw[List.filter_filter];refine List.filter_congr fun x _=>?_;rw[Array.contains_push];cases h1:seen.contains x.born<;>cases h2:x.born == e.born<;>simp
theorem qb8(xs:Array MapEntry)(seen:Array Nat):(leftOf xs seen).toList=pj xs seen:=by
 unfold leftOf pj;rw[Array.toList_filter]
theorem jxd{α:Type}{l:List α}{x:α}(h:(l.eraseIdx i)[j]?=some x):l[if j<i then j else j+1]?=some x:=by
 rw[List.getElem?_eraseIdx] at h;split at h
 .rename_i hj;rw[ve hj];exact h
 rename_i hj;rw[vd hj];exact h
theorem jjx(S:SimS P T M F0 w0 F ρ st a w)(d:Nat):SimS P T M F0 w0 F ρ { st with o:=dh d st.o } a w:=
 Sim.weako S id (fun j e c hj=>by
  obtain⟨c0,h1,h2⟩:=ja6 hj
  exact⟨c0,h1,fun i hi=>(h2 i hi).1⟩) (fun _ _ _ _ _ _ _ _ _ _ _ _ e=>e)
theorem jwf{c:List Nat}(hj:(remC id off n o)[j]?=some (e,c)):∃c0,o[j]?=some (e,c0)/\∀i∈c,i∈c0/\¬(plc id off<=i/\i<plc id off+n):=by
 simp only[remC,xe,msi] at hj;obtain⟨⟨e',c'⟩,h1,h2⟩:=hj;simp only[xo] at h2;obtain⟨rfl,rfl⟩:=h2;refine⟨c',h1,fun i hi=>?_⟩;obtain⟨h3,h4⟩:=xb7.1 hi;refine⟨h3,fun⟨ha,hb⟩=>?_⟩;simp[Nat.ble_eq_true_of_le ha,Nat.blt,Nat.ble_eq_true_of_le (show i+1<=plc id off+n from hb)] at h4
theorem jga(S0:SimS P T M F0 w0 F ρ st a w)(d:Nat):SimS P T M F0 w0 F ρ { st with t:=unT d st.t,h:=unH d st.h,o:=dh d st.o } a w:=by
  have S:=jjx S0 d
  have hh:∀i b,look i (unH d st.h)=some b->look i st.h=some b:=fun i b e=>by
    rw[jq] at e;split at e
    . cases e
    exact e
  exact { n := S.n, df := S.df, sees := S.sees, lay := S.lay, le := S.le, new := S.new, newm := S.newm, bel := S.bel, hM := S.hM, od := S.od, nn := S.nn
          tm:=fun i tv e=>S.tm i tv (jhs e).1
          wf:=fun i tv e=>by
            obtain⟨h1,h2⟩:=jhs e;have:=S.wf i tv h1;cases tv with
            |v x=>trivial
            |u=>trivial
            |p id off=>simp only[tvOn,beq_eq_false_iff_ne,ne_eq] at h2;simp only[wfT] at this ⊢;rw[jq,vd h2];exact this
            |m id=>simp only[tvOn,beq_eq_false_iff_ne,ne_eq] at h2;simp only[wfT] at this ⊢;rw[jq,vd h2];exact this
            |s id off n z=>simp only[tvOn,beq_eq_false_iff_ne,ne_eq] at h2;simp only[wfT] at this ⊢;rw[jq,vd h2];exact this
          hp:=fun id b e=>S.hp id b (hh id b e)
          z:=fun i b hi e=>S.z i b hi (hh _ b e)
          nb:=fun i b q e hq=>S.nb i b q (hh _ b e) hq
          oc:=fun j e c hj i hi hge=>by
            show look (pid i) (unH d st.h)≠none
            rw[jq];obtain⟨c0,h1,h2⟩:=ja6 hj;rw[vd ((h2 i hi).2 hge)];exact S0.oc j e c0 h1 i (h2 i hi).1 hge
          inj:=fun id id' b b' e e'=>S.inj id id' b b' (hh id b e) (hh id' b' e')
          ow:=fun j e c hj=>by
            obtain⟨v,q1,q2,q3⟩:=S.ow j e c hj
            exact⟨v,q1,q2,fun id b e=>q3 id b (hh id b e)⟩ }
theorem jjq{K:St->Prop}(S:SimS P T M F0 w0 F ρ st a w){d:Nat}{e:TypeId}(h1:xs.size=cs.length)(h2:∀c∈cs,c.one=true) 
  (h3:∀(j:Nat) c x,cs[j]?=some c->xs[j]?=some x->Rep F c x) (hd:look d st.h=none) (hn:d<st.n)
  (hK:K { st with t:=(d,.p d 0)::st.t,h:=(d,.var cs)::st.h,o:=remo d st.o }):
  ∃ ρ' st',SimS P T M F0 w0 F ρ' st' (a.put (some d) (.pointer (some ⟨w.heap.size,0,none⟩))) (w.alloc (.cells xs e))/\K st':=by
 refine⟨fun i=>if i=d then w.heap.size else ρ i,_,?_,hK⟩;unfold SimS;rw[σ_cons];exact Sim.newBlk S hd hn (jyk S.sees h1 h2 h3) (fun q hq=>by cases hq) (tv:=.p d 0) (by simp[RepT]) zff
theorem qcp(ho:∀x tv,ρa x=some tv->RepT F ρ tv (ρc x))(hn:∀id k b,look id h=some k->k.nm=some b->ρ id=b){v:V}(hx:vN h (ρa x)=some v):Rep F v (ρc x):=by
 have nm:∀ {id b:Nat},nmOf (look id h)=some b->ρ id=b:=fun {id b} e=>by
  cases hk:look id h with
  |none=>rw[hk] at e;cases e
  |some k=>rw[hk] at e;exact hn id k b hk e
 unfold vN at hx;split at hx
 .rename_i y hy;cases hx;exact ho x _ hy
 .rename_i id off hy;obtain⟨b,hb,rfl⟩:=msi.1 hx;have:=show ρc x=_ from ho x _ hy
  rw[this,nm hb];exact .val _
 .rename_i id hy;obtain⟨b,hb,rfl⟩:=msi.1 hx;have:=show ρc x=_ from ho x _ hy
  rw[this,nm hb];exact .val _
 cases hx
theorem jnd(ho:∀x tv,ρa x=some tv->RepT F ρ tv (ρc x))(hn:∀id k b,look id h=some k->k.nm=some b->ρ id=b)(hx:mref h (ρa x)=some id):ρc x=.map (some (ρ id)):=by
 unfold mref at hx;split at hx
 .rename_i i hy;cases hx;exact ho x _ hy
 .rename_i b hy;obtain⟨k,h1,h2⟩:=ja9 hx;rw[hn id k b h1 h2];exact al (ho x _ hy)
 cases hx
theorem qro{b:Nat}(hop:op.op=.load t x)(hx:a.eval x=.pointer (some ⟨b,off,none⟩))(hag:aggB P t=some false)(hr:(execOp a.eval op).run P w=.ok (.value y) w){z:Value}(h:w.cell? ⟨b,off,none⟩=some z):z=y:=by
 unfold execOp at hr;rw[hop] at hr;simp[Instr.loadAt,hx,Instr.sureAddr,loadVar,rz hag,Result.andThen,h] at hr;exact hr
theorem qn5(hop:op.op=.load t x)(S:SimS P T M F0 w0 F ρ st a w)(hk:ldK P op t x st K){next:Act->World->Prop}{Q:Exit->Act->World->Prop} 
  (k:∀F' ρ' st' a' w',SimS P T M F0 w0 F' ρ' st' a' w'->K st'->next a' w'):opG rd P op a w next Q:=by
 have G:=Sim.good S;unfold ldK at hk;split at hk
 .rename_i tv htv;obtain⟨y,hr,hy⟩:=jm5 (P:=P) G op htv;refine cx hr ?_
  have base:putK st op.dst tv K->next (a.put op.dst y) w:=fun hk=>by
   obtain⟨st',S',hK⟩:=nz S hy (jci S.wfo htv) hk;exact zc1
  split at hk
  .rename_i d id off hd hx hag;obtain⟨hdn,hK⟩:=hk
   show next (a.put op.dst y) w
   rw[hd] at base ⊢;unfold ldO at hK;cases hc:(hasC st.o && decide (off<1000000000)) with
   |false=>rw[hc] at hK;exact base ⟨hdn,hK⟩
   |true=>
    rw[hc] at hK;simp only[vn,vq] at hc;refine k F ρ _ _ w ?_ hK;unfold SimS;rw[σ_cons];have S1:=Sim.putr S hy (jci S.wfo htv) hdn;have hsz:d<a.tmps.size:=by rw[S.n];exact hdn
    refine S1.addo (fun j e c hj hi=>?_) (fun hge=>(jcu hsz S.nn hge).elim);have hge:=ss id off;have hne:plc id off≠d:=fun e=>jcu hsz S.nn (e▸hge);rw[qh hsz S.nn,qh hsz S.nn,ve rfl,vd hne,dz omq,gl hc.2,qj hc.2];obtain⟨z,hz,-⟩:=S1.ow j e c hj;have hz':=hz _ hi;rw[qh hsz S.nn,vd hne,dz omq,gl hc.2,qj hc.2] at hz';rw[hz',qro hop (S.opr x _ hx) hag hr hz']
  exact base hk
 exact hk.elim
theorem qjm{k k':V}{x x':Value}(hk:Rep F k x)(hk':Rep F k' x')(e:jk k k'=some true):x'=x:=by
 unfold jk at e;split at e
 .split at e
  .rename_i hjk;simp only[vk,vq] at e;subst hjk e;rw[al hk,al hk']
  cases e
 .rename_i a b0;simp only[vk,xax] at e;subst e;rw[cw hk,cw hk']
 cases e
theorem jt3{kt:TypeId}{k:V}{x:Value}(hk:Rep F k x)(ht:keyT P kt k=true)(m:Nat):Instr.sameBits (m+1) x x=true:=by
 unfold keyT at ht;split at ht
 .have:=al hk;subst this;simp[Instr.sameBits]
 .have:=cw hk;subst this;simp only[Instr.sameBits];exact(MapKept.bytes_beq _ _).2 rfl
 cases ht
theorem jka{k v:V}{x y:Value}{kt:TypeId}{d:TypeDesc}(hk:Rep F k x)(hv:Rep F v y)(ht:keyT P kt k=true)(hu:P.underlying kt=some d)(ck:Nat):
  ∀(es:List (V×V)) (xs:List MapEntry) (n:Nat) {es':List (V×V)},xs.length=es.length->(∀(j:Nat) k' v' z,es[j]?=some (k',v')->xs[j]?=some z->Rep F k' z.key/\Rep F v' z.val)->mq k v es=some es'->
   (∃i z,Instr.findNow d x xs n=some (some (n+i,z.val))/\xs[i]?=some z/\z.key=x/\(xs.modify i fun e=> { e with key:=x,val:=y }).length=es'.length/\
     ∀(j:Nat) k' v' q,es'[j]?=some (k',v')->(xs.modify i fun e=> { e with key:=x,val:=y })[j]?=some q->Rep F k' q.key/\Rep F v' q.val)\/
   (Instr.findNow d x xs n=some none/\(xs++[({ key:=x,val:=y,born:=ck } : MapEntry)]).length=es'.length/\
     ∀(j:Nat) k' v' q,es'[j]?=some (k',v')->(xs++[({ key:=x,val:=y,born:=ck } : MapEntry)])[j]?=some q->Rep F k' q.key/\Rep F v' q.val)
 |[],[],n,es',_,_,e=>by
  simp[mq] at e;subst e;refine .inr ⟨rfl,rfl,fun j k' v' q e1 e2=>?_⟩;cases j with
  |zero=>simp at e1 e2;obtain⟨rfl,rfl⟩:=e1;subst e2;exact⟨hk,hv⟩
  |succ j=>simp at e1
 |[],_::_,_,_,hl,_,_=>by simp at hl
 |_::_,[],_,_,hl,_,_=>by simp at hl
 |(k',v')::es,z::xs,n,es',hl,hh,e=>by
  obtain⟨h1,h2⟩:=hh 0 k' v' z rfl rfl;simp only[mq] at e;cases hb:jk k k' with
  |none=>rw[hb] at e;cases e
  |some b=>
   rw[hb] at e;have hs:=jws hk h1 ht hu hb;cases b with
   |true=>
    simp only[vk] at e;subst e;refine .inl ⟨0,z,by simp[Instr.findNow,hs],rfl,qjm hk h1 hb,by simpa using hl,fun j a b q e1 e2=>?_⟩;cases j with
    |zero=>simp at e1 e2;obtain⟨rfl,rfl⟩:=e1;subst e2;exact⟨hk,hv⟩
    |succ j=>simp at e1 e2;exact hh (j+1) a b q (by simpa using e1) (by simpa using e2)
   |false=>
    simp only[msi] at e;obtain⟨es'',he,rfl⟩:=e;rcases jka hk hv ht hu ck es xs (n+1) ze3 (fun j a b c e1 e2=>hh (j+1) a b c ze4 zeu) he with⟨i,q,g1,g2,g3,g4,g5⟩|⟨g1,g2,g3⟩
    .refine .inl ⟨i+1,q,by simp[Instr.findNow,hs,g1,Nat.add_assoc,Nat.add_comm 1 i],by simpa using g2,g3,by simpa using g4,fun j a b c e1 e2=>?_⟩;cases j with
     |zero=>simp at e1 e2;obtain⟨rfl,rfl⟩:=e1;subst e2;exact⟨h1,h2⟩
     |succ j=>simp at e1 e2;exact g5 j a b c e1 (by simpa using e2)
    refine .inr ⟨by simp[Instr.findNow,hs,g1],by simpa using g2,fun j a b c e1 e2=>?_⟩;cases j with
    |zero=>simp at e1 e2;obtain⟨rfl,rfl⟩:=e1;subst e2;exact⟨h1,h2⟩
    |succ j=>exact g3 j a b c (by simpa using e1) (by simpa using e2)
theorem qma{b:Nat}{ty:TypeId}{fz:Nat×Nat}{x:Value}{inf:TypeInfo}(hi:P.info? t=some inf)(h:w.heap[b]?=some (.cells xs ty fz))(hfz:FzT xs.size fz)(hn:x.cells.size=n)(hs:P.cellsOf t=n)(hfit:off+n<=xs.size) 
  (h1:∀u∈x.cells.toList,u.oneCell'=true):
  (Instr.storeAt t (.pointer (some ⟨b,off,none⟩)) x).run P w=.ok () (w.setRow b (xs.toList.take off++x.cells.toList++xs.toList.drop (off+n)).toArray):=by
 have hst:=jms P b ty fz off x.cells.toList 0 xs w h hfz zep h1;have hl:x.cells.toList.length=n:=by simpa using hn
 simp only[Nat.add_zero,hl] at hst;simp[Instr.storeAt,Instr.sureAddr,storeVar,ik hi,hs,hn,hst]
theorem qh7(S:SimS P T M F0 w0 F ρ st a w)(ho:op.op=.call c)(hc:c.callee=.builtin .clear)(hk:jcl P op c st K) 
  {next:Act->World->Prop} {Q:Exit->Act->World->Prop} (k:∀F' ρ' st' a' w',SimS P T M F0 w0 F' ρ' st' a' w'->K st'->next a' w'):opG rd P op a w next Q:=by
 have G:=Sim.good S;unfold jcl at hk;split at hk
 .rename_i x t h1 h2 h3;have hx1:c.args= #[x]:=by apply yj;simpa using h1
  have ht1:c.argTypes= #[t]:=by apply yj;simpa using h2
  split at hk
  .rename_i e size s hsl hx;obtain⟨hu,hsz,_⟩:=ip hsl;obtain⟨aa,cc,hv⟩:=ja0 (show Rep F (.slice s []) (a.eval x) from S.opr x _ hx)
   have:(execOp a.eval op).run P w=.ok (.value (.tuple #[])) w:=by
    simp only[execOp,ho,resolve,hc,hx1,ht1,Sem.run_bind,Sem.run_pure,Result.andThen_ok,invoke,builtin,List.map_toArray,vy,xcb,hv];cases aa<;>simp[Builtin.clear_,run_underlying hu]
   refine cx this ?_
   show next (a.put op.dst _) _
   rw[h3];exact k F ρ st _ w S hk.2
  .rename_i e size id off n s hsl hx;obtain⟨hu,hsz,_⟩:=ip hsl;split at hk
   .rename_i cs nm kk zs hb hz;obtain⟨rfl,hzl,hfit,hK⟩:=hk;obtain⟨z,z1,z2,z3,z4⟩:=jdj (P:=P) (F:=F) (w:=w) hz;obtain⟨cap,q1,q2,q3,hv⟩:=show ∃cap,n<=cap/\cap<=maxLen/\0<n/\a.eval x=_ from S.opr x _ hx
    obtain⟨⟨xs,ty,b1,b2,b3,b4,b5⟩,hM,hlt⟩:=S.hp id _ hb
    have hz1:∀u∈(Builtin.zeroCells z.cells n).toList,u.oneCell'=true:=fun u hu=>by
     simp only[Builtin.zeroCells,xd0,Array.toList_range,ya,List.mem_range] at hu;obtain⟨i,hi,rfl⟩:=hu
     have hpos:0<z.cells.size:=by
      rcases xd8 z.cells.size with h0|h0
      .rw[h0] at hi;omega
      exact h0
     have hm:i % z.cells.size<z.cells.size:=Nat.mod_lt _ hpos;rw[show z.cells[i % z.cells.size]! = z.cells[i % z.cells.size] from getElem!_pos z.cells (i % z.cells.size) hm];have hm':i % z.cells.size<zs.length:=by rw[<- z2];exact hm
     exact(z4 _ _ _ (gge hm') (xu hm)).one (z3 _ (xbo hm'))
    have hzlen:(Builtin.zeroCells z.cells n).toList.length=n*s:=by simp[Builtin.zeroCells,z2,hzl]
    have hst:=jms P (ρ id) ty.1.1 ty.1.2 off (Builtin.zeroCells z.cells n).toList 0 xs w b1 ty.2.fz (by rw[hzlen];omega) hz1;simp only[Nat.add_zero] at hst
    have:(execOp a.eval op).run P w=.ok (.value (.tuple #[])) (w.setRow (ρ id) (xs.toList.take off++(Builtin.zeroCells z.cells n).toList++xs.toList.drop (off+(Builtin.zeroCells z.cells n).toList.length)).toArray):=by
     simp only[execOp,ho,resolve,hc,hx1,ht1,Sem.run_bind,Sem.run_pure,Result.andThen_ok,invoke,builtin,List.map_toArray,vy,xcb,hv];obtain⟨m,rfl⟩:∃m,n=m+1:=⟨n-1,omq⟩;simp[Builtin.clear_,run_underlying hu,z1,hst]
    refine cx this ?_
    show next (a.put op.dst _) _
    rw[h3];refine k F ρ _ a _ ?_ hK
    refine Sim.write (jjx S id) hb (k:=.var (cs.take off) nm kk) (w':=w.setRow (ρ id) (xs.toList.take off++(Builtin.zeroCells z.cells n).toList++xs.toList.drop (off+(Builtin.zeroCells z.cells n).toList.length)).toArray) rfl rfl rfl smq (fun j hj=>setRow_other w (ρ id) j _ hj) b5 (jje S.sees b1) ⟨_,⟨ty.1,ty.2.size (by simp only[xbt,vr,xq,xw,Array.length_toList] at hzlen ⊢;omega)⟩,setRow_heap w (ρ id) xs _ ty.1.1 _ b1,?_,fun c hc=>b3 c (xb5 hc),fun j c y e1 e2=>?_,b5⟩ (.inl rfl) (by rw[b1];simp) (fun j e c hj i hi hge hp=>by
     obtain⟨c0,_,h2⟩:=ja6 hj
     exact absurd hp ((h2 i hi).2 hge))
    .exact zx
    rw[yx] at e1;split at e1
    .rename_i hj;simp only[List.getElem?_toArray] at e2;rw[xb,xp zep,yx,ve hj] at e2;exact b4 j c y e1 zeu
    cases e1
   exact hk.elim
  exact hk.elim
 exact hk.elim
theorem ny{α:Type}{i:Nat}{m:List (Nat×α)}: ∀ {l:List (Nat×α)},look i (l++m)=match look i l with|some x=>some x|none=>look i m
 |[]=>rfl
 |(j,x)::r=>by
  rw[List.cons_append,ae,ae];split
  .rfl
  exact ny
theorem qd2{κ0 z:List (Nat×Nat)}{k:Nat}(h:look k κ0=some id):lk (κ0++z) k=id:=by
 unfold lk;rw[ny,h]
theorem jwa{κ0 z:List (Nat×Nat)}: ∀ {ks h:List (Nat×Blk)},(∀x∈ks,∃id,look x.1 κ0=some id)->bg (κ0++z) ks h=bg κ0 ks h
 |[],h,_=>rfl
 |(k,b)::r,h,hk=>by
  obtain⟨id,e⟩:=hk _ yo;simp only[bg];rw[qd2 e,kz e];exact jwa fun x hx=>hk x (ym _ hx)
theorem juh{κ:List (Nat×Nat)}{R:Nat}{c:Blk}: ∀ {ks h:List (Nat×Blk)},bg κ (ks++[(R,c)]) h=setb (lk κ R) c (bg κ ks h)
 |[],h=>rfl
 |(k,b)::r,h=>by
  simp only[List.cons_append,bg];exact juh
theorem jyb{q:Nat}{c:Blk}: ∀ {h:List (Nat×Blk)},unH q (setb q c h)=unH q h
 |[]=>rfl
 |(j,x)::r=>by
  simp only[setb];split
  .rename_i he;rw[jr,jr,ve he.symm,ve he.symm]
  rename_i he;rw[jr,jr,vd (yp he),vd (yp he),jyb]
theorem jyl{z:List (Nat×Nat)}: ∀ {κ0:List (Nat×Nat)} {o:List (TypeId×List Nat)},remK (κ0++z) o=remK z (remK κ0 o)
 |[],o=>rfl
 |(k,i)::r,o=>by
  simp only[List.cons_append,remK];exact jyl
theorem qik{k:St->TV->Prop}{g:FuncId}{cap:List V}{ts:List TV}(S:SimS P T M F0 w0 F ρ st a w)(ho:op.op=.call c)(hc:c.callee=.value f) 
  (hf:vOf (opv st.σ f)=some (.func g cap)) (hts:jg (opv st.σ) c.args.toList=some ts) (hk:jsm P T g ts cap st k) {next:Act->World->Prop} {Q:Exit->Act->World->Prop}
  (kk:∀F' ρ' w' y st' tv,SimS P T M F0 w0 F' ρ' st' a w'->RepT F' ρ' tv y->wfT st'.h tv->k st' tv->next (a.put op.dst y) w'):opG rd P op a w next Q:=by
 have G:=Sim.good S;have hfv:=G.v hf;generalize hfx:a.eval f=fx at hfv;cases hfv with
 |func hl hh=>
  rename_i xs;obtain⟨hl2,hh2⟩:=jdk G.opr _ hts;obtain⟨κ0,R,q,ks0,ro,as,Post,hden,hargs,hκ,hk1,hB,hro,hqn,hK⟩:=hk
  have ha0:jba F ρ (ts++cap.map .v) ((c.args.toList.map a.eval)++xs.toList):=by
   refine⟨by simp[hl,hl2],fun j v x e1 e2=>?_⟩;by_cases hj:j<ts.length
   .exact zh
   exact zp
  have hrun:∀(he:Enters P g),(execOp a.eval op).run P w=.ok (.enter g ((c.args.toList.map a.eval)++xs.toList).toArray) w:=by
   intro he;have:=he ((c.args.map a.eval)++xs) w
   have harr:((c.args.toList.map a.eval)++xs.toList).toArray=(c.args.map a.eval)++xs:=by
    apply yj;simp
   exact zi
  have hnd:∀i,look R κ0=some i->False:=fun i hi=>by
   have:=jam (κ:=κ0++[(R,q)]) (k:=R) (k':=R) (id:=q);have hn:=je6 hκ;rw[xz,List.nodup_append] at hn;exact hn.2.2 R (xbi (f:=(·.1)) (ec hi)) R smq rfl
  have hRn:look R κ0=none:=by
   cases e:look R κ0 with
   |none=>rfl
   |some i=>exact(hnd i e).elim
  have hqk:∀k id,look k κ0=some id->id≠q:=fun k id e he=>by
   subst he;have:=jam hκ (k:=k) (k':=R) (id:=id) (by rw[ny,e]) (by rw[ny,hRn];simp[look]);subst this;exact hnd _ e
  have hκ0:ndk κ0=true:=by
   have:∀(l:List (Nat×Nat)),ndk (l++[(R,q)])=true->ndk l=true:=fun l=>by
    induction l with
    |nil=>intro _;rfl
    |cons x l ih=>
     obtain⟨x1,x2⟩:=x;intro h;simp only[List.cons_append,ndk,vn,List.all_append] at h ⊢;exact⟨h.1.1,ih h.2⟩
   exact this κ0 hκ
  have hκ':ndk (κ0++rowK R q ro)=true:=by
   cases ro with
   |none=>simpa [rowK] using hκ0
   |some b=>exact hκ
  have hbk:(ks0++rowL R ro).map (·.1)=(κ0++rowK R q ro).map (·.1):=by
   cases ro<;>simp[rowK,rowL,hk1]
  let rd':Option Blk:=match ro with|some _=>some (.con [])|none=>none
  have key:∀ks:List (Nat×Blk),ks.map (·.1)=κ0.map (·.1)->(ks++rowL R rd').map (·.1)=(κ0++rowK R q ro).map (·.1):=fun ks hks=>by
   cases ro<;>simp[rowK,rowL,rd',hks]
  have hlk:∀k i,look k κ0=some i->lk (κ0++rowK R q ro) k=i:=fun k i e=>qd2 e;obtain⟨_,_,_,L,_⟩:=Sim.extS' S (bs':=ks0++rowL R rd') (os':=[]) hκ' hbk (key ks0 hk1) hB (os:=[]) trivial rfl rfl;refine tn (hrun hden.1) ?_;refine(hden.2 w F _ _ _ S.sees (S.laid) L (jy4 S.nb hargs ha0)).mono ?_;rintro e w' ⟨y,F',ρ',ks,b,r,rfl,hx,hρ,hL,hr,hP⟩;obtain⟨hks,hK⟩:=hK ks b r hP;obtain⟨hX1,hX2,hX3,_,hback⟩:=Sim.extS' S (bs':=ks++rowL R rd') (os':=[]) hκ' hbk (key ks hks) hB (os:=[]) trivial rfl rfl;have hkm:∀x∈ks,∃id,look x.1 κ0=some id:=fun x hx=>kw (by rw[<- hks];exact xbi (f:=(·.1)) hx)
  have hksR:∀k b',look k ks=some b'->k≠R:=fun k b' e he=>by
   subst he;obtain⟨i,hi⟩:=hkm _ (ec e);exact hnd i hi
  have hksN:look R ks=none:=by
   cases e:look R ks with
   |none=>rfl
   |some b'=>exact absurd rfl (hksR R b' e)
  have hRb:look R (ks++[(R,b)])=some b:=by rw[ny,hksN];exact er _ _ _
  have hkL:∀k b',look k ks=some b'->look k (ks++[(R,b)])=some b':=fun k b' e=>by rw[ny,e]
  have hRL:∀k b',look k (rowL R rd')=some b'->ro.isSome=true/\k=R/\b'= .con []:=fun k b' e=>by
   cases ro with
   |none=>simp[rowL,rd',look] at e
   |some b0=>
    simp only[rowL,rd'] at e;rw[ae] at e;split at e
    .cases e;exact⟨rfl,‹_›,rfl⟩
    cases e
  have hks2:∀k b',look k (ks++rowL R rd')=some b'->look k ks=some b'\/(ro.isSome=true/\k=R/\b'= .con []):=fun k b' e=>by
   rw[ny] at e;split at e
   .rename_i hh;cases e;exact .inl hh
   exact .inr (hRL k b' e)
  have hRold:ro.isSome=true->∃b0,look R (ks0++rowL R ro)=some b0:=fun h=>by
   obtain⟨b0,rfl⟩:=xbe.1 h;refine kw ?_;simp[rowL]
  have L2:Lends P T F' w' (fun k=>ρ (lk (κ0++rowK R q ro) k)) (fun g=>XL (κ0++rowK R q ro) (ks0++rowL R ro) [] ρ a w g\/w.heap.size<=g) (ks++rowL R rd') []:=by
   refine { hp:=fun k b' e=>?_,nb:=fun k b' p e hp=>?_,inj:=fun k k' b1 b2 e e' he=>?_,ow:=fun j e c hj=>by simp at hj,od:=fun j j' e c e' c' _ hj=>by simp at hj,oc:=fun j e c hj=>by simp at hj,lay:=hL.lay }
   .rcases hks2 k b' e with h|⟨h1,rfl,rfl⟩
    .obtain⟨p1,p2,p3⟩:=hL.hp k b' (hkL k b' h);rw[hρ k (hksR k b' h)] at p1 p2 p3;exact⟨p1,p2,p3⟩
    obtain⟨b0,hb0⟩:=hRold h1;obtain⟨p1,p2,p3⟩:=L.hp k b0 hb0;exact⟨⟨fun _=>undef,smq,smq,smq⟩,.inl p2,xao p3 hx.size⟩
   .rcases hks2 k b' e with h|⟨h1,rfl,rfl⟩
    .have:=hL.nb k b' p (hkL k b' h) hp;rw[hρ k (hksR k b' h)] at this;exact this
    cases hp
   have old:∀k b',look k (ks++rowL R rd')=some b'->∃b0,look k (ks0++rowL R ro)=some b0:=fun k b' e=>by
    refine kw ?_;rw[hbk,<- key ks hks];exact xbi (f:=(·.1)) (ec e)
   obtain⟨c1,hc1⟩:=old k b1 e;obtain⟨c2,hc2⟩:=old k' b2 e';exact L.inj k k' c1 c2 hc1 hc2 he
  have S1:=hback F' w' hx L2
  have S2:SimS P T M F0 w0 F' ρ { st with t:=unT q st.t,h:=unH q (bg κ0 ks st.h),o:=dh q (dh q (remK κ0 st.o)) } a w':=by
   cases ro with
   |none=>
    simp only[rowK,xd,rowL,rd'] at S1;exact jga (jjx S1 q) q
   |some b0=>
    have e1:bg (κ0++rowK R q (some b0)) (ks++rowL R rd') st.h=setb q (.con []) (bg κ0 ks st.h):=by
     simp only[rowL,rd',rowK];rw[juh,jwa hkm];congr 1;unfold lk;rw[ny,hRn];simp[look]
    have e2:ep (κ0++rowK R q (some b0)) []++remK (κ0++rowK R q (some b0)) (fo (κ0++rowK R q (some b0)) [] st.o)=dh q (remK κ0 st.o):=by
     simp only[ep,xcb,List.nil_append,fo];rw[jyl];rfl
    rw[e1,e2] at S1;have:=jga S1 q;simp only[jyb] at this;exact this
  obtain⟨p1,p2,p3⟩:=hL.hp R b hRb
  have hold:∀id b',look id (unH q (bg κ0 ks st.h))=some b'->id≠q/\look id (bg κ0 ks st.h)=some b':=fun id b' e=>by
   rw[jq] at e;split at e
   .cases e
   exact⟨‹_›,e⟩
  have hfar:∀id b',look id (unH q (bg κ0 ks st.h))=some b'->ρ id≠ρ' R:=fun id b' e he=>by
   obtain⟨hiq,e⟩:=hold id b' e
   rcases jgr (κ:=κ0) ks st.h id (by rw[hks];exact je6 hκ0) (fun k k' h1 h2 heq=>by
    rw[hks] at h1 h2;obtain⟨i,hi⟩:=kw h1;obtain⟨i',hi'⟩:=kw h2;rw[kz hi,kz hi'] at heq;subst heq
    exact jam hκ0 hi hi') with⟨k1,b1,q1,q2,_⟩|⟨q1,q2⟩
   .obtain⟨i,hi⟩:=hkm _ (ec q1)
    have:ρ' k1=ρ' R:=by
     rw[hρ k1 (hksR k1 b1 q1),hlk k1 i hi,<- he];rw[kz hi] at q2;rw[q2]
    exact hksR k1 b1 q1 (hL.inj k1 R b1 b (hkL k1 b1 q1) hRb this)
   rw[q2] at e;rcases p2 with p2|p2
   .refine hX2 id b' e (fun k b2 hk2 hid=>?_) (by rw[he];exact p2);rcases hks2 k b2 hk2 with h|⟨h1,rfl,_⟩
    .obtain⟨i,hi⟩:=hkm _ (ec h);rw[hlk k i hi] at hid;exact q1 k b2 h (by rw[kz hi];exact hid)
    have:lk (κ0++rowK k q ro) k=q:=by
     cases ro with
     |none=>cases h1
     |some b0=>unfold lk;rw[ny,hRn];simp[rowK,look]
    rw[this] at hid;exact hiq hid.symm
   have:=(S.hp id b' e).2.2;omega
  have S3:SimS P T M F0 w0 F' (fun i=>if i=q then ρ' R else ρ i) { st with t:=unT q st.t,h:=(q,b)::unH q (bg κ0 ks st.h),o:=dh q (dh q (remK κ0 st.o)) } a w':=Sim.bind S2 (d:=q) (b:=ρ' R) (k:=b) hqn (by rw[jq,ve rfl]) p1 (by
    rcases p2 with p2|p2
    .exact(hX1 _ p2).1
    .exact S.hM _ (xc S.bel.size p2)) p3 hfar (fun j e c hj i hi u hu he=>by
   obtain⟨c1,g1,g2⟩:=ja6 hj;obtain⟨c2,g3,g4⟩:=ja6 g1;obtain⟨c3,g5,g6⟩:=jln g3;have hic:=(g6 i (g4 i (g2 i hi).1).1)
   have hu':held a w ρ i=some u:=by
    by_cases hge:1000000000<=i
    .obtain⟨b',hb'⟩:=xan.1 (S.oc j e c3 g5 i hic.1 hge)
     have hnx:=hX2 (pid i) b' hb' (fun k b2 hk2 hid=>by
      rcases hks2 k b2 hk2 with h|⟨h1,rfl,_⟩
      .obtain⟨i',hi'⟩:=hkm _ (ec h);rw[hlk k i' hi'] at hid;exact hic.2 hge _ (ec hi') hid.symm
      have:lk (κ0++rowK k q ro) k=q:=by
       cases ro with
       |none=>cases h1
       |some b0=>unfold lk;rw[ny,hRn];simp[rowK,look]
      rw[this] at hid
      exact(g2 i hi).2 hge hid.symm)
     rw[dz omq] at hu ⊢;rw[<- hu];exact(World.cell?_of_block (hx.block _ (S.hp _ b' hb').2.2 hnx)).symm
    rw[kx omq] at hu ⊢;exact hu
   rcases p2 with p2|p2
   .exact hX3 j e c3 g5 (fun j' e' i' hh=>by simp at hh) i hic.1 u _ hu' he p2
   .obtain⟨-,⟨m,ys,z1,_⟩,-⟩:=S.oval g5 hic.1 hu';have:=(z1.lt _ he).2
    omega) (fun p hp=>hL.nb R b p hRb hp)
  refine kk F' _ w' y _ (.v r) S3 hr trivial (hK fun id b' p p' hb' hp hp' hpp=>?_);have h1:=S2.nb id b' p hb' hp;have h2:=hL.nb R b p' hRb hp';exact hfar id b' hb' (by rw[h1,h2,hpp])
theorem qij{k:St->TV->Prop}{g:FuncId}{cap:List V}{ts:List TV}(S:SimS P T M F0 w0 F ρ st a w)(ho:op.op=.call c)(hc:c.callee=.value f) 
  (hf:vOf (opv st.σ f)=some (.func g cap)) (hts:jg (opv st.σ) c.args.toList=some ts) (hk:qei P T g ts cap st k) {next:Act->World->Prop} {Q:Exit->Act->World->Prop}
  (kk:∀F' ρ' w' y st' tv,SimS P T M F0 w0 F' ρ' st' a w'->RepT F' ρ' tv y->wfT st'.h tv->k st' tv->next (a.put op.dst y) w'):opG rd P op a w next Q:=by
 have G:=Sim.good S;have hfv:=G.v hf;generalize hfx:a.eval f=fx at hfv;cases hfv with
 |func hl hh=>
  rename_i xs;obtain⟨hl2,hh2⟩:=jdk G.opr _ hts;obtain⟨vs,es,e,off,d,size,rfl,hden,hdn,hdh,hof,hK⟩:=hk
  have ha0:Reps F (vs++cap) ((c.args.toList.map a.eval)++xs.toList):=by
   rw[vm] at hl2;refine⟨by simp[hl,hl2],fun j v x e1 e2=>?_⟩;by_cases hj:j<vs.length
   .exact zbi
   exact zc
  have hrun:(execOp a.eval op).run P w=.ok (.enter g ((c.args.toList.map a.eval)++xs.toList).toArray) w:=by
   have:=hden.1 ((c.args.map a.eval)++xs) w
   have harr:((c.args.toList.map a.eval)++xs.toList).toArray=(c.args.map a.eval)++xs:=by
    apply yj;simp
   exact zi
  refine tn hrun ?_;refine(hden.2 w F _ S.sees (S.laid) ha0).mono ?_;rintro en w' ⟨y,F',rfl,hx,b,cp,rfl,g1,g2,g3,g4,g5,g6,v,v1,v2,v3⟩;have S1:=Sim.ext S hx
  have old:∀(j:Nat) e c,st.o[j]?=some (e,c)->∀i∈c,∀u,held a w' ρ i=some u->∀q,u.ownBlock=some q->q<w.heap.size:=fun j e c hj i hi u hu q hq=>by
   exact zby
  have S2:=Sim.bind S1 hdn hdh g6 (S.hM _ (xc S.bel.size g4)) g5 (fun id k' e=>by have:=(S.hp id k' e).2.2;omega) (fun j e c hj i hi u hu he=>by have:=old j e c hj i hi u hu _ he;omega) (fun q hq=>by cases hq)
  have hcell:held a w' (fun i=>if i=d then b else ρ i) (plc d off)=some v:=by
   rw[dz (by have:=ss d off;omega),gl hof,qj hof];simp only[xf];exact v1
  obtain⟨m,ys,v4,v5⟩:=v2
  have S3:SimS P T M F0 w0 F' (fun i=>if i=d then b else ρ i) { st with h:=(d,.var es.flatten)::st.h,o:=(e,[plc d off])::st.o } a w':=
   Sim.newOwn S2 hcell (fun _=>by rw[gl hof,er];simp) ⟨m,ys,v4,fun q hq=>⟨S.hM q (xc S.bel.size (v5 q hq).1),(v5 q hq).2⟩⟩ (fun id k' hk' he=>by
    rw[ae] at hk';split at hk'
    .rename_i hid;simp only[hid,xf] at he;exact v3 he
    .rename_i hid;simp only[vd hid] at he;have h1:=(v5 _ he).1;have h2:=(S.hp id k' hk').2.2
     omega) (fun j e' c' hj i hi u q hu hq hq'=>by
    have hne:pid i≠d\/i<1000000000:=by
     rcases xk i 1000000000 with h|h
     .exact .inr h
     exact .inl fun he=>S.oc j e' c' hj i hi h (by rw[he];exact hdh)
    have hu':held a w' ρ i=some u:=by
     rw[<- hu];unfold held;split
     .rfl
     rcases hne with hne|hne
     .simp only[vd hne]
     omega
    have h1:=(v5 _ hq).1;have h2:=old j e' c' hj i hi u hu' _ hq'
    omega)
  refine kk F' _ w' _ _ (.s d 0 es.length size) S3 ⟨cp,g1,g2,yn.2 g3,smq⟩ zff hK
theorem qil{k:St->TV->Prop}{g:FuncId}{cap:List V}{ts:List TV}(S:SimS P T M F0 w0 F ρ st a w)(ho:op.op=.call c)(hc:c.callee=.value f) 
  (hf:vOf (opv st.σ f)=some (.func g cap)) (hts:jg (opv st.σ) c.args.toList=some ts) (hk:qej P T g ts cap st k) {next:Act->World->Prop} {Q:Exit->Act->World->Prop}
  (kk:∀F' ρ' w' y st' tv,SimS P T M F0 w0 F' ρ' st' a w'->RepT F' ρ' tv y->wfT st'.h tv->k st' tv->next (a.put op.dst y) w'):opG rd P op a w next Q:=by
 have G:=Sim.good S;have hfv:=G.v hf;generalize hfx:a.eval f=fx at hfv;cases hfv with
 |func hl hh=>
  rename_i xs;obtain⟨hl2,hh2⟩:=jdk G.opr _ hts;obtain⟨vs,q,Post,rfl,hden,hqn,hqh,hK0,hK1⟩:=hk
  have ha0:Reps F (vs++cap) ((c.args.toList.map a.eval)++xs.toList):=by
   rw[vm] at hl2;refine⟨by simp[hl,hl2],fun j v x e1 e2=>?_⟩;by_cases hj:j<vs.length
   .exact zbi
   exact zc
  have hrun:(execOp a.eval op).run P w=.ok (.enter g ((c.args.toList.map a.eval)++xs.toList).toArray) w:=by
   have:=hden.1 ((c.args.map a.eval)++xs) w
   have harr:((c.args.toList.map a.eval)++xs.toList).toArray=(c.args.map a.eval)++xs:=by
    apply yj;simp
   exact zi
  refine tn hrun ?_;refine(hden.2 w F _ S.sees (S.laid) ha0).mono ?_;rintro en w' ⟨y,F',r,rfl,hx,hr,hP|⟨b,kb,g4,g5,g6,g7,hP⟩⟩
  .exact kk F' ρ w' y st (.v r) (Sim.ext S hx) hr trivial (hK0 r hP)
  have S1:=Sim.ext S hx
  have old:∀(j:Nat) e c,st.o[j]?=some (e,c)->∀i∈c,∀u,held a w' ρ i=some u->∀q,u.ownBlock=some q->q<w.heap.size:=fun j e c hj i hi u hu q hq=>by
   exact zby
  have S2:SimS P T M F0 w0 F' (fun i=>if i=q then b else ρ i) { st with h:=(q,kb)::st.h } a w':=Sim.bind S1 (d:=q) hqn hqh g6 (S.hM _ (xc S.bel.size g4)) g5 (fun id k' e=>by have:=(S.hp id k' e).2.2;omega) (fun j e c hj i hi u hu he=>by have:=old j e c hj i hi u hu _ he;omega) (fun p hp=>by rw[g7] at hp;exact xt hp);refine kk F' _ w' y _ (.v r) S2 hr trivial (hK1 kb r hP fun id k' p p' e1 e2 e3=>?_);have h1:=S.nb id k' p e1 e2;have h2:=(S.hp id k' e1).2.2;rw[g7] at e3;have h3:=xt e3;omega
theorem ju6{k:St->TV->Prop}{g:FuncId}{cap:List V}{ts:List TV}(S:SimS P T M F0 w0 F ρ st a w)(ho:op.op=.call c)(hc:c.callee=.value f) 
  (hf:vOf (opv st.σ f)=some (.func g cap)) (hts:jg (opv st.σ) c.args.toList=some ts) (hk:tg P T g ts cap st k) {next:Act->World->Prop} {Q:Exit->Act->World->Prop}
  (kk:∀F' ρ' w' y st' tv,SimS P T M F0 w0 F' ρ' st' a w'->RepT F' ρ' tv y->wfT st'.h tv->k st' tv->next (a.put op.dst y) w'):opG rd P op a w next Q:=by
 rcases hk with hk|hk|hk|hk
 .exact qim S ho hc hf hts hk (fun F' w' y st' tv=>kk F' ρ w' y st' tv)
 .exact qik S ho hc hf hts hk kk
 .exact qij S ho hc hf hts hk kk
 exact qil S ho hc hf hts hk kk
theorem joi(S:SimS P T M F0 w0 F ρ st a w){size:Nat}{xs:List (List V)}(h:appX st size x=some xs):(xs=[]/\a.eval x=.slice none 0 0)\/Rep F (.slice size xs) (a.eval x):=by
 have G:=Sim.good S;unfold appX at h;split at h
 .rename_i hv;cases h;exact .inl ⟨rfl,al (G.v hv)⟩
 .rename_i s' es' hv;split at h
  .rename_i hss;cases h;subst hss;exact .inr (G.v hv)
  cases h
 cases h
theorem qlr(S:SimS P T M F0 w0 F ρ st a w)(ho:op.op=.call c)(hc:c.callee=.builtin .append)(hk:appR P op c st K) 
  {next:Act->World->Prop} {Q:Exit->Act->World->Prop} (k:∀F' ρ' st' a' w',SimS P T M F0 w0 F' ρ' st' a' w'->K st'->next a' w'):opG rd P op a w next Q:=by
 have G:=Sim.good S;unfold appR at hk;split at hk
 .rename_i s x t t' d h1 h2 hd;split at hk
  .rename_i htt;subst htt;split at hk
   .rename_i e size hsl;split at hk
    .rename_i xs hv hX;obtain⟨k1,k2,k3,k4,k5,k6⟩:=hk;have hs:=al (G.v hv)
     exact jjy S ho hc h1 h2 hd hsl (joi S hX) k1 k2 k3 k4 k5 (olds:=[]) (by rw[hs];exact co.nil w 0 e size) ze6 ze6 ze6 ze6
      smq smq smq k6 k
    .rename_i r n cap xs hv hX;split at hk
     .rename_i id hfn;split at hk
      .rename_i cs nm e' size' cap' hb;obtain⟨rfl,rfl,rfl,k1,k2,k3,k4,k5,k6,k7,k8⟩:=hk;have hs:=al (G.v hv)
       have hρ:ρ id=r:=by
        obtain⟨kb,z1,z2⟩:=ja9 hfn;exact S.nb id kb r z1 z2
       obtain⟨⟨cur,⟨ty,hty⟩,b1,b2,b3,b4,b5⟩,hM,hlt⟩:=S.hp id _ hb;obtain⟨rfl,hsz,hcm,hfz⟩:=hty;rw[hρ] at b1 hM hlt b5;have S':=jga S id;have hown:(Value.slice (some ⟨r,0,none⟩) n cap').ownBlock=some r:=rfl;have hob:(a.eval s).ownBlock=some r:=by rw[hs];rfl
       have hle:n*size'<=cur.size:=by rw[hsz];exact xb2 _ k2
       refine jjy S' ho hc h1 h2 hd hsl (joi S hX) k3 k4 k5 k6 ?_ (olds:=cur.toList.take (n*size')) ?_ ?_ ?_ ?_ ?_ k1 b3 ?_ k8 k
       .rw[jq];rcases k7 with rfl|k7
        .rw[ve rfl]
        split
        .rfl
        exact k7
       .rw[hs];refine⟨by simp;omega,.inr ⟨r,cap',cur,rfl,vj _,⟨_,hfz,b1⟩,k2,hcm,hsz,rfl⟩⟩
       .intro g hg;rw[hob] at hg;cases hg;exact hM
       .intro g hg;rw[hob] at hg;cases hg;exact b5
       .intro id' b hb' he;rw[hob] at he;have hb'':look id' (unH id st.h)=some b:=hb';rw[jq] at hb'';split at hb''
        .cases hb''
        rename_i hne;have:=xt he;exact hne (S.inj id' id b _ hb'' hb (by rw[hρ];exact this.symm))
       .intro j e c hj i hi u g hu hg hg';rw[hob] at hg;cases hg;obtain⟨c0,q1,q2⟩:=ja6 hj;have:=(S.oval q1 (q2 i hi).1 hu).2.2 id _ hb;rw[hρ] at this;exact this hg'
       intro q c u g1 g2;have hq:q<n*size':=by have:=(gsi.1 g1).1;omega
       rw[yx,ve hq] at g2;exact b4 q c u g1 (by simpa using g2)
      exact hk.elim
     exact hk.elim
    .rename_i z xs hv hX;split at hk
     .rename_i i;obtain⟨rfl,hown,k1,k2,k3,k4,k5,k6⟩:=hk;obtain⟨hu,hsz,hz⟩:=ip hsl;obtain⟨j0,c0,hj0,hi0⟩:=ru hown;obtain⟨v,hv1,⟨m,xs0,hv2,hv3⟩,hv4⟩:=S.ow j0 e c0 hj0
      have hev:a.eval (.tmp i)=v:=by
       exact zm
      have hrep:=G.v hv;rw[hev] at hrep;rw[hsz] at hv2 hv3
      have hm:m=0:=by
       obtain⟨aa,cc,hvv⟩:=ja0 hrep;rcases hv2.2 with⟨e1,e2⟩|⟨g,cap,cur,e1,_⟩
       .exact e2
       exact zcc
      subst hm;have hx0:xs0=[]:=yg (by rw[hv2.1];simp);subst hx0;have S':SimS P T M F0 w0 F ρ { st with o:=delo i st.o } a w:=Sim.delo S i
      refine jjy S' ho hc h1 h2 hd hsl (joi S hX) k1 k2 k3 k4 k5 (olds:=[]) (by rw[hev];exact hv2) (fun g hg=>?_) (fun g hg p u hp hpg=>?_) (by rw[hev];exact hv4) (fun j' e' c' hj' i' hi' u g hu hg=>?_)
       smq smq smq k6 k
      .rw[hev] at hg;exact(hv3 g hg).1
      .rw[hev] at hg;have:=(hv3 g hg).2 p u hp hpg;omega
      rw[hev] at hg;obtain⟨q1,q2⟩:=jet j' e' c' hj' hi';refine S.od j0 j' e c0 e' c' (fun he=>?_) hj0 q1 i hi0 i' hi' v u g (hv1 i hi0) hu hg;subst he;rw[hj0] at q1;cases q1;exact q2 hi0
     exact hk.elim
    exact hk.elim
   exact hk.elim
  exact hk.elim
 exact hk.elim
theorem qa6:∀ {cs:List V} {l:List UInt8},byL cs=some l->∃ns:List Int,cs=ns.map (fun n=>V.val (.int .u8 n))/\l=ns.map fun n=>UInt8.ofNat n.toNat
 |[],l,h=>by cases h;exact⟨[],rfl,rfl⟩
 |c::r,l,h=>by
  unfold byL at h;split at h
  .rename_i heq;cases heq
  .rename_i n r' heq;cases heq;obtain⟨l',h1,rfl⟩:=msi.1 h;obtain⟨ns,h2,h3⟩:=qa6 h1;exact⟨n::ns,by rw[h2];rfl,by rw[h3];rfl⟩
  cases h
theorem qlm(S:SimS P T M F0 w0 F ρ st a w){ns:List Int}(h:bytB st.h (opv st.σ x)=some cs)(hn:cs=ns.map fun n=>V.val (.int .u8 n)):
  (a.eval x=.slice none 0 0/\ns=[])\/∃a0 cap,a.eval x=.slice (some a0) ns.length cap/\∀(j:Nat) v,(ns.map (Value.int .u8))[j]?=some v->w.cell? (a0.add j)=some v:=by
 have G:=Sim.good S
 have nth:∀(j:Nat) v,(ns.map (Value.int .u8))[j]?=some v->∃n,ns[j]?=some n/\v=.int .u8 n/\cs[j]?=some (.val (.int .u8 n)):=fun j v e=>by
  rw[xe,msi] at e;obtain⟨n,e1,rfl⟩:=e;exact⟨n,e1,rfl,by rw[hn,xe,e1];rfl⟩
 have hlen:cs.length=ns.length:=by rw[hn,vm]
 unfold bytB at h;split at h
 .rename_i es hx;cases h;rcases py (show Rep F (.slice 1 es) (a.eval x) from S.opr x _ hx) with⟨e1,e2⟩|⟨a0,cap,g,e1,e2,e3,e4,e5,e6,e7⟩
  .subst e2;exact .inl ⟨e1,yg (by rw[<- hlen];rfl)⟩
  refine .inr ⟨a0,cap,?_,fun j v hv=>?_⟩
  .rw[e1,<- hlen,jdg e4,xbp]
  obtain⟨n,-,rfl,hc⟩:=nth j v hv;obtain⟨e,q1,q2⟩:=jgb e4 hc;rw[Nat.div_one] at q1;rw[Nat.mod_one] at q2;have h1:=e6 j 0 e _ q1 q2;have h2:=al (e7 j 0 e _ q1 q2);rw[h2,xbp,Nat.add_zero] at h1;exact S.sees _ _ h1
 .rename_i hx;cases h;have:=al (show Rep F (.val (.slice none 0 0)) (a.eval x) from S.opr x _ hx);exact .inl ⟨this,yg (by rw[<- hlen];rfl)⟩
 .rename_i r n cap hx;have hv:=al (show Rep F (.val (.slice (some ⟨r,0,none⟩) n cap)) (a.eval x) from S.opr x _ hx);split at h
  .rename_i id hfn;split at h
   .rename_i cs0 nm kk hb;split at h
    .rename_i hle;cases h;obtain⟨kb,z1,z2⟩:=ja9 hfn;have hρ:=S.nb id kb r z1 z2;obtain⟨⟨xs,ty,b1,b2,b3,b4,b5⟩,-,-⟩:=S.hp id _ hb;rw[hρ] at b1;refine .inr ⟨⟨r,0,none⟩,cap,?_,fun j v hj=>?_⟩
     .rw[hv,<- hlen,xq,xaw hle]
     obtain⟨m,-,rfl,hc⟩:=nth j v hj
     have hjn:j<n:=by
      have:=(gsi.1 hc).1;exact zdm
     rw[yx,ve hjn] at hc;have hjx:j<xs.size:=omq;have:=al (b4 j _ _ hc (xu hjx));rw[eu,cell_of_row w r (0+j) xs _ _ b1,xl,xu hjx,this]
    cases h
   cases h
  cases h
 .rename_i id off n hx;obtain⟨cap,q1,q2,q3,hv⟩:=show ∃cap,n<=cap/\cap<=maxLen/\0<n/\a.eval x=.slice (some ⟨ρ id,off,none⟩) n cap from S.opr x _ hx
  split at h
  .rename_i cs0 nm kk hb;split at h
   .rename_i hle;cases h;obtain⟨⟨xs,ty,b1,b2,b3,b4,b5⟩,-,-⟩:=S.hp id _ hb;refine .inr ⟨⟨ρ id,off,none⟩,cap,?_,fun j v hj=>?_⟩
    .rw[hv,<- hlen,xq,xw,xaw omq]
    obtain⟨m,-,rfl,hc⟩:=nth j v hj
    have hjn:j<n:=by
     have:=(gsi.1 hc).1;exact zdm
    rw[yx,ve hjn,xcz] at hc;have hjx:off+j<xs.size:=omq;have:=al (b4 (off+j) _ _ hc (xu hjx));rw[eu,cell_of_row w (ρ id) (off+j) xs _ _ b1,xu hjx,this]
   cases h
  cases h
 cases h
theorem qih(S:SimS P T M F0 w0 F ρ st a w){src:TypeId}(ho:op.op=.convert src t x)(hk:jd7 P op src t x st K){next:Act->World->Prop}{Q:Exit->Act->World->Prop} 
  (k:∀F' ρ' st' a' w',SimS P T M F0 w0 F' ρ' st' a' w'->K st'->next a' w'):opG rd P op a w next Q:=by
 have G:=Sim.good S;unfold jd7 at hk;split at hk
 .rename_i e size hsl;split at hk
  .rename_i l d hv hd;obtain⟨h1,rfl,h3,h4,h5,h6,hK⟩:=hk;obtain⟨hu,hsz,hz⟩:=ip hsl;obtain⟨u,hus⟩:=xbe.1 h3;have hx:=cw (G.v hv);obtain⟨cap,hcap⟩:∃cap,grownCap w l.length 0 e=cap:=⟨_,rfl⟩;have hge:l.length<=cap:=by rw[<- hcap];exact grownCap_ge w _ _ _
   have hmx:cap<=maxLen:=by rw[<- hcap];exact grownCap_le_maxLen w _ _ _ (xc h4 dcq)
   have hsl0:(⟨l.toArray⟩:ByteArray).size=l.length:=jie l;obtain⟨w',hw'⟩:∃w',Lib.bytesWorld w e ⟨l.toArray⟩=w':=⟨_,rfl⟩
   have hrun:(execOp a.eval op).run P w=.ok (.value (.slice (some ⟨w.heap.size,0,none⟩) l.length cap)) w':=by
    have:=Lib.run_convert_string_bytes (P:=P) w src t e ⟨l.toArray⟩ hus hu (jhh h1);rw[hsl0,hcap,hw'] at this;simp only[execOp,ho,hx,Sem.run_bind,this,Result.andThen_ok];rfl
   have hnew:=Lib.bytesWorld_at_new w e ⟨l.toArray⟩;have hold:∀j,j<w.heap.size->w'.heap[j]?=w.heap[j]? := fun j hj=>by rw[<- hw'];exact Lib.bytesWorld_at_old w e _ j hj
   have hsize:w'.heap.size=w.heap.size+1:=by rw[<- hw'];exact Lib.bytesWorld_size w e _
   rw[hw'] at hnew;obtain⟨xs,hxs⟩:∃xs,Lib.bytesCells w e ⟨l.toArray⟩=xs:=⟨_,rfl⟩;rw[hxs] at hnew
   have hxsz:xs.size=cap:=by
    rw[<- hxs];unfold Lib.bytesCells;rw[hsl0,hcap];simp;omega
   have hxg:∀(j:Nat) b,l[j]?=some b->xs[j]?=some (.int .u8 b.toNat):=fun j b hb=>by
    have hj:=(gsi.1 hb).1;rw[<- hxs];unfold Lib.bytesCells;rw[xde zfa];simp[hb]
   have hx':Ext F w F w':=⟨Le.refl F,⟨fun p v hp=>by
    rw[World.cell?_of_block (w:=w) (hold p.block (jf S.sees hp))];exact S.sees p v hp,fun b ys hb=>by
    obtain⟨ck,hb'⟩:=S.sees.m b ys hb
    exact⟨ck,(hold b (ju S.sees hb)).trans hb'⟩⟩,fun _ _ h=>.inl h,fun _ _ h=>.inl h,⟨by rw[<- hw'];rfl,by rw[<- hw'];rfl,by rw[<- hw'];rfl,omq,hold⟩⟩
   refine cx hrun ?_;have S1:=Sim.ext S hx';have hfar:∀id k,look id st.h=some k->ρ id≠w.heap.size:=fun id k' hk'=>by have:=(S.hp id k' hk').2.2;omega
   have S2:SimS P T M F0 w0 F (fun i=>if i=d then w.heap.size else ρ i) { st with h:=(d,.var (dm l) (some w.heap.size) (some (e,1,cap)))::st.h } a w':=
    Sim.bind S1 (d:=d) (b:=w.heap.size) h5 h6 ⟨xs,⟨(e,xs.size,xs.size+1),rfl,by rw[hxsz,xbp],hmx,.inr (vo _)⟩,hnew,by rw[jh5,hxsz];exact hge,fun c hc=>by
      obtain⟨b,-,rfl⟩:=ya.1 hc;rfl,fun j c y e1 e2=>by
      unfold dm at e1;rw[xe,msi] at e1;obtain⟨b,hb,rfl⟩:=e1;rw[hxg j b hb] at e2;cases e2
      exact .val _,fun p v hp=>by have:=jf S.sees hp;omega⟩ (S.hM _ (by have:=S.bel.size;omega)) omq hfar
     (fun j e' c hj i hi u hu=>by
      rw[og S (w':=w') (fun g' hg' _=>hold g' hg') j e' c hj i hi] at hu;obtain⟨-,⟨m,ys,p1,_⟩,-⟩:=S.oval hj hi hu;intro he;have:=(p1.lt _ he).2
      omega) (fun q hq=>by cases hq;rfl)
   have S3:=Sim.putr (d:=d) (tv:=.v (.val (.slice (some ⟨w.heap.size,0,none⟩) l.length cap))) S2 (Rep.val _) trivial h5;rw[hd];refine k F (fun i=>if i=d then w.heap.size else ρ i) _ _ w' ?_ (hK w.heap.size cap (fun id k' q e1 e2 e3=>?_) hge hmx)
   .unfold SimS;rw[σ_cons];exact S3
   have g1:=S.nb id k' q e1 e2;have g2:=(S.hp id k' e1).2.2;omega
  exact hk.elim
 split at hk
 .rename_i hsn e n' hsl;split at hk
  .rename_i cs d hB hd;split at hk
   .rename_i l hl;obtain⟨h1,h2,h3,hK⟩:=hk;obtain⟨hu,-,-⟩:=ip hsl;obtain⟨ns,hn,rfl⟩:=qa6 hl
    have hrun:(convert src t (a.eval x)).run P w=.ok (.string ⟨(ns.map fun n=>UInt8.ofNat n.toNat).toArray⟩) w:=by
     rcases qlm S hB hn with⟨e1,rfl⟩|⟨a0,cap,e1,e2⟩
     .rw[e1,run_convert_bytes_nil w src e hu (jhh h1) 0 0 t (jbm h2)];rfl
     rw[e1,run_convert_bytes_string w src t e _ _ _ hu (jhh h1) (jbm h2)];have hlc:=run_loadCells_list (P:=P) w a0 (ns.map (Value.int .u8)) e2;rw[vm] at hlc;rw[run_bytesToString w a0 ns.length cap ns hlc,foldl_push_bytes];simp[ByteArray.empty,ByteArray.emptyWithCapacity];rfl
    have hrunop:(execOp a.eval op).run P w=.ok (.value (.string ⟨(ns.map fun n=>UInt8.ofNat n.toNat).toArray⟩)) w:=by
     simp only[execOp,ho,Sem.run_bind,hrun,Result.andThen_ok];rfl
    refine cx hrunop ?_;rw[hd];have S3:=Sim.putr (d:=d) (tv:=.v (.str (ns.map fun n=>UInt8.ofNat n.toNat))) S (Rep.str _) trivial h3;refine k F ρ _ _ w ?_ hK;unfold SimS;rw[σ_cons];exact S3
   exact hk.elim
  exact hk.elim
 exact jbr S hk k
theorem qmv(S:SimS P T M F0 w0 F ρ st a w){l c:Operand}(ho:op.op=.makeSlice t l c)(hk:mkK P op t l c st K){next:Act->World->Prop}{Q:Exit->Act->World->Prop} 
  (k:∀F' ρ' st' a' w',SimS P T M F0 w0 F' ρ' st' a' w'->K st'->next a' w'):opG rd P op a w next Q:=by
 have G:=Sim.good S;unfold mkK at hk;split at hk
 .rename_i e size kl n kc m d hsl hl hc hd;split at hk
  .rename_i z hz0;obtain⟨rfl,h1,h2,h3,h4,h5,hK⟩:=hk;obtain⟨hu,hsz,-⟩:=ip hsl;obtain⟨zz,-,q2,q3,q4⟩:=jdj (P:=P) (F:=F) (w:=w) hz0;obtain⟨inf,hi⟩:=mc (P:=P) (t:=e) omq;have hisz:inf.size=1:=by rw[<- hsz];simp[Program.cellsOf,hi]
   have hiby:inf.bytes=P.bytesOf e:=by simp[Program.bytesOf,hi]
   obtain⟨zv,hzv,hzc,hone,hrep⟩:∃zv,inf.zero=some zv/\zv.cells.size=1/\z.one=true/\∀y,zv.cells[0]?=some y->Rep F z y:=by
    unfold lb ic at hz0;rw[hi] at hz0;simp only[Option.bind_some,xaz] at hz0;obtain⟨zv,g1,g2⟩:=hz0;split at g2
    .rename_i hcc;have g3:=xt g2;obtain⟨r1,r2,r3⟩:=jbc (je4 F zv hcc.1) hcc.2;rw[g3] at r1 r2 r3;exact⟨zv,g1,r1,r2 z (.head _),fun y hy=>r3 0 z y rfl hy⟩
    cases g2
   obtain⟨y0,hy0⟩:∃y0,zv.cells[0]?=some y0:=⟨_,xu omq⟩;have hx1:=al (G.v hl);have hx2:=al (G.v hc);obtain⟨nn,rfl⟩:∃nn:Nat,n=nn:=⟨n.toNat,omq⟩;obtain⟨mm,rfl⟩:∃mm:Nat,m=mm:=⟨m.toNat,omq⟩;rw[Int.toNat_natCast] at h3 hK;have hmm:mm<=9223372036854775807:=h3.1;have hrunm:=run_make (P:=P) w t e inf zv hu hi hzv kl kc nn mm omq h2 (by rw[hiby];have:=h3.2;rw[xbq] at this;omega) omq;rw[Int.toNat_natCast,Int.toNat_natCast,hisz,xbp] at hrunm
   have hrun:(execOp a.eval op).run P w=.ok (.value (.slice (some ⟨w.heap.size,0,none⟩) nn mm)) (w.alloc (.cells (madeCells zv.cells mm) e)):=by
    simp only[execOp,ho,hx1,hx2,Sem.run_bind,hrunm,Result.andThen_ok];rfl
   obtain⟨xs,hxs⟩:∃xs,madeCells zv.cells mm=xs:=⟨_,rfl⟩;have hxsz:xs.size=mm:=by rw[<- hxs];exact size_madeCells _ _
   have hxg:∀(j:Nat) y,xs[j]?=some y->y=y0:=fun j y hj=>by
    rw[<- hxs] at hj;unfold madeCells at hj;simp only[Array.getElem?_map,msi] at hj;obtain⟨i,-,rfl⟩:=hj;rw[hzc,Nat.mod_one];rw[getElem!_pos zv.cells 0 omq];have:=asi.1 hy0;exact this.2
   rw[hxs] at hrun;have hnew:=heap_alloc_new w (.cells xs e);have hold:∀j,j<w.heap.size->(w.alloc (.cells xs e)).heap[j]?=w.heap[j]? := fun j hj=>Below.heap_alloc w _ j hj;obtain⟨w',hw'⟩:∃w',w.alloc (.cells xs e)=w':=⟨_,rfl⟩;have hsize:w'.heap.size=w.heap.size+1:=by rw[<- hw'];simp
   have hx':Ext F w F w':=⟨Le.refl F,⟨fun p v hp=>by
    rw[<- hw',World.cell?_of_block (w:=w) (hold p.block (jf S.sees hp))];exact S.sees p v hp,fun b ys hb=>by
    obtain⟨ck,hb'⟩:=S.sees.m b ys hb
    exact⟨ck,by rw[<- hw'];exact(hold b (ju S.sees hb)).trans hb'⟩⟩,fun _ _ h=>.inl h,fun _ _ h=>.inl h,by rw[<- hw'];exact(Below.refl _ _).alloc (vo _) _⟩
   rw[hw'] at hrun hnew;refine cx hrun ?_;have S1:=Sim.ext S hx';have hfar:∀id k,look id st.h=some k->ρ id≠w.heap.size:=fun id k' hk'=>by have:=(S.hp id k' hk').2.2;omega
   have S2:SimS P T M F0 w0 F (fun i=>if i=d then w.heap.size else ρ i) { st with h:=(d,.var (List.replicate mm z) (some w.heap.size) (some (e,1,mm)))::st.h } a w':=
    Sim.bind S1 (d:=d) (b:=w.heap.size) h4 h5 ⟨xs,⟨(e,0,0),rfl,by rw[hxsz,xbp],h3.1,.inl rfl⟩,hnew,by rw[List.length_replicate,hxsz];exact vo _,fun c hc=>by
      rw[List.eq_of_mem_replicate hc];exact hone,fun j c y e1 e2=>by
      rw[List.eq_of_mem_replicate (vp e1),hxg j y e2]
      exact hrep y0 hy0,fun p v hp=>by have:=jf S.sees hp;omega⟩ (S.hM _ (by have:=S.bel.size;omega)) omq hfar
     (fun j e' c hj i hi u hu=>by
      rw[og S (w':=w') (fun g' hg' _=>by rw[<- hw'];exact hold g' hg') j e' c hj i hi] at hu;obtain⟨-,⟨m,ys,p1,_⟩,-⟩:=S.oval hj hi hu;intro he;have:=(p1.lt _ he).2
      omega) (fun q hq=>by cases hq;rfl)
   have S3:=Sim.putr (d:=d) (tv:=.v (.val (.slice (some ⟨w.heap.size,0,none⟩) nn mm))) S2 (Rep.val _) trivial h4;rw[hd];refine k F (fun i=>if i=d then w.heap.size else ρ i) _ _ w' ?_ (hK w.heap.size fun id k' q e1 e2 e3=>?_)
   .unfold SimS;rw[σ_cons];exact S3
   have g1:=S.nb id k' q e1 e2;have g2:=(S.hp id k' e1).2.2;omega
  exact hk.elim
 exact hk.elim
theorem jgf(S:SimS P T M F0 w0 F ρ st a w)(hk:dp P T op st K){next:Act->World->Prop}{Q:Exit->Act->World->Prop} 
  (k:∀F' ρ' st' a' w',SimS P T M F0 w0 F' ρ' st' a' w'->K st'->next a' w'):opG rd P op a w next Q:=by
 have G:=Sim.good S;unfold dp at hk;split at hk
 .rename_i t n parts hop;split at hk
  .rename_i hn0;subst hn0;split at hk
   .rename_i e size hsl;obtain⟨h0,hk⟩:=hk;obtain⟨hu,hsz,hz⟩:=ip hsl;obtain⟨inf,hi⟩:=mc (P:=P) (t:=e) omq;obtain rfl:parts= #[]:=Array.eq_empty_of_size_eq_zero h0
    have:(execOp a.eval op).run P w=.ok (.value (.slice (some ⟨w.heap.size,0,none⟩) 0 0)) (w.alloc (.cells #[] e)):=by
     unfold execOp;rw[hop];have hr0:Array.map (fun _=>(default:Value)) (Array.range 0)= #[]:=by apply yj;simp
     simp[Instr.buildSlice,run_underlying hu,ik hi,Instr.fill,jkn,hr0]
    refine cx this ?_
    have hx:Ext F w F (w.alloc (.cells #[] e)):=⟨Le.refl F,⟨fun p v e'=>by
     rw[World.cell?_of_block (w:=w) (Below.heap_alloc w _ _ (jf S.sees e'))];exact S.sees p v e',fun b xs e'=>by
     obtain⟨ck,hb⟩:=S.sees.m b xs e'
     exact⟨ck,(Below.heap_alloc w _ _ (ju S.sees e')).trans hb⟩⟩,fun _ _ e=>.inl e,fun _ _ e=>.inl e,(Below.refl _ _).alloc (vo _) _⟩
    obtain⟨st',S',hK'⟩:=jkg (y:=.slice (some ⟨w.heap.size,0,none⟩) 0 0) S hx (Rep.slice (es:=[]) (fun _ _=>undef) smq smq smq smq smq smq) (fun e' he=>by
     cases he;refine⟨0,[],⟨smq,.inr ⟨w.heap.size,0,#[],rfl,vj _,⟨(0,0),.inl rfl,heap_alloc_new w _⟩,vo _,vj _,smq,smq⟩⟩,fun g hg=>?_⟩;simp only[Value.ownBlock,vk] at hg;subst hg
     exact⟨vo _,fun p v hp hb=>absurd (jf S.sees hp) omq⟩) hk
    exact k F ρ st' _ _ S' hK'
   exact hk.elim
  exact jbr S hk k
 .rename_i cap hop;obtain⟨F',S'⟩:=jgx (h:=st.h) cap.toList S;exact jbr S' hk k
 .rename_i x hop;obtain⟨st',S',hK⟩:=jus S hk;have:(execOp a.eval op).run P w=.ok (.value (a.eval x)) w:=by unfold execOp;rw[hop];rfl
  refine cx this ?_;exact zc1
 .rename_i x hop;obtain⟨st',S',hK⟩:=jus S hk;have:(execOp a.eval op).run P w=.ok (.value (a.eval x)) w:=by unfold execOp;rw[hop];rfl
  refine cx this ?_;exact zc1
 .rename_i e x hop;split at hk
  .rename_i d v hd hv;obtain⟨h1,h2,h3,hK⟩:=hk;obtain⟨c1,c2,c3⟩:=jbc (qcp S.opr S.nb hv) h1;obtain⟨ρ',st',S',hK'⟩:=jjq (e:=e) S c1 c2 c3 h2 h3 hK;have:(execOp a.eval op).run P w=.ok (.value (.pointer (some ⟨w.heap.size,0,none⟩))) (w.alloc (.cells (a.eval x).cells e)):=by unfold execOp;rw[hop];rfl
   refine cx this ?_
   show next (a.put op.dst _) _
   rw[hd];exact k F ρ' st' _ _ S' hK'
  exact hk.elim
 .rename_i e hop;split at hk
  .rename_i d zs hd hz;obtain⟨z,z1,z2,z3,z4⟩:=jdj (P:=P) (F:=F) (w:=w) hz
   obtain⟨ρ',st',S',hK'⟩:∃ ρ' st',SimS P T M F0 w0 F ρ' st' (a.put (some d) (.pointer (some ⟨w.heap.size,0,none⟩))) (w.alloc (.cells z.cells e))/\K st':=by
    split at hk
    .rename_i h2;obtain⟨h3,hK⟩:=hk;exact jjq (e:=e) S z2 z3 z4 h2 h3 hK
    obtain⟨h3,hK⟩:=hk;exact jjq (st:= { st with t:=unT d st.t,h:=unH d st.h,o:=dh d st.o }) (e:=e) (jga S d) z2 z3 z4 (by show look d (unH d st.h)=none;rw[jq,ve rfl]) h3 hK
   have:(execOp a.eval op).run P w=.ok (.value (.pointer (some ⟨w.heap.size,0,none⟩))) (w.alloc (.cells z.cells e)):=by
    unfold execOp;rw[hop];simp[Instr.alloc,z1,newVar,jkn]
   refine cx this ?_
   show next (a.put op.dst _) _
   rw[hd];exact k F ρ' st' _ _ S' hK'
  exact hk.elim
 .rename_i t ad x hop;split at hk
  .rename_i id off v hp hv;split at hk
   .rename_i cs nm kk hb;obtain⟨h1,h2,h3,h4,h5,hK⟩:=hk;obtain⟨c1,c2,c3⟩:=jbc (qcp S.opr S.nb hv) h1;obtain⟨⟨xs,ty,b1,b2,b3,b4,b5⟩,hB,hlt⟩:=S.hp id _ hb;have hev:=show a.eval ad=_ from S.opr ad _ hp
    obtain⟨inf,hi⟩:=xbe.1 h3
    have h1c:∀u∈(a.eval x).cells.toList,u.oneCell'=true:=fun u hu=>by
     obtain⟨j,hj⟩:=xm hu;have hj':(a.eval x).cells[j]?=some u:=by simpa using hj
     have hlt:=(asi.1 hj').1;have hc:=gge (l:=v.cells) (i:=j) omq;exact(c3 j _ u hc hj').one (c2 _ (vp hc))
    have hrun:=qma (P:=P) (w:=w) (x:=a.eval x) (t:=t) (off:=off) hi b1 ty.2.fz c1 h2.symm omq h1c
    have:(execOp a.eval op).run P w=.ok .skip (w.setRow (ρ id) (xs.toList.take off++(a.eval x).cells.toList++xs.toList.drop (off+v.cells.length)).toArray):=by
     unfold execOp;rw[hop];simp only[hev,Sem.run_bind];rw[hrun];rfl
    refine jn3 this ?_
    show next (a.put op.dst undef) _
    rw[h5];refine k F ρ _ a _ ?_ hK
    have hget:∀(j:Nat),(xs.toList.take off++(a.eval x).cells.toList++xs.toList.drop (off+v.cells.length))[j]?=if off<=j/\j<off+v.cells.length then(a.eval x).cells[j-off]? else xs[j]? := fun j=>by
     have hcl:(a.eval x).cells.toList.length=v.cells.length:=by simpa using c1
     have hxl:cs.length<=xs.toList.length:=by simpa using b2
     by_cases g1:j<off
     .rw[vd omq,xb,xp zep,yx,ve g1];simp
     by_cases g2:j<off+v.cells.length
     .rw[ve omq,xb,yb zep,xp zep];simp;congr 1;omega
     rw[vd omq,xb,yb zep,yb zep,xcz];simp;congr 1;omega
    let ys:=(xs.toList.take off++(a.eval x).cells.toList++xs.toList.drop (off+v.cells.length)).toArray
    have hwb:(w.setRow (ρ id) ys).heap[ρ id]?=some (.cells ys ty.1.1 ty.1.2):=setRow_heap w (ρ id) xs ys ty.1.1 _ b1;have hcellw:∀j,(w.setRow (ρ id) ys).cell? ⟨ρ id,j,none⟩=ys[j]? := fun j=>by simp[World.cell?,hwb]
    have hcell0:∀j,w.cell? ⟨ρ id,j,none⟩=xs[j]? := fun j=>by simp[World.cell?,b1]
    have S1:SimS P T M F0 w0 F ρ { st with o:=bif hasC st.o then remC id off v.cells.length st.o else st.o } a w:=by
     cases hc:hasC st.o with
     |false=>exact S
     | true=>exact Sim.weako S (fun j=>j) (fun j e c hj=>by
       obtain⟨c0,h1,h2⟩:=jwf hj
       exact⟨c0,h1,fun i hi=>(h2 i hi).1⟩) (fun _ _ _ _ _ _ _ _ _ _ _ _ e=>e)
    have hS2:SimS P T M F0 w0 F ρ { st with h:=seth id (.var (ba cs off v.cells) nm kk) st.h,o:=bif hasC st.o then remC id off v.cells.length st.o else st.o } a (w.setRow (ρ id) ys)->SimS P T M F0 w0 F ρ { st with h:=seth id (.var (ba cs off v.cells) nm kk) st.h,o:=stO id off v.cells.length x st.o } a (w.setRow (ρ id) ys):=fun S2=>by
     unfold stO;generalize (bif hasC st.o then remC id off v.cells.length st.o else st.o)=oo at S2;cases htx:jcr x with
     |none=>exact S2
     |some i=>
      simp only;cases hown:cv i oo with
      |none=>exact S2
      |some e=>
       simp only;cases hcond:(decide (v.cells.length=1) && decide (off<1000000000)) with
       |false=>exact S2
       |true=>
        simp only[vn,vq] at hcond;obtain⟨hn1,hoff⟩:=hcond
        have hx:x=.tmp i:=by
         unfold jcr at htx;split at htx
         .cases htx;rfl
         cases htx
        refine Sim.addo S2 (fun j0 e0 c0 hj0 hi0=>?_) (fun _=>?_)
        .obtain⟨j1,c1',hj1,hi1⟩:=ru hown;obtain⟨u,hu,⟨m,zs,hu2,_⟩,_⟩:=S2.ow j1 e c1' hj1;have hu1:=hu i hi1
         have hti:∃y,a.tmps[i]?=some y:=by
          rw[hx] at hv;cases hσ:st.σ i with
          |none=>rw[show opv st.σ (.tmp i)=st.σ i from rfl,hσ] at hv;cases hv
          |some tv=>obtain⟨y,hy,_⟩:=S.tm i tv hσ;exact⟨y,hy⟩
         obtain⟨y,hy⟩:=hti;have hil:=(asi.1 hy).1;have hnn:=S.nn;have hge:=ss id off;have hu3:=hu1;rw[kx omq,hy] at hu3;cases hu3;have hev:a.eval x=u:=by rw[hx];simp[Act.eval,hy]
         have hcl:(a.eval x).cells[0]?=some u:=by
          rw[hev];rcases hu2.2 with⟨z1,_⟩|⟨_,_,_,z1,_⟩<;>rw[z1]<;>rfl
         rw[hu1,dz omq,gl hoff,qj hoff,hcellw]
         show ys[off]?=_
         have:=hget off;rw[ve omq,Nat.sub_self,hcl] at this;simpa [ys] using this
        rw[gl hoff]
        show look id (seth id _ st.h)≠none
        rw[je3 id _ _ (by rw[hb];simp)];simp
    apply hS2;refine Sim.write S1 hb (k:=.var (ba cs off v.cells) nm kk) (w':=w.setRow (ρ id) ys) rfl rfl rfl smq (fun j hj=>setRow_other w (ρ id) j _ hj) b5 (jje S.sees b1) ⟨_,⟨ty.1,ty.2.size (by simp only[ys,xbt,vr,xq,xw,Array.length_toList,c1];omega)⟩,hwb,?_,?_,?_,b5⟩ (.inl rfl) (by rw[b1];simp) (fun j e c hj i hi hge hp=>?_)
    rotate_left 3
    .rw[dz omq,dz omq,hp,hcellw,hcell0];have hpl:=qvm hge;rw[hp] at hpl
     have hni:¬(plc id off<=i/\i<plc id off+v.cells.length):=by
      replace hj:(bif hasC st.o then remC id off v.cells.length st.o else st.o)[j]?=some (e,c):=hj
      cases hc:hasC st.o with
      |false=>rw[hc] at hj;exact absurd (qbg hc hj hi) omq
      |true=>
       rw[hc] at hj;obtain⟨c0,_,h2⟩:=jwf hj;exact(h2 i hi).2
     have:=hget (pof i)
     rw[vd (by
      intro hh;apply hni;rw[<- hpl];unfold plc
      omega)] at this
     simpa [ys] using this
    .rw[rj h4];simp only[ys,xbt,vr,xq,xw,Array.length_toList,c1];omega
    .intro c hc;obtain⟨j,hj⟩:=xm hc;rw[dy h4] at hj;split at hj
     .exact c2 c (vp hj)
     exact b3 c (vp hj)
    intro j c y e1 e2;simp only[ys,List.getElem?_toArray] at e2;rw[hget] at e2;rw[dy h4] at e1;split at e1
    .rename_i hin;rw[ve hin] at e2;exact c3 _ c y e1 e2
    rename_i hin;rw[vd hin] at e2;exact b4 j c y e1 e2
   exact hk.elim
  exact hk.elim
 .rename_i t x hop;exact qn5 hop S hk k
 .rename_i src t x hop;exact qih S hop hk k
 .rename_i t l c hop;exact qmv S hop hk k
 .rename_i t hop;split at hk
  .rename_i d hd;obtain⟨h1,h2,hK⟩:=hk
   have:(execOp a.eval op).run P w=.ok (.value (.map (some w.heap.size))) (w.alloc (.map #[] 0)):=by
    unfold execOp;rw[hop];rfl
   refine cx this ?_
   show next (a.put op.dst _) _
   rw[hd];refine k F (fun i=>if i=d then w.heap.size else ρ i) _ _ _ ?_ hK;unfold SimS;rw[σ_cons];exact Sim.newBlk (k:=.map []) (ob:=.map #[] 0) S h1 h2 ⟨#[],⟨0,.nil⟩,heap_alloc_new w _,qms S.sees,rfl,smq⟩ (fun q hq=>by cases hq) (tv:=.m d) (by simp[RepT]) zff
  exact hk.elim
 .rename_i t x hop;split at hk
  .rename_i d id hd hm;split at hk
   .rename_i es q hb;obtain⟨h1,h2,h3,hK⟩:=hk;have hev:=jnd S.opr S.nb hm
    obtain⟨kt,et,hu⟩:∃kt et,P.underlying t=some (.map kt et):=by
     unfold rb at h1;split at h1
     .rename_i a b hu;exact⟨a,b,hu⟩
     cases h1
    obtain⟨F1,S1,-,xs,ck,m1,m2,m3,m4⟩:=Sim.frzM S hb
    have:(execOp a.eval op).run P w=.ok (.value (.pointer (some ⟨w.heap.size,0,none⟩))) (w.alloc (.mapIter (some (ρ id)) ck #[] ck)):=by
     unfold execOp;rw[hop];simp[Instr.range,run_underlying hu,hev,ja8 m2]
    refine cx this ?_
    show next (a.put op.dst _) _
    rw[hd];refine k F1 (fun i=>if i=d then w.heap.size else ρ i) _ _ _ ?_ hK;unfold SimS;rw[σ_cons];have hne:d≠id:=fun e=>by subst e;rw[hb] at h2;cases h2
    have hl0:pj xs #[]=xs.toList:=by unfold pj;exact xck.2 fun y _=>by simp
    exact Sim.newBlk (k:=.itr es none) (ob:=.mapIter (some (ρ id)) ck #[] ck) S1 ((jkf id _ st.h d hne).trans h2) h3
     ⟨ρ id,#[],xs,ck,heap_alloc_new w _,m1,by rw[hl0];simpa using m3,fun j k v x e1 e2=>m4 j k v x e1 (by rw[hl0] at e2;simpa using e2),fun k v e=>by cases e⟩ (fun q hq=>by cases hq) (tv:=.p d 0) (by simp[RepT]) zff
   exact hk.elim
  exact hk.elim
 .rename_i x s hop;split at hk
  .rename_i d id hd hx;split at hk
   .rename_i es cur nm hb;obtain⟨h1,h2,h0,hK⟩:=hk;subst h1;have hev:a.eval x=.pointer (some ⟨ρ id,0,none⟩):=S.opr x _ hx;obtain⟨⟨m,seen,xs,ck,b1,b2,b3,b4,b5⟩,hB,hlt⟩:=S.hp id _ hb;obtain⟨⟨ck',hwf,hck⟩,hm⟩:=S.sees.m m _ b2;simp only at hwf hck hm;subst hck
    have hF:∀p u,F p=some u->p.block≠ρ id:=fun p u hp he=>by
     have:=S.sees p u hp;unfold World.cell? at this;rw[he,b1] at this;cases this
    have hFm:F.m (ρ id)=none:=by
     cases e:F.m (ρ id) with
     |none=>rfl
     |some ys=>obtain⟨ck2,g⟩:=S.sees.m _ ys e;rw[b1] at g;cases g
    rcases run_next_at (P:=P) w op.type (ρ id) m ck' ck' seen xs ck' b1 hm (fun y hy=>by
     obtain⟨j,hj⟩:=xm hy
     exact hwf.1 j y zfa) (vo _) with⟨g1,g2⟩|⟨e,he,w1,hw1,hrun⟩
    .have hes:es=[]:=by
      have:=congrArg List.length (qb8 xs seen);rw[Array.length_toList,g1,b3] at this;exact yg this.symm
     have:(execOp a.eval op).run P w=.ok (.value (.tuple #[.bool false])) w:=by
      unfold execOp;rw[hop];simp[hev,g2]
     refine cx this ?_
     show next (a.put op.dst _) _
     rw[hd];refine k F ρ _ _ _ ?_ (h0 hes);unfold SimS;rw[σ_cons]
     exact Sim.putr (tv:=.v (.tup [.val (.bool false)])) S (.tup rfl fun j c y e1 e2=>by
      match j with
      |0=>simp at e1 e2;subst e1 e2;exact .val _
      |j+1=>simp at e1) trivial h2
    rw[qb8] at he;obtain⟨i,hi⟩:=xm he
    obtain⟨⟨kv,vv⟩,hkv⟩:∃q,es[i]?=some q:=by
     have:=(gsi.1 hi).1;exact⟨_,gge omq⟩
    obtain⟨r1,r2⟩:=b4 i kv vv e hkv hi
    have hbel:Sim P T M F0 w0 F ρ st.n st.σ st.h st.o a w1:=by
     rcases hw1 with rfl|rfl
     .exact S
     exact Sim.ext S (Ext.refl S.sees).drew
    have hheap:w1.heap=w.heap:=by rcases hw1 with rfl|rfl<;>rfl
    have:(execOp a.eval op).run P w=.ok (.value (.tuple #[.bool true,e.key,e.val])) (ChangeMaps.setBlock w1 (ρ id) (.mapIter (some m) ck' (seen.push e.born) ck')):=by
     unfold execOp;rw[hop];simp[hev,hrun]
    refine cx this ?_
    show next (a.put op.dst _) _
    rw[hd];refine k F ρ _ _ _ ?_ (hK i kv vv hkv);unfold SimS;rw[σ_cons];have hlp:=qn4 hwf hi
    refine Sim.putr (tv:=.v (.tup [.val (.bool true),kv,vv])) (h:=seth id (.itr (es.eraseIdx i) (some (kv,vv)) nm) st.h) (Sim.write hbel hb (k:=.itr (es.eraseIdx i) (some (kv,vv)) nm) (w':=ChangeMaps.setBlock w1 (ρ id) (.mapIter (some m) ck' (seen.push e.born) ck')) rfl rfl rfl (by simp[ChangeMaps.setBlock])
     (fun j hj=>by simp[ChangeMaps.setBlock,Array.getElem?_setIfInBounds_ne (Ne.symm hj)]) hF hFm ⟨m,seen.push e.born,xs,ck',?_,b2,?_,fun j k v x e1 e2=>?_,fun k v hh=>?_⟩ (.inl rfl) (by rw[hheap,b1];simp) (fun j e c hj i hi hge hp=>?_)) ?_ trivial h2
    .simp[ChangeMaps.setBlock,hheap,hlt]
    .rw[hlp,List.length_eraseIdx,List.length_eraseIdx,b3]
    .rw[hlp] at e2;exact b4 _ k v x (jxd e1) (jxd e2)
    .cases hh;exact⟨e,(xb7.1 he).1,smq,r1,r2⟩
    .obtain⟨v,q1,_⟩:=S.ow j e c hj;have:=q1 i hi;rw[dz omq,hp] at this;unfold World.cell? at this;rw[b1] at this;cases this
    refine .tup rfl fun j c y e1 e2=>?_
    match j with
    |0=>simp at e1 e2;subst e1 e2;exact .val _
    |1=>simp at e1 e2;subst e1 e2;exact r1
    |2=>simp at e1 e2;subst e1 e2;exact r2
    |j+3=>simp at e1
   exact hk.elim
  exact hk.elim
 .rename_i x hop;split at hk
  .rename_i d id hd hx;split at hk
   .rename_i es kv vv nm hb;obtain⟨h2,hK⟩:=hk;have hev:a.eval x=.pointer (some ⟨ρ id,0,none⟩):=S.opr x _ hx;obtain⟨⟨m,seen,xs,ck,b1,b2,b3,b4,b5⟩,hB,hlt⟩:=S.hp id _ hb;obtain⟨⟨ck',hwf,hck⟩,hm⟩:=S.sees.m m _ b2;simp only at hwf hck hm;subst hck;obtain⟨e,he,hback,r1,r2⟩:=b5 kv vv rfl;have hf:xs.find? (·.born == e.born)=some e:=by rw[<- Array.find?_toList];exact find_born e xs.toList (jup hwf) he
    have:(execOp a.eval op).run P w=.ok (.value (.tuple #[e.key,e.val])) w:=by
     unfold execOp;rw[hop];simp[hev,Instr.entry,getObj,Sem.run,b1,hm,hback,Result.andThen,hf]
    refine cx this ?_
    show next (a.put op.dst _) _
    rw[hd];refine k F ρ _ _ _ ?_ hK;unfold SimS;rw[σ_cons];refine Sim.putr (tv:=.v (.tup [kv,vv])) S (.tup rfl fun j c y e1 e2=>?_) trivial h2
    match j with
    |0=>simp at e1 e2;subst e1 e2;exact r1
    |1=>simp at e1 e2;subst e1 e2;exact r2
    |j+2=>simp at e1
   exact hk.elim
  exact hk.elim
 .rename_i t m kk x hop;split at hk
  .rename_i kt et id kv v hmk hm hkv hv;split at hk
   .rename_i es nm hb;split at hk
    .rename_i es' hup;obtain⟨h1,h2,hK⟩:=hk;have hev:=jnd S.opr S.nb hm;obtain⟨⟨xs,ck,b1,b0,b2,b3⟩,hB,hlt⟩:=S.hp id _ hb
     have hu:P.underlying t=some (.map kt et):=by
      unfold rb at hmk;split at hmk
      .rename_i a b hu;cases hmk;exact hu
      cases hmk
     have hkd:∃d,P.underlying kt=some d:=by
      unfold keyT at h1;cases hd:P.underlying kt with
      |none=>rw[hd] at h1;cases kv<;>simp at h1
      |some d=>exact⟨d,rfl⟩
     obtain⟨d,hd⟩:=hkd;have hck:=fun em=>jjm em 9999 hd h1 (a.eval kk) w
     have hF:∀p u,F p=some u->p.block≠ρ id:=fun p u hp he=>by
      have:=S.sees p u hp;unfold World.cell? at this;rw[he,b1] at this;cases this
     have hrun:∃xs' ck',(Instr.mapUpdate t (a.eval m) (a.eval kk) (a.eval x)).run P w=.ok () { w with heap:=w.heap.setIfInBounds (ρ id) (.map xs' ck') } /\ xs'.size=es'.length/\kj xs' ck'/\
       ∀(j:Nat) k' v' q,es'[j]?=some (k',v')->xs'[j]?=some q->Rep F k' q.key/\Rep F v' q.val:=by
      have hset:∀ob,(setObj (ρ id) ob).run P w=.ok () { w with heap:=w.heap.setIfInBounds (ρ id) ob } := fun ob=>by
       unfold setObj;simp only[Sem.run];rw[b1]
      rcases jka (F:=F) (G.v hkv) (G.v hv) h1 hd ck.1 es xs.toList 0 (by simpa using b2) (fun j a b c e1 e2=>b3 j a b c e1 zeu) hup with⟨i,z,g1,g2,g3,g4,g5⟩|⟨g1,g2,g3⟩
      .refine⟨xs.modify i fun e=> { e with key:=a.eval kk,val:=a.eval x },ck.1,?_,by simpa using g4,ck.2.modify i _ _,fun j a b c e1 e2=>g5 j a b c e1 ?_⟩
       .have hz:xs[i]?=some z:=by simpa using g2
        have hstay:(Instr.keyThatStays z.key (a.eval kk)).run P w=.ok (a.eval kk) w:=by
         rw[g3];simp[Instr.keyThatStays,jt3 (G.v hkv) h1 9999]
        exact zcw
       rw[<- Array.toList_modify,xcm];exact e2
      refine⟨xs.push { key:=a.eval kk,val:=a.eval x,born:=ck.1 },ck.1+1,?_,by simpa using g2,ck.2.push _ _,fun j a b c e1 e2=>g3 j a b c e1 ?_⟩
      .exact zdc
      rw[<- Array.toList_push,xcm];exact e2
     obtain⟨xs',ck',r1,r2,rw',r3⟩:=hrun
     have:(execOp a.eval op).run P w=.ok .skip { w with heap:=w.heap.setIfInBounds (ρ id) (.map xs' ck') } := by
      unfold execOp;rw[hop];simp only[Sem.run_bind];rw[r1];rfl
     refine jn3 this ?_
     show next (a.put op.dst undef) _
     rw[h2];refine k F ρ _ a _ ?_ hK;refine Sim.write S hb (k:=.map es' nm) (w':= { w with heap:=w.heap.setIfInBounds (ρ id) (.map xs' ck') }) rfl rfl rfl smq (fun j hj=>?_) hF b0 ⟨xs',⟨ck',rw'⟩,?_,b0,r2,r3⟩ (.inl rfl) (by rw[b1];simp) (fun j e c hj i hi hge hp=>?_)
     rotate_left 2
     .obtain⟨v,q1,_⟩:=S.ow j e c hj;have:=q1 i hi;rw[dz omq,hp] at this;unfold World.cell? at this;rw[b1] at this;cases this
     .simp[Array.getElem?_setIfInBounds_ne (Ne.symm hj)]
     simp[hlt]
    exact hk.elim
   exact hk.elim
  exact hk.elim
 .rename_i t m kk x hop;split at hk
  .rename_i kt et id kv v hmk hm hkv hv;split at hk
   .rename_i es nm hb;split at hk
    .rename_i es' hup;obtain⟨h1,h2,hK⟩:=hk;have hev:=jnd S.opr S.nb hm;obtain⟨⟨xs,ck,b1,b0,b2,b3⟩,hB,hlt⟩:=S.hp id _ hb
     have hu:P.underlying t=some (.map kt et):=by
      unfold rb at hmk;split at hmk
      .rename_i a b hu;cases hmk;exact hu
      cases hmk
     have hkd:∃d,P.underlying kt=some d:=by
      unfold keyT at h1;cases hd:P.underlying kt with
      |none=>rw[hd] at h1;cases kv<;>simp at h1
      |some d=>exact⟨d,rfl⟩
     obtain⟨d,hd⟩:=hkd;have hck:=fun em=>jjm em 9999 hd h1 (a.eval kk) w
     have hF:∀p u,F p=some u->p.block≠ρ id:=fun p u hp he=>by
      have:=S.sees p u hp;unfold World.cell? at this;rw[he,b1] at this;cases this
     have hrun:∃xs' ck',(Instr.mapUpdate t (a.eval m) (a.eval kk) (a.eval x)).run P w=.ok () { w with heap:=w.heap.setIfInBounds (ρ id) (.map xs' ck') } /\ xs'.size=es'.length/\kj xs' ck'/\
       ∀(j:Nat) k' v' q,es'[j]?=some (k',v')->xs'[j]?=some q->Rep F k' q.key/\Rep F v' q.val:=by
      have hset:∀ob,(setObj (ρ id) ob).run P w=.ok () { w with heap:=w.heap.setIfInBounds (ρ id) ob } := fun ob=>by
       unfold setObj;simp only[Sem.run];rw[b1]
      rcases jka (F:=F) (G.v hkv) (G.v hv) h1 hd ck.1 es xs.toList 0 (by simpa using b2) (fun j a b c e1 e2=>b3 j a b c e1 zeu) hup with⟨i,z,g1,g2,g3,g4,g5⟩|⟨g1,g2,g3⟩
      .refine⟨xs.modify i fun e=> { e with key:=a.eval kk,val:=a.eval x },ck.1,?_,by simpa using g4,ck.2.modify i _ _,fun j a b c e1 e2=>g5 j a b c e1 ?_⟩
       .have hz:xs[i]?=some z:=by simpa using g2
        have hstay:(Instr.keyThatStays z.key (a.eval kk)).run P w=.ok (a.eval kk) w:=by
         rw[g3];simp[Instr.keyThatStays,jt3 (G.v hkv) h1 9999]
        exact zcw
       rw[<- Array.toList_modify,xcm];exact e2
      refine⟨xs.push { key:=a.eval kk,val:=a.eval x,born:=ck.1 },ck.1+1,?_,by simpa using g2,ck.2.push _ _,fun j a b c e1 e2=>g3 j a b c e1 ?_⟩
      .exact zdc
      rw[<- Array.toList_push,xcm];exact e2
     obtain⟨xs',ck',r1,r2,rw',r3⟩:=hrun
     have:(execOp a.eval op).run P w=.ok .skip { w with heap:=w.heap.setIfInBounds (ρ id) (.map xs' ck') } := by
      unfold execOp;rw[hop];simp only[Sem.run_bind];rw[r1];rfl
     refine jn3 this ?_
     show next (a.put op.dst undef) _
     rw[h2];refine k F ρ _ a _ ?_ hK;refine Sim.write S hb (k:=.map es' nm) (w':= { w with heap:=w.heap.setIfInBounds (ρ id) (.map xs' ck') }) rfl rfl rfl smq (fun j hj=>?_) hF b0 ⟨xs',⟨ck',rw'⟩,?_,b0,r2,r3⟩ (.inl rfl) (by rw[b1];simp) (fun j e c hj i hi hge hp=>?_)
     rotate_left 2
     .obtain⟨v,q1,_⟩:=S.ow j e c hj;have:=q1 i hi;rw[dz omq,hp] at this;unfold World.cell? at this;rw[b1] at this;cases this
     .simp[Array.getElem?_setIfInBounds_ne (Ne.symm hj)]
     simp[hlt]
    exact hk.elim
   exact hk.elim
  exact hk.elim
 .rename_i c hop;split at hk
  .rename_i f hc;split at hk
   .rename_i g cap vs hf hvs;refine qll S hop hc hf hvs hk (fun F' w' y r own hx hr ho hK=>?_) (fun F' w' y size es hx hn hK=>?_) (fun hm=>?_)
    .obtain⟨st',S',hK'⟩:=jkg S hx hr ho hK;exact k F' ρ st' _ w' S' hK'
    .obtain⟨ρ',st',S',hK'⟩:=juq S hx hn hK;exact k F' ρ' st' _ w' S' hK'
    exact ju6 S hop hc hf (jyc hvs) hm fun F' ρ' w' y st' tv S' hr hw hK=>by
     exact zeh
   .rename_i g cap hf _;split at hk
    .rename_i ts hts;refine ju6 S hop hc hf hts hk fun F' ρ' w' y st' tv S' hr hw hK=>?_;exact zeh
    exact hk.elim
   exact hk.elim
  .rename_i hc;rcases qym hk with hk|hk|hk
   .exact qlt S hop hc hk k
   .exact qls S hop hc hk k
   exact qlr S hop hc hk k
  .rename_i hc;exact qh7 S hop hc hk k
  exact jbr S hk k
 .rename_i o t x y _ hop;split at hk
  .rename_i size hx hy;have hb:=al (G.v hy);obtain⟨a0,c0,ha⟩:=ja0 (G.v hx);simp only[List.length_nil] at ha;unfold nilK at hk;split at hk
   .obtain⟨hs,hk⟩:=hk;obtain⟨e',hu⟩:=tk hs
    have hr:(execOp a.eval op).run P w=.ok (.value (.bool a0.isNone)) w:=by
     unfold execOp;rw[hop];exact cm (by rw[ha,hb];simp[eqGuard,jae (jbb hu a0 0 c0 w) rfl])
    refine cx hr ?_;obtain⟨st',S',hK⟩:=nz (tv:=.v (.val (.bool a0.isNone))) S (.val _) trivial (hk _);exact zc1
   .obtain⟨hs,hk⟩:=hk;obtain⟨e',hu⟩:=tk hs
    have hr:(execOp a.eval op).run P w=.ok (.value (.bool (!a0.isNone))) w:=by
     unfold execOp;rw[hop];exact cm (by rw[ha,hb];simp[eqGuard,jad (jbb hu a0 0 c0 w) rfl])
    refine cx hr ?_;obtain⟨st',S',hK⟩:=nz (tv:=.v (.val (.bool (!a0.isNone)))) S (.val _) trivial (hk _);exact zc1
   exact hk.elim
  exact jbr S hk k
 exact jbr S hk k
theorem jjv(S:SimS P T M F0 w0 F ρ st a w)(hk:mz P T op st K){next:Act->World->Prop}{Q:Exit->Act->World->Prop} 
  (k:∀F' ρ' st' a' w',SimS P T M F0 w0 F' ρ' st' a' w'->K st'->next a' w'):opG rd P op a w next Q:=by
 have G:=Sim.good S;unfold mz at hk;split at hk
 .rename_i t n parts hop;split at hk
  .exact jgf S hk k
  split at hk
  .rename_i e size v hsl hv;obtain⟨x,F',w',hr,hx,hrep,e',size',ys,g1,g2,g3,g4,g5,g6⟩:=qa7 (P:=P) G op hop hv;refine cx hr ?_;rw[hsl] at g1;cases g1;obtain⟨hu,hsz,hz⟩:=ip hsl;subst g2 g4
   obtain⟨st',S',hK'⟩:=jkg S hx hrep (fun e' he=>by
    cases he;refine⟨n,ys.toList,⟨by rw[Array.length_toList,g5,hsz],.inr ⟨w.heap.size,n,ys,rfl,vj _,⟨(0,0),.inl rfl,heap_alloc_new w _⟩,vo _,g3,by rw[g5,hsz],?_⟩⟩,fun g hg=>?_⟩
    .rw[hsz,<- g5];exact ye smq
    .simp only[Value.ownBlock,vk] at hg;subst hg
     exact⟨vo _,fun p v hp hb=>by rw[hsz];exact g6 p v hp hb⟩) hk
   exact k F' ρ st' _ _ S' hK'
  exact hk.elim
 exact jgf S hk k
end Go.Ab
