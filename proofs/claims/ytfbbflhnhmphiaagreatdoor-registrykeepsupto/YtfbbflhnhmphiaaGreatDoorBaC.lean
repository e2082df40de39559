/- A part of this claim. -/
import Derived.Test.YtfbbflhnhmphiaaGreatDoorBaB
namespace Go.Ab
open Go.RowKit
variable {P : Program}{T : Lay}{rd : Option Nat}
def gsel(b:Bool)(A C:Prop):Prop:=(b=true->A)/\(b=false->C)
theorem oh(A C:Prop):gsel true A C=A:=by simp[gsel]
theorem tl(A C:Prop):gsel false A C=C:=by simp[gsel]
def awO(P:Program)(T:Lay)(l:List Oper):List Oper->St->(St->Prop)->Prop
 |[],st,K=>K st
 |o::rest,st,K=>match gdV l o st.σ with
  |none=>False
  |some b=>gsel b (mz P T o st fun st'=>awO P T l rest st' K) (putK st o.dst .u fun st'=>awO P T l rest st' K)
def retD(st:St)(d:Option Tmp)(K:St->Prop):V->Option TypeId->Prop:=fun r _=>K { st with t:=match d with|none=>st.t|some d=>(d,.v r)::st.t }
def qz(P:Program)(T:Lay)(op:Oper)(st:St)(K:St->Prop):Prop:=
 match op.op with
 |.call c=>match c.callee with
  |.value f=>match vOf (opv st.σ f),vsOf (opv st.σ) c.args.toList with
   |some (.func g cap),some vs=>Call P T g (vs++cap) (retD st op.dst K) (fun _ _=>False) False
   |_,_=>False
  |_=>match evq P (opv st.σ) st.h op.op with
   |some tv=>K { st with t:=match op.dst with|none=>st.t|some d=>(d,tv)::st.t }
   |none=>False
 |_=>match evq P (opv st.σ) st.h op.op with
  |some tv=>K { st with t:=match op.dst with|none=>st.t|some d=>(d,tv)::st.t }
  |none=>match evb P (opv st.σ) op.op with
   |some v=>K { st with t:=match op.dst with|none=>st.t|some d=>(d,.v v)::st.t }
   |none=>False
def awD(P:Program)(T:Lay)(l:List Oper):List Oper->St->(St->Prop)->Prop
 |[],st,K=>K st
 |o::rest,st,K=>match gdV l o st.σ with
  |none=>False
  |some b=>gsel b (qz P T o st fun st'=>awD P T l rest st' K) (awD P T l rest { st with t:=match o.dst with|none=>st.t|some d=>(d,.u)::st.t } K)
def jb5(n:Nat)(o:List (TypeId×List Nat))(l:List Oper):Bool:=
 l.all fun op=>match op.dst with
  |none=>true
  |some d=>Nat.blt d n && o.all fun x=> !x.2.contains d
variable {w : World}{M : Nat -> Prop}{F0 F : Frz}{w0 : World}{ρ : Nat -> Nat}{a : Act}{st : St}
theorem jzl{n:Nat}{o:List (TypeId×List Nat)}{l:List Oper}(h:jb5 n o l=true):jrh n o l:=by
 intro op hop d hd;have:=xi.1 h op hop;simp only[hd,vn] at this;refine⟨by simpa [Nat.blt_eq] using this.1,fun j e c hj hdc=>?_⟩;have h2:=xi.1 this.2 (e,c) (vp hj);simp[hdc] at h2
theorem σ_put(st:St)(d:Option Tmp)(tv:TV):({ st with t:=match d with|none=>st.t|some d=>(d,tv)::st.t } : St).σ=upd st.σ d tv:=by
 cases d with
 |none=>rfl
 |some d=>exact σ_cons st d tv st.h st.o
theorem jt2{op:Oper}{K:St->Prop}(h:qz P T op st K):∃tv,um P T st.σ st.h op tv/\K { st with t:=match op.dst with|none=>st.t|some d=>(d,tv)::st.t } := by
 unfold qz at h;split at h
 .rename_i c hop;split at h
  .rename_i f hc;split at h
   .rename_i g cap vs hf hvs;rcases h with⟨r,hd,hk⟩|⟨r,e,hd,hk⟩|⟨_,_,_,h⟩|h
    .exact⟨.v r,.inr (.inr ⟨c,f,g,cap,vs,r,hop,hc,hf,hvs,hd,rfl⟩),hk⟩
    .exact⟨.v r,.inr (.inr ⟨c,f,g,cap,vs,r,hop,hc,hf,hvs,hd.den,rfl⟩),hk⟩
    .exact h.elim
    exact h.elim
   exact h.elim
  split at h
  .rename_i tv htv;exact⟨tv,.inl htv,h⟩
  exact h.elim
 split at h
 .rename_i tv htv;exact⟨tv,.inl htv,h⟩
 split at h
 .rename_i v hv;exact⟨.v v,.inr (.inl ⟨v,hv,rfl⟩),h⟩
 exact h.elim
theorem jq7{l:List Oper}{K:St->Prop}: ∀ {rest:List Oper} {st:St},awD P T l rest st K->awQ P T l st.h (fun σ=>∃st',st'.n=st.n/\st'.h=st.h/\st'.o=st.o/\σ=st'.σ/\K st') rest st.σ
 |[],st,h=>⟨st,rfl,rfl,rfl,rfl,h⟩
 |o::rest,st,h=>by
  simp only[awD] at h;cases hg:gdV l o st.σ with
  |none=>rw[hg] at h;exact h.elim
  |some b=>
   rw[hg] at h;simp only at h;cases b with
   |true=>
    rw[oh] at h;obtain⟨tv,hy,hk⟩:=jt2 h;have:=jq7 hk;rw[σ_put] at this;exact⟨tv,.inl ⟨hg,hy⟩,this⟩
   |false=>
    rw[tl] at h;have:=jq7 h;rw[σ_put] at this;exact⟨.u,.inr ⟨hg,rfl⟩,this⟩
theorem qhs{id:Nat}{ops:Array Oper}{K:St->Prop}(hm:P.follows .mixedOrders=true)(hB:Region.lexB .any ops=true)(hd:jb5 st.n st.o ops.toList=true) 
  (S:SimS P T M F0 w0 F ρ st a w) (h:awD P T ops.toList ops.toList st K) {Q:Exit->Act->World->Prop}
  (k:∀F' ρ' st' a' w',SimS P T M F0 w0 F' ρ' st' a' w'->K st'->Q .normal a' w'):wpG rd P (Code.region id ops true) Q a w:=by
 refine qhg (Q:=fun σ=>∃st',st'.n=st.n/\st'.h=st.h/\st'.o=st.o/\σ=st'.σ/\K st') hm hB (jzl hd) S (fun F' σ' a' w' S' hq=>?_) (jq7 h);obtain⟨st',h1,h2,h3,h4,h5⟩:=hq;refine k F' ρ st' a' w' ?_ h5;unfold SimS;rw[h1,h2,h3,<- h4];exact S'
theorem jjn{ops:Array Oper}{K:St->Prop}{Q:Exit->Act->World->Prop}(k:∀F' ρ' st' a' w',SimS P T M F0 w0 F' ρ' st' a' w'->K st'->Q .normal a' w'):
  ∀(rest:List Oper) (i:Nat) (F:Frz) (ρ:Nat->Nat) (st:St) (a:Act) (w:World),(∀j,rest[j]?=ops[i+j]?)->SimS P T M F0 w0 F ρ st a w->awO P T ops.toList rest st K->
   wpOpsIn (fc rd) 0 P ops Q (List.range' i rest.length) a w
 |[],i,F,ρ,st,a,w,_,S,h=>k F ρ st a w S h
 |o::rest,i,F,ρ,st,a,w,hl,S,h=>by
  have h0:ops[i]?=some o:=by simpa using(hl 0).symm
  have hl':∀j,rest[j]?=ops[i+1+j]? := fun j=>by have:=hl (j+1);simpa [Nat.add_assoc,Nat.add_comm 1 j] using this
  simp only[awO] at h;simp only[List.length_cons,List.range'_succ];rw[wpOpsIn_cons];unfold wpOpIn;simp only[h0];cases hg:gdV ops.toList o st.σ with
  |none=>rw[hg] at h;exact h.elim
  |some b=>
   rw[hg] at h;simp only at h;have hw:=Sim.wanted S hg;rw[hw];cases b with
   |true=>
    rw[oh] at h;rw[ve rfl];exact(jjv S h fun F' ρ' st' a' w' S' hK=>jjn k rest (i+1) F' ρ' st' a' w' hl' S' hK)
   |false=>
    rw[tl] at h;simp only[yw,xy];obtain⟨st',S',hK⟩:=nz (tv:=.u) (x:=undef) S rfl trivial h;exact⟨fun _ _=>trivial,jjn k rest (i+1) F ρ st' _ w hl' S' hK⟩
theorem qge{id:Nat}{ops:Array Oper}{K:St->Prop}(S:SimS P T M F0 w0 F ρ st a w)(h:awO P T ops.toList ops.toList st K){Q:Exit->Act->World->Prop} 
  (k:∀F' ρ' st' a' w',SimS P T M F0 w0 F' ρ' st' a' w'->K st'->Q .normal a' w'):wpG rd P (Code.region id ops false) Q a w:=by
 refine wpIn_region ?_;have:=jjn (rd:=rd) k ops.toList 0 F ρ st a w smq S h;simpa [List.range_eq_range'] using this
structure Kp where
 ts:List Nat
 hs:List Nat
 os:List Nat
 ns:List (Nat×TypeId×Nat)
def jx(hs:List Nat):List Nat->List (Nat×TV)->Option (List (Nat×TV))
 |[],_=>some []
 |i::r,t=>match look i t,jx hs r t with
  |some (.v x),some l=>some ((i,.v x)::l)
  |some (.p id off),some l=>if hs.contains id=true then some ((i,.p id off)::l) else none
  |some (.m id),some l=>if hs.contains id=true then some ((i,.m id)::l) else none
  |some (.s id off n size),some l=>if hs.contains id=true then some ((i,.s id off n size)::l) else none
  |_,_=>none
def nl:List Nat->List (Nat×Blk)->Option (List (Nat×Blk))
 |[],_=>some []
 |i::r,h=>match look i h,nl r h with
  |some b,some l=>some ((i,b)::l)
  |_,_=>none
def jb7(i:Nat):List (TypeId×List Nat)->Option Nat
  |[]=>none
  |(_,c)::r=>if c.contains i=true then some 0 else(jb7 i r).map (· + 1)
def nk(o:List (TypeId×List Nat)):List Nat->Option (List (TypeId×List Nat))
 |[]=>some []
 |i::r=>match cv i o,nk o r with
  |some e,some l=>if r.all (fun j=>jb7 j o != jb7 i o)=true then some ((e,[i])::l) else none
  |_,_=>none
def okK(hs os:List Nat):Bool:=os.all fun i=>decide (i<1000000000) || hs.contains (pid i)
def ew:List (Nat×TypeId×Nat)->St->Option St
 |[],st=>some st
 |(i,e,size)::r,st=>match look i st.t with
  |some (.v (.val (.slice none 0 0)))=>ew r { st with t:=(i,.v (.slice size []))::st.t,o:=(e,[i])::remo i st.o }
  |some (.v (.slice _ _))=>ew r st
  |some _=>none
  |none=>match look (pid i) st.h with
   |some (.var cs nm kk)=>match cs[pof i]? with
    |some (.val (.slice none 0 0))=>bif Nat.ble 1000000000 i then ew r { st with h:=seth (pid i) (.var (ba cs (pof i) [.slice size []]) nm kk) st.h,o:=(e,[i])::st.o } else none
    |some (.slice _ _)=>ew r st
    |_=>none
   |_=>none
def cb(k:Kp)(st:St):Option St:=
 match ew k.ns st with
 |none=>none
 |some st=>match jx k.hs k.ts st.t,nl k.hs st.h,nk st.o k.os with
  |some t,some h,some o=>bif okK k.hs k.os then some { n:=st.n,t:=t,h:=h,o:=o } else none
  |_,_,_=>none
theorem ja7{hs:List Nat}{t:List (Nat×TV)}: ∀ {ts:List Nat} {l:List (Nat×TV)},jx hs ts t=some l->∀i tv,look i l=some tv->look i t=some tv/\(∀id off,tv=.p id off->id∈hs)/\(∀id,tv=.m id->id∈hs)/\∀id off n size,tv=.s id off n size->id∈hs
 |[],l,h,i,tv,e=>by simp only[jx,vk] at h;subst h;cases e
 |j::r,l,h,i,tv,e=>by
  simp only[jx] at h;split at h
  .rename_i x l' h1 h2;cases h;rw[ae] at e;split at e
   .rename_i he;cases e;subst he;exact⟨h1,(fun _ _ e=>by cases e),(fun _ e=>by cases e),(fun _ _ _ _ e=>by cases e)⟩
   exact ja7 h2 i tv e
  .rename_i id off l' h1 h2;split at h
   .rename_i hc;cases h;rw[ae] at e;split at e
    .rename_i he;cases e;subst he;exact⟨h1,(fun _ _ e=>by cases e;simpa using hc),(fun _ e=>by cases e),(fun _ _ _ _ e=>by cases e)⟩
    exact ja7 h2 i tv e
   cases h
  .rename_i id l' h1 h2;split at h
   .rename_i hc;cases h;rw[ae] at e;split at e
    .rename_i he;cases e;subst he;exact⟨h1,(fun _ _ e=>by cases e),(fun _ e=>by cases e;simpa using hc),(fun _ _ _ _ e=>by cases e)⟩
    exact ja7 h2 i tv e
   cases h
  .rename_i id off n size l' h1 h2;split at h
   .rename_i hc;cases h;rw[ae] at e;split at e
    .rename_i he;cases e;subst he;exact⟨h1,(fun _ _ e=>by cases e),(fun _ e=>by cases e),(fun _ _ _ _ e=>by cases e;simpa using hc)⟩
    exact ja7 h2 i tv e
   cases h
  cases h
theorem juz{h:List (Nat×Blk)}: ∀ {hs:List Nat} {l:List (Nat×Blk)},nl hs h=some l->(∀i b,look i l=some b->look i h=some b)/\∀i,i∈hs->look i l≠none
 |[],l,e=>by simp only[nl,vk] at e;subst e;exact⟨(fun i b e=>by cases e),(fun i hi=>by cases hi)⟩
 |j::r,l,e=>by
  simp only[nl] at e;split at e
  .rename_i b l' h1 h2;cases e;obtain⟨g1,g2⟩:=juz h2;refine⟨fun i b' e=>?_,fun i hi=>?_⟩
   .rw[ae] at e;split at e
    .rename_i he;cases e;subst he;exact h1
    exact g1 i b' e
   rw[ae];split
   .simp
   rename_i hne;exact g2 i ((vt.1 hi).resolve_left hne)
  cases e
theorem jvm{i:Nat}: ∀ {o:List (TypeId×List Nat)} {e:TypeId},cv i o=some e->∃(j:Nat) (c:List Nat),jb7 i o=some j/\o[j]?=some (e,c)/\i∈c
 |[],_,h=>by cases h
 |(e',c')::r,e,h=>by
  simp only[cv] at h;simp only[jb7];split at h
  .rename_i hc;cases h;exact⟨0,c',by rw[ve hc],rfl,by simpa using hc⟩
  rename_i hc;obtain⟨j,c,h1,h2,h3⟩:=jvm h;exact⟨j+1,c,by rw[vd hc,h1];rfl,by simpa using h2,h3⟩
theorem juy{o:List (TypeId×List Nat)}: ∀ {os:List Nat} {l:List (TypeId×List Nat)},nk o os=some l->
    ∃f:Nat->Nat,(∀(j:Nat) e c,l[j]?=some (e,c)->∃i,os[j]?=some i/\c=[i]/\jb7 i o=some (f j)/\∃c0,o[f j]?=some (e,c0)/\i∈c0)/\
      ∀(j j':Nat) x x',l[j]?=some x->l[j']?=some x'->f j=f j'->j=j'
  | [],l,h=>by
    simp only[nk,vk] at h;subst h;exact⟨id,fun j e c hj=>by simp at hj,fun j j' x x' hj=>by simp at hj⟩
  | i::r,l,h=>by
    simp only[nk] at h;split at h
    . rename_i e l' h1 h2;split at h
      . rename_i hc;cases h;obtain⟨f,g1,g2⟩:=juy h2;obtain⟨j0,c0,k1,k2,k3⟩:=jvm h1
        have hall:∀i',i'∈r->jb7 i' o≠some j0:=fun i' hi'=>by
          have:=xi.1 hc i' hi';rw[k1] at this;exact zb4
        refine⟨fun j=>match j with|0=>j0|j+1=>f j,fun j e' c' hj=>?_,fun j j' x x' hj hj' he=>?_⟩
        . cases j with
          | zero=>
            simp only[List.getElem?_cons_zero,vk,xo] at hj;obtain⟨rfl,rfl⟩:=hj;exact⟨i,rfl,rfl,k1,c0,k2,k3⟩
          |succ j=>exact g1 j e' c' (by simpa using hj)
        cases j with
        | zero=>
          cases j' with
          |zero=>rfl
          | succ j'=>
            obtain⟨i',q1,q2,q3,_⟩:=g1 j' x'.1 x'.2 (by simpa using hj');exact absurd (q3.trans (congrArg some he.symm)) (hall i' (vp q1))
        | succ j=>
          cases j' with
          | zero=>
            obtain⟨i',q1,q2,q3,_⟩:=g1 j x.1 x.2 zfa;exact absurd (q3.trans (congrArg some he)) (hall i' (vp q1))
          |succ j'=>exact congrArg (· + 1) (g2 j j' x x' (by simpa using hj) (by simpa using hj') he)
      cases h
    cases h
theorem jdd:∀ {ns:List (Nat×TypeId×Nat)} {st st':St},ew ns st=some st'->SimS P T M F0 w0 F ρ st a w->SimS P T M F0 w0 F ρ st' a w
 |[],st,st',h,S=>by simp only[ew,vk] at h;subst h;exact S
 |(i,e,size)::r,st,st',h,S=>by
  simp only[ew] at h;split at h
  .rename_i hl;refine jdd h ?_;obtain⟨x,h1,h2⟩:=S.tm i _ hl;have hx:=al (show Rep F _ x from h2);subst hx;have hsz:i<a.tmps.size:=(asi.1 h1).1;have S1:=Sim.putr (d:=i) (tv:=.v (.slice size [])) (x:=.slice none 0 0) S Rep.snil trivial (by rw[<- S.n];exact hsz)
   have ha:a.put (some i) (.slice none 0 0)=a:=by
    have hv:a.tmps[i]=.slice none 0 0:=by
     have:=(asi.1 h1).2;exact this
    simp only[Act.put];congr 1;apply Array.ext
    .simp
    intro j g1 g2;rw[Array.getElem_setIfInBounds];split
    .rename_i he;subst he;exact hv.symm
    rfl
   rw[ha] at S1;unfold SimS;rw[σ_cons];exact S1.newOwn (v:=.slice none 0 0) (by rw[kx (by have:=S.nn;omega)];exact h1) (fun hge=>(jcu hsz S.nn hge).elim) ⟨0,[],co.nil _ _ _ _,fun g hg=>by simp[Value.ownBlock] at hg⟩ (fun id b _=>by simp[Value.ownBlock]) (fun j e c hj k hk u g hu hg=>by simp[Value.ownBlock] at hg)
  .exact jdd h S
  .cases h
  split at h
  .rename_i cs nm kk hb;split at h
   .rename_i hc;cases hge:Nat.ble 1000000000 i with
    |false=>rw[hge] at h;cases h
    |true=>
     rw[hge] at h;have hge':=xb9 hge;refine jdd h ?_;obtain⟨⟨xs,ty,h1,h2,h3,h4,h5⟩,hM,hlt⟩:=S.hp _ _ hb;have hlc:=(gsi.1 hc).1;have hfit:pof i+[V.slice size []].length<=cs.length:=by simp;omega
     have hlx:pof i<xs.size:=omq;have hx:=al (h4 _ _ _ hc (xu hlx))
     have S1:=Sim.know S hb (k:=.var (ba cs (pof i) [.slice size []]) nm kk) ⟨xs,ty,h1,by rw[rj hfit];exact h2,fun c hc=>by
      obtain⟨j,hj⟩:=xm hc;rw[dy hfit] at hj;split at hj
      .have:=vp hj;exact zde
      .exact h3 c (vp hj),fun j c y e1 e2=>by
      rw[dy hfit] at e1;split at e1
      .rename_i hin;simp at hin;have hj0:j=pof i:=omq;subst hj0;simp at e1;subst e1;rw[xu hlx] at e2;cases e2;rw[hx];exact .snil
      .exact h4 j c y e1 e2,h5⟩ rfl
     refine S1.newOwn (d:=i) (e:=e) (v:=.slice none 0 0) ?_ (fun _=>?_) ⟨0,[],co.nil _ _ _ _,fun g hg=>by simp[Value.ownBlock] at hg⟩ (fun id b _=>by simp[Value.ownBlock]) (fun j e c hj k hk u g hu hg=>by simp[Value.ownBlock] at hg)
     .rw[dz omq];simp[World.cell?,h1,hlx,hx]
     show look (pid i) (seth _ _ st.h)≠none
     rw[je3 _ _ _ (by rw[hb];simp)];simp
   .exact jdd h S
   cases h
  cases h
theorem jdl{k:Kp}{st st':St}(h:cb k st=some st')(S:SimS P T M F0 w0 F ρ st a w):SimS P T M F0 w0 F ρ st' a w:=by
  unfold cb at h;split at h
  . cases h
  rename_i st1 h1;have S1:=jdd h1 S;split at h
  . rename_i t hh o g1 g2 g3;cases hok:okK k.hs k.os with
    |false=>rw[hok] at h;cases h
    |true=>
    rw[hok] at h;cases h;obtain⟨e1,e2⟩:=juz g2;obtain⟨f,f1,f2⟩:=juy g3
    have S2:=Sim.weako (o':=o) S1 f (fun j e c hj=>by
      obtain⟨i,q1,q2,q3,c0,q4,q5⟩:=f1 j e c hj
      exact⟨c0,q4,fun i' hi'=>by subst q2;simp at hi';subst hi';exact q5⟩) (fun j j' e c e' c' i i' hj hj' _ _ he=>f2 j j' _ _ hj hj' he)
    exact { n := S2.n, df := S2.df, sees := S2.sees, lay := S2.lay, le := S2.le, new := S2.new, newm := S2.newm, bel := S2.bel, hM := S2.hM, od := S2.od
            tm:=fun i tv e=>S2.tm i tv (ja7 g1 i tv e).1
            wf:=fun i tv e=>by
              obtain⟨q1,q2,q3,q4⟩:=ja7 g1 i tv e;cases tv with
              |p id off=>exact e2 id (q2 id off rfl)
              |m id=>exact e2 id (q3 id rfl)
              |s id off n size=>exact e2 id (q4 id off n size rfl)
              |v x=>trivial
              |u=>trivial
            hp:=fun id b e=>S2.hp id b (e1 id b e)
            nn:=S2.nn
            z:=fun i b hi e=>S2.z i b hi (e1 _ b e)
            nb:=fun i b q e hq=>S2.nb i b q (e1 _ b e) hq
            oc:=fun j e c hj i hi hge=>by
              obtain⟨i',q1,q2,_⟩:=f1 j e c hj;subst q2;simp at hi;subst hi;have:=xi.1 hok i (vp q1);simp only[xbx] at this;rcases this with this|this
              . have:=xj this;omega
              exact e2 _ (by simpa using this)
            inj:=fun id id' b b' e e'=>S2.inj id id' b b' (e1 id b e) (e1 id' b' e')
            ow:=fun j e c hj=>by
              obtain⟨v,q1,q2,q3⟩:=S2.ow j e c hj
              exact⟨v,q1,q2,fun id b e=>q3 id b (e1 id b e)⟩ }
  cases h
inductive AX where
 |nm
 |ex (id:Nat)
 |rt
def sq(A:St->Prop)(Q:AX->St->Prop):AX->St->Prop
 |.nm,st=>A st
 |e,st=>Q e st
def blk(id:Nat)(Q:AX->St->Prop):AX->St->Prop
 |.ex i,st=>if i=id then Q .nm st else Q (.ex i) st
 |e,st=>Q e st
def Post(P:Program)(T:Lay)(M:Nat->Prop)(F0:Frz)(w0:World)(Q:AX->St->Prop):Exit->Act->World->Prop
 |.normal,a,w=>∃F ρ st,SimS P T M F0 w0 F ρ st a w/\Q .nm st
 |.exit id,a,w=>∃F ρ st,SimS P T M F0 w0 F ρ st a w/\Q (.ex id) st
 |.ret,a,w=>∃F ρ st,SimS P T M F0 w0 F ρ st a w/\Q .rt st
 |_,_,_=>False
def SemR(P:Program)(T:Lay)(ops:Array Oper)(st:St)(K:St->Prop):Prop:=
 ∀(rd:Option Nat) (M:Nat->Prop) (F0:Frz) (w0:World) (F:Frz) (ρ:Nat->Nat) (a:Act) (w:World) (Q:Exit->Act->World->Prop) (id:Nat),SimS P T M F0 w0 F ρ st a w->
  (∀F' ρ' st' a' w',SimS P T M F0 w0 F' ρ' st' a' w'->K st'->Q .normal a' w')->wpG rd P (Code.region id ops true) Q a w
def OkR(rd:Option Nat)(M:Nat->Prop)(w0:World):Prop:=∀l,rd=some l->¬M l/\∃x,w0.heap[l]?=some (.loop x)
theorem OkR.none(M:Nat->Prop)(w0:World):OkR none M w0:=fun _ h=>by cases h
def aw(P:Program)(T:Lay)(c:Code)(st:St)(Q:AX->St->Prop):Prop:=
 ∀(rd:Option Nat) (M:Nat->Prop) (F0:Frz) (w0:World) (F:Frz) (ρ:Nat->Nat) (a:Act) (w:World),OkR rd M w0->SimS P T M F0 w0 F ρ st a w->wpG rd P c (Post P T M F0 w0 Q) a w
theorem jah(c:Code){Q:AX->St->Prop}{F:Frz}{ρ:Nat->Nat}{st:St}{a:Act}{w:World}(S:SimS P T M F0 w0 F ρ st a w)(h:aw P T c st Q):wpG none P c (Post P T M F0 w0 Q) a w:=h none M F0 w0 F ρ a w (OkR.none _ _) S
variable {Q : AX -> St -> Prop}{x y : Code}
theorem qug(h:Q .nm st):aw P T .skip st Q:=fun _ _ _ _ F ρ _ _ _ S=>wpIn_skip ⟨F,ρ,st,S,h⟩
theorem qui{id:Nat}(h:Q (.ex id) st):aw P T (.exit id) st Q:=fun _ _ _ _ F ρ _ _ _ S=>wpIn_exit ⟨F,ρ,st,S,h⟩
theorem qyd(h:Q .rt st):aw P T .ret st Q:=fun _ _ _ _ F ρ _ _ _ S=>wpIn_ret ⟨F,ρ,st,S,h⟩
theorem qye{id:Nat}{ops:Array Oper}(h:awO P T ops.toList ops.toList st (Q .nm)):aw P T (.region id ops false) st Q:=fun _ _ _ _ _ _ _ _ _ S=>
 qge S h fun F' ρ' st' _ _ S' hK=>⟨F',ρ',st',S',hK⟩
theorem jq3{id:Nat}{ops:Array Oper}(h:SemR P T ops st (Q .nm)):aw P T (.region id ops true) st Q:=fun rd M F0 w0 F ρ a w _ S=>
 h rd M F0 w0 F ρ a w _ id S fun F' ρ' st' _ _ S' hK=>⟨F',ρ',st',S',hK⟩
theorem qyf(hm:P.follows .mixedOrders=true){id:Nat}{ops:Array Oper}(h:Region.lexB .any ops=true/\jb5 st.n st.o ops.toList=true/\awD P T ops.toList ops.toList { st with h:=frzR st.σ ops.toList st.h } (Q .nm)):aw P T (.region id ops true) st Q:=fun _ _ _ _ _ _ _ _ _ S=>by
 obtain⟨F1,S1⟩:=jgw (h:=st.h) ops.toList S;exact qhs (st:= { st with h:=frzR st.σ ops.toList st.h }) hm h.1 h.2.1 S1 h.2.2 fun F' ρ' st' a' w' S' hK=>⟨F',ρ',st',S',hK⟩
theorem qcj(h:aw P T x st (sq (fun st'=>aw P T y st' Q) Q)):aw P T (.seq x y) st Q:=fun rd M F0 w0 F ρ a w hR S=>by
 refine wpIn_seq (wpIn_mono (h rd M F0 w0 F ρ a w hR S) ?_);intro e a' w' hq;cases e with
 |normal=>
  obtain⟨F',ρ',st',S',hK⟩:=hq;exact hK rd M F0 w0 F' ρ' a' w' hR S'
 |exit id=>exact hq
 |ret=>exact hq
 |goto l=>exact hq
 |panic c=>exact hq
 |outgrown=>exact hq
theorem qab{c:Operand}{b:Bool}(hb:vOf (opv st.σ c)=some (.val (.bool b)))(h1:b=true->aw P T x st Q)(h2:b=false->aw P T y st Q):aw P T (.cond c x y) st Q:=fun rd M F0 w0 F ρ a w hR S=>by
 have hv:=al (Sim.good S |>.v hb);refine wpIn_cond hv ?_;cases b with
 |true=>exact h1 rfl rd M F0 w0 F ρ a w hR S
 |false=>exact h2 rfl rd M F0 w0 F ρ a w hR S
theorem qq2{id:Nat}(h:aw P T x st (blk id Q)):aw P T (.block id x) st Q:=fun rd M F0 w0 F ρ a w hR S=>by
 refine wpIn_block (wpIn_mono (h rd M F0 w0 F ρ a w hR S) ?_);intro e a' w' hq;cases e with
 |normal=>exact hq
 |exit i=>
  obtain⟨F',ρ',st',S',hK⟩:=hq;simp only[blk] at hK;simp only[Exit.inBlock];split
  .rename_i hi;rw[ve hi] at hK;exact⟨F',ρ',st',S',hK⟩
  rename_i hi;rw[vd hi] at hK;exact⟨F',ρ',st',S',hK⟩
 |ret=>exact hq
 |goto l=>exact hq
 |panic c=>exact hq
 |outgrown=>exact hq
theorem quh(h:∃(k:Kp) (I:Nat->St->Prop) (n:Nat),(∃st0,cb k st=some st0/\I n st0)/\∀n st,I n st->aw P T x st (sq (fun st'=>∃m st'',m<n/\cb k st'=some st''/\I m st'') Q)):aw P T (.loop x) st Q:=fun rd M F0 w0 F ρ a w hR S=>by
 obtain⟨kp,I,n,⟨st0,hk0,hI⟩,hr⟩:=h;refine jso (fun n a w=>∃F ρ st,SimS P T M F0 w0 F ρ st a w/\I n st) n ⟨F,ρ,st0,jdl hk0 S,hI⟩ ?_;rintro n a w ⟨F,ρ,st,S,hI⟩;refine wpIn_mono (hr n st hI rd M F0 w0 F ρ a w hR S) ?_;intro e a' w' hq;cases e with
 |normal=>
  obtain⟨F',ρ',st',S',m,st'',hlt,hk',hK⟩:=hq;exact⟨m,hlt,F',ρ',st'',jdl hk' S',hK⟩
 |exit id=>exact hq
 |ret=>exact hq
 |goto l=>exact hq
 |panic c=>exact hq
 |outgrown=>exact hq
theorem qq1(h:∃(I:Nat->St->Prop) (n:Nat),(∃k st0,cb k st=some st0/\I n st0)/\∀n st,I n st->aw P T x st (sq (fun st'=>∃k m st'',m<n/\cb k st'=some st''/\I m st'') Q)):aw P T (.loop x) st Q:=fun rd M F0 w0 F ρ a w hR S=>by
 obtain⟨I,n,⟨kp,st0,hk0,hI⟩,hr⟩:=h;refine jso (fun n a w=>∃F ρ st,SimS P T M F0 w0 F ρ st a w/\I n st) n ⟨F,ρ,st0,jdl hk0 S,hI⟩ ?_;rintro n a w ⟨F,ρ,st,S,hI⟩;refine wpIn_mono (hr n st hI rd M F0 w0 F ρ a w hR S) ?_;intro e a' w' hq;cases e with
 |normal=>
  obtain⟨F',ρ',st',S',k',m,st'',hlt,hk',hK⟩:=hq;exact⟨m,hlt,F',ρ',st'',jdl hk' S',hK⟩
 |exit id=>exact hq
 |ret=>exact hq
 |goto l=>exact hq
 |panic c=>exact hq
 |outgrown=>exact hq
theorem jo6{c:Code}{Q':AX->St->Prop}(h:aw P T c st Q)(hq:∀e st',Q e st'->Q' e st'):aw P T c st Q':=fun rd M F0 w0 F ρ a w hR S=>by
 refine wpIn_mono (h rd M F0 w0 F ρ a w hR S) ?_;intro e a' w' hh;cases e with
 |normal=>obtain⟨F',ρ',st',S',hK⟩:=hh;exact⟨F',ρ',st',S',hq _ _ hK⟩
 |exit id=>obtain⟨F',ρ',st',S',hK⟩:=hh;exact⟨F',ρ',st',S',hq _ _ hK⟩
 |ret=>obtain⟨F',ρ',st',S',hK⟩:=hh;exact⟨F',ρ',st',S',hq _ _ hK⟩
 |goto l=>exact hh
 |panic c=>exact hh
 |outgrown=>exact hh
def nam(id b:Nat):List (Nat×Blk)->List (Nat×Blk)
 |[]=>[]
 |(j,x)::r=>if id=j then(j,x.wn (some b))::r else(j,x)::nam id b r
theorem jyt(id b:Nat):∀(h:List (Nat×Blk)) (i:Nat),look i (nam id b h)=if i=id then(look i h).map (Blk.wn (some b)) else look i h
 |[],i=>by simp[nam,look]
 |(j,x)::r,i=>by
  simp only[nam];by_cases hj:id=j
  .subst hj;rw[ve rfl,ae,ae];by_cases hi:i=id
   .simp[hi]
   simp[hi]
  rw[vd hj,ae,ae,jyt id b r i];by_cases hi:i=j
  .subst hi;simp[Ne.symm hj]
  simp[hi]
theorem Sim.nam(S:SimS P T M F0 w0 F ρ st a w)(id:Nat):SimS P T M F0 w0 F ρ { st with h:=nam id (ρ id) st.h } a w:=by
  have hlook:=jyt id (ρ id) st.h
  have hback:∀i b,look i (Go.Ab.nam id (ρ id) st.h)=some b->∃b0,look i st.h=some b0/\(b=b0\/(i=id/\b=b0.wn (some (ρ id)))):=fun i b e=>by
    rw[hlook] at e;split at e
    . rename_i hi;obtain⟨b0,h1,rfl⟩:=msi.1 e;exact⟨b0,h1,.inr ⟨hi,rfl⟩⟩
    exact⟨b,e,.inl rfl⟩
  have hnone:∀i,look i st.h≠none->look i (Go.Ab.nam id (ρ id) st.h)≠none:=fun i hi=>by
    rw[hlook];split
    . cases h:look i st.h with
      |none=>exact absurd h hi
      |some x=>simp
    exact hi
  exact { n := S.n, df := S.df, sees := S.sees, lay := S.lay, le := S.le, new := S.new, newm := S.newm, bel := S.bel, hM := S.hM, tm := S.tm, nn := S.nn, od := S.od
          wf:=fun i tv e=>by
            have hw:=S.wf i tv e;cases tv with
            |p i' off=>exact hnone i' hw
            |m i'=>exact hnone i' hw
            |s i' off m size=>exact hnone i' hw
            |v y=>trivial
            |u=>trivial
          hp:=fun i b e=>by
            obtain⟨b0,h1,rfl|⟨_,rfl⟩⟩:=hback i b e
            . exact S.hp i b h1
            obtain⟨q1,q2,q3⟩:=S.hp i b0 h1;exact⟨(jig _).2 q1,q2,q3⟩
          z:=fun i b hi e=>by
            obtain⟨b0,h1,_⟩:=hback i b e;exact S.z i b0 hi h1
          nb:=fun i b q e hq=>by
            obtain⟨b0,h1,rfl|⟨rfl,rfl⟩⟩:=hback i b e
            . exact S.nb i b q h1 hq
            have:=nm_wn hq;cases this;rfl
          inj:=fun i i' b b' e e'=>by
            obtain⟨b0,h1,_⟩:=hback i b e;obtain⟨b0',h1',_⟩:=hback i' b' e';exact S.inj i i' b0 b0' h1 h1'
          ow:=fun j e c hj=>by
            obtain⟨v,q1,q2,q3⟩:=S.ow j e c hj
            exact⟨v,q1,q2,fun i b e'=>by
              obtain⟨b0,h1,_⟩:=hback i b e'
              exact q3 i b0 h1⟩
          oc:=fun j e c hj i hi hge=>hnone _ (S.oc j e c hj i hi hge) }
theorem jit{c:Code}(id:Nat)(h:∀b,(∀id' k q,look id' st.h=some k->k.nm=some q->id'≠id->look id st.h≠none->q≠b)->aw P T c { st with h:=nam id b st.h } Q):aw P T c st Q:=fun rd M F0 w0 F ρ a w hR S=>
 h (ρ id) (fun id' k q e hq hne hid he=>by
  obtain⟨k0,hk0⟩:=xan.1 hid;have:=S.nb id' k q e hq
  exact hne (S.inj id' id k k0 e hk0 (this.trans he))) rd M F0 w0 F ρ a w hR (Sim.nam S id)
theorem jco{c:Code}(id:Nat)(h:aw P T c { st with h:=frz1 id st.h } Q):aw P T c st Q:=fun rd M F0 w0 F ρ a w hR S=>by
 obtain⟨F',S'⟩:=jds S id;exact h rd M F0 w0 F' ρ a w hR S'
theorem jsk{c:Code}{st':St}(h:∀(M:Nat->Prop) (F0:Frz) (w0:World) (F:Frz) (ρ:Nat->Nat) (a:Act) (w:World),SimS P T M F0 w0 F ρ st a w->SimS P T M F0 w0 F ρ st' a w)(k:aw P T c st' Q):aw P T c st Q:=fun rd M F0 w0 F ρ a w hR S=>
 k rd M F0 w0 F ρ a w hR (h M F0 w0 F ρ a w S)
theorem mi{c:Code}{Q':AX->St->Prop}(h:aw P T c st Q)(hq:∀(M:Nat->Prop) (F0:Frz) (w0:World) (F:Frz) (ρ:Nat->Nat) (st':St) (a:Act) (w:World) (e:AX),SimS P T M F0 w0 F ρ st' a w->Q e st'->∃F' ρ' st'',SimS P T M F0 w0 F' ρ' st'' a w/\Q' e st''):aw P T c st Q':=fun rd M F0 w0 F ρ a w hR S=>by
 refine wpIn_mono (h rd M F0 w0 F ρ a w hR S) ?_;intro e a' w' hh;cases e with
 |normal=>obtain⟨F',ρ',st',S',hK⟩:=hh;exact hq M F0 w0 F' ρ' st' a' w' .nm S' hK
 |exit id=>obtain⟨F',ρ',st',S',hK⟩:=hh;exact hq M F0 w0 F' ρ' st' a' w' (.ex id) S' hK
 |ret=>obtain⟨F',ρ',st',S',hK⟩:=hh;exact hq M F0 w0 F' ρ' st' a' w' .rt S' hK
 |goto l=>exact hh
 |panic c=>exact hh
 |outgrown=>exact hh
attribute [irreducible] aw
end Go.Ab
namespace Go.Ab
open Go.RowKit
variable {P : Program}{T : Lay}{rd : Option Nat}
variable {w : World}{M : Nat -> Prop}{F0 F : Frz}{w0 : World}{ρ : Nat -> Nat}{a : Act}{st : St}
variable {fn:Func}{f:FuncId}{c:Code}{args:List TV}{xs:List Value}{bs:List (Nat×Blk)}{size:Nat}{i:Nat}{l:List V}{m:List V}
def resV(P:Program)(st:St):ResultVar->Option V
 |.tmp t=>vOf (st.σ t)
 |.cell t ty=>(behind st.h (st.σ t)).bind (ldV P ty)
def resL(P:Program)(st:St):List ResultVar->Option (List V)
 |[]=>some []
 |r::rs=>match resV P st r,resL P st rs with
  |some v,some vs=>some (v::vs)
  |_,_=>none
def resS(P:Program)(st:St)(l:List ResultVar):Option V:=
 match resL P st l with
 |some [v]=>some v
 |some vs=>some (.tup vs)
 |none=>none
def resM(tmps:Array Value):ResultVar->Sem Value
 |.tmp t=>pure (tmps.getD t undef)
 |.cell a t=>do loadVar t (<- asAddr (tmps.getD a undef))
theorem qj3(fn:Func)(tmps:Array Value):results fn tmps=(do let vs <- fn.results.mapM (resM tmps);pure (if h:vs.size=1 then vs[0] else .tuple vs)):=by
 rfl
def qe9:List Value->Value
 |[x]=>x
 |xs=>.tuple xs.toArray
theorem qgd{tmps:Array Value}(h:(fn.results.toList.mapM (resM tmps)).run P w=.ok xs w):
  (results fn tmps).run P w=.ok (qe9 xs) w:=by
 rw[qj3];simp only[Array.mapM_eq_mapM_toList];simp only[Sem.run_bind,Sem.run_map];rw[h];simp only[Result.andThen_ok,Sem.run_pure]
 match xs with
 |[]=>rfl
 |[x]=>rfl
 |x::y::r=>simp[qe9]
theorem qln(ad:Addr):(asAddr (.pointer (some ad))).run P w=.ok ad w:=rfl
theorem jum(S:SimS P T M F0 w0 F ρ st a w):∀(l:List ResultVar) {vs:List V},resL P st l=some vs->
  ∃xs,(l.mapM (resM a.tmps)).run P w=.ok xs w/\xs.length=vs.length/\∀(j:Nat) v x,vs[j]?=some v->xs[j]?=some x->Rep F v x
 |[],vs,h=>by
  simp only[resL,vk] at h;subst h;exact⟨[],rfl,rfl,smq⟩
 |r::rs,vs,h=>by
  simp only[resL] at h;split at h
  .rename_i v vs' h1 h2;cases h;obtain⟨xs,g1,g2,g3⟩:=jum S rs h2
   have hone:∃x,(resM a.tmps r).run P w=.ok x w/\Rep F v x:=by
    cases r with
    |tmp t=>
     simp only[resV] at h1;have:=Sim.good S |>.v (x:=.tmp t) h1;exact⟨a.eval (.tmp t),rfl,this⟩
    |cell t ty=>
     simp only[resV,xaz] at h1;obtain⟨cs,k1,k2⟩:=h1;obtain⟨y,r1,r2⟩:=ju7 (P:=P) (Sim.good S) (x:=.tmp t) k1 k2;refine⟨y,?_,r2⟩;simp only[Instr.loadAt,Sem.run_bind] at r1
     have hp:∃ad,a.eval (.tmp t)=.pointer (some ad):=by
      unfold behind at k1;split at k1
      .rename_i cs' hx;obtain⟨ad,g,e,_⟩:=rm (show Rep F (.row cs') (a.eval (.tmp t)) from S.opr (.tmp t) _ hx);exact⟨ad,e⟩
      .rename_i id off hx;exact⟨_,show a.eval (.tmp t)=_ from S.opr (.tmp t) _ hx⟩
      cases k1
     obtain⟨ad,hp⟩:=hp;have hp':a.tmps.getD t undef=.pointer (some ad):=hp;rw[hp] at r1;simp only[resM,hp',Sem.run_bind,qln,Result.andThen_ok];simpa [Instr.sureAddr] using r1
   obtain⟨x,hx1,hx2⟩:=hone;refine⟨x::xs,?_,by simp[g2],fun j v' x' e1 e2=>?_⟩
   .simp only[List.mapM_cons,Sem.run_bind];rw[hx1];simp only[Result.andThen_ok];rw[g1];rfl
   cases j with
   |zero=>simp at e1 e2;subst e1 e2;exact hx2
   |succ j=>exact g3 j v' x' (by simpa using e1) (by simpa using e2)
  cases h
theorem jbh{r:V}(S:SimS P T M F0 w0 F ρ st a w)(h:resS P st fn.results.toList=some r):∃y,(results fn a.tmps).run P w=.ok y w/\Rep F r y:=by
 unfold resS at h;cases hl:resL P st fn.results.toList with
 |none=>rw[hl] at h;cases h
 |some vs=>
  rw[hl] at h;obtain⟨xs,g1,g2,g3⟩:=jum S _ hl;refine⟨_,qgd g1,?_⟩
  match vs,xs,g2,g3,h with
  |[],[],_,g3,h=>simp at h;subst h;exact .tup rfl smq
  |[v],[x],_,g3,h=>simp at h;subst h;exact g3 0 v x rfl rfl
  |v::v'::vs,x::x'::xs,g2,g3,h=>
   simp at h;subst h;exact .tup (by simpa using g2) (fun j c y e1 e2=>g3 j c y e1 zeu)
  |[],_::_,g2,_,_=>simp at g2
  |[_],[],g2,_,_=>simp at g2
  |[_],_::_::_,g2,_,_=>simp at g2
  |_::_::_,[],g2,_,_=>simp at g2
  |_::_::_,[_],g2,_,_=>simp at g2
def be(off n size:Nat)(cs:List V):List (List V):=(List.range n).map fun i=>(cs.drop (off+i*size)).take size
theorem jxx{off n:Nat}{cs:List V}{e:List V}(h:(be off n size cs)[i]?=some e):i<n/\e=(cs.drop (off+i*size)).take size:=by
 simp only[be,xe,msi] at h;obtain⟨j,h1,rfl⟩:=h;obtain⟨h3,h2⟩:=gsi.1 h1;simp at h3 h2;subst h2;exact⟨h3,rfl⟩
def ig(t:Nat)(st:St):St:=
 match look t st.t with
 |some (.s id off n size)=>match look id st.h with
  |some (.var cs none _)=>if off+n*size<=cs.length then { st with t:=(t,.v (.slice size (be off n size cs)))::st.t,h:=frz1 id st.h,o:=remo t st.o } else st
  |some (.con cs)=>if off+n*size<=cs.length then { st with t:=(t,.v (.slice size (be off n size cs)))::st.t,h:=frz1 id st.h,o:=remo t st.o } else st
  |_=>st
 |some (.m id)=>match look id st.h with
  |some (.map es none)=> { st with t:=(t,.v (.map (es.map (·.1)) (es.map (·.2))))::st.t,h:=seth id (.con []) st.h,o:=remo t st.o }
  |_=>st
 |some (.v (.val (.slice (some ⟨r,0,none⟩) n cap)))=>match dj r st.h with
  |some id=>match look id st.h with
   |some (.var cs _ (some (_,size,cap')))=>if cap'=cap/\n<=cap/\n*size<=cs.length then { st with t:=(t,.v (.slice size (be 0 n size cs)))::st.t,h:=frz1 id (seth id (.var cs) st.h),o:=remo t st.o } else st
   |_=>st
  |none=>st
 |_=>st
def frzF:List ResultVar->St->St
 |[],st=>st
 |.tmp t::r,st=>frzF r (ig t st)
 |_::r,st=>frzF r st
theorem jhx{a:Act}{x:Value}(h:a.tmps[i]?=some x):a.put (some i) x=a:=by
 have hv:a.tmps[i]'(asi.1 h).1=x:=(asi.1 h).2;simp only[Act.put];congr 1;apply Array.ext
 .simp
 intro j g1 g2;rw[Array.getElem_setIfInBounds];split
 .rename_i he;subst he;exact hv.symm
 rfl
theorem jed{F:Frz}{b off n size cap:Nat}{cs:List V}{g:Nat->Value}(h1:∀c∈cs,c.one=true)(h2:∀(j:Nat) c,cs[j]?=some c->F ⟨b,j,none⟩=some (g j))(h3:∀(j:Nat) c,cs[j]?=some c->Rep F c (g j)) 
  (hfit:off+n*size<=cs.length) (hn:n<=cap) (hc:cap<=maxLen):Rep F (.slice size (be off n size cs)) (.slice (some ⟨b,off,none⟩) n cap):=by
 have hlen:(be off n size cs).length=n:=by simp[be]
 have hfit':∀i,i<n->off+i*size+size<=cs.length:=fun i hi=>by
  have:(i+1)*size<=n*size:=xb2 _ hi;rw[yy] at this;omega
 have hel:∀(i j:Nat) e c,(be off n size cs)[i]?=some e->e[j]?=some c->cs[off+(i*size+j)]?=some c:=fun i j e c e1 e2=>by
  obtain⟨hi,rfl⟩:=jxx e1;rw[yx] at e2;split at e2
  .rw[xcz] at e2;rw[<- xbf];exact e2
  cases e2
 have:Rep F (.slice size (be off n size cs)) (.slice (some ⟨b,off,none⟩) (be off n size cs).length cap):=by
  refine .slice (fun i j=>g (off+(i*size+j))) omq hc (fun e he=>?_) (fun e he c hce=>?_) (fun i j e c e1 e2=>?_) (fun i j e c e1 e2=>h3 _ c (hel i j e c e1 e2))
  .obtain⟨i,hi⟩:=xm he;obtain⟨hlt,rfl⟩:=jxx hi;have:=hfit' i hlt;simp;omega
  .obtain⟨i,hi⟩:=xm he;obtain⟨j,hj⟩:=xm hce;exact h1 c (vp (hel i j e c hi hj))
  rw[eu];exact h2 _ c (hel i j e c e1 e2)
 rwa [hlen] at this
theorem sb{id:Nat}{k:Blk}: ∀ {h:List (Nat×Blk)} (i:Nat),look i (seth id k h)=if i=id then(look i h).map (fun _=>k) else look i h
 |[],i=>by simp[seth,look]
 |(j,x)::r,i=>by
  simp only[seth];by_cases hj:id=j
  .subst hj;rw[ve rfl,ae,ae];by_cases hi:i=id
   .simp[hi]
   simp[hi]
  rw[vd hj,ae,ae,sb i];by_cases hi:i=j
  .subst hi;simp[Ne.symm hj]
  simp[hi]
theorem Sim.unname(S:SimS P T M F0 w0 F ρ st a w){id:Nat}{cs:List V}{nm:Option Nat}{kk:Option (TypeId×Nat×Nat)}(hk0:look id st.h=some (.var cs nm kk)):SimS P T M F0 w0 F ρ { st with h:=seth id (.var cs) st.h } a w:=by
  have old:∀i k,look i (seth id (.var cs) st.h)=some k->∃k0,look i st.h=some k0/\(i=id/\k=.var cs\/k=k0):=fun i k e=>by
    rw[sb] at e;split at e
    . obtain⟨x,hx,rfl⟩:=msi.1 e;exact⟨x,hx,.inl ⟨‹_›,rfl⟩⟩
    exact⟨k,e,.inr rfl⟩
  have there:∀i,look i st.h≠none->look i (seth id (.var cs) st.h)≠none:=fun i hi=>by
    obtain⟨k,hk⟩:=xan.1 hi;rw[sb,hk];split<;>simp
  exact { n := S.n, df := S.df, sees := S.sees, lay := S.lay, le := S.le, new := S.new, newm := S.newm, bel := S.bel, hM := S.hM, od := S.od, nn := S.nn, tm := S.tm
          wf:=fun i tv e=>by
            have:=S.wf i tv e;cases tv with
            |v x=>trivial
            |u=>trivial
            |p i off=>exact there i this
            |m i=>exact there i this
            |s i off n z=>exact there i this
          hp:=fun i k e=>by
            obtain⟨k0,h1,h2⟩:=old i k e;obtain⟨q1,q2,q3⟩:=S.hp i k0 h1;refine⟨?_,q2,q3⟩;rcases h2 with⟨rfl,rfl⟩|rfl
            . rw[hk0] at h1;cases h1;obtain⟨xs,⟨ty,hty⟩,p⟩:=q1;exact⟨xs,⟨ty,RowK.fz hty⟩,p⟩
            exact q1
          z:=fun i k hi e=>by
            obtain⟨k0,h1,_⟩:=old i k e;exact S.z i k0 hi h1
          nb:=fun i k q e hq=>by
            obtain⟨k0,h1,h2⟩:=old i k e;rcases h2 with⟨rfl,rfl⟩|rfl
            . cases hq
            exact S.nb i k q h1 hq
          oc:=fun j e c hj i hi hge=>there _ (S.oc j e c hj i hi hge)
          inj:=fun i i' k k' e e'=>by
            obtain⟨k0,h1,_⟩:=old i k e;obtain⟨k0',h1',_⟩:=old i' k' e';exact S.inj i i' k0 k0' h1 h1'
          ow:=fun j e c hj=>by
            obtain⟨v,q1,q2,q3⟩:=S.ow j e c hj;refine⟨v,q1,q2,fun i k e=>?_⟩;obtain⟨k0,h1,_⟩:=old i k e
            exact q3 i k0 h1 }
theorem jtj(S:SimS P T M F0 w0 F ρ st a w)(t:Nat):∃F',SimS P T M F0 w0 F' ρ (ig t st) a w:=by
 unfold ig;split
 .rename_i id off n size ht
  have go:∀cs,(look id (frz1 id st.h)=some (.con cs))->off+n*size<=cs.length->∃F',SimS P T M F0 w0 F' ρ { st with t:=(t,.v (.slice size (be off n size cs)))::st.t,h:=frz1 id st.h,o:=remo t st.o } a w:=fun cs hcon hfit=>by
   obtain⟨F',S1⟩:=jds S id;refine⟨F',?_⟩;obtain⟨x,h1,cap,h2,h3,h4,rfl⟩:=S1.tm t _ ht;obtain⟨⟨g,q1,q2,q3⟩,_⟩:=S1.hp id _ hcon;have:=Sim.putr (d:=t) (tv:=.v (.slice size (be off n size cs))) S1 (jed q1 q2 q3 hfit h2 h3) trivial (by have:=(asi.1 h1).1;have hn:=S.n;rw[<- S.n];exact this);rw[jhx h1] at this;unfold SimS;rw[σ_cons];exact this
  split
  .rename_i cs _ hb;split
   .exact go cs (by rw[im,ve rfl,hb];rfl) ‹_›
   exact⟨F,S⟩
  .rename_i cs hb;split
   .exact go cs (by rw[im,ve rfl,hb];rfl) ‹_›
   exact⟨F,S⟩
  exact⟨F,S⟩
 .rename_i id ht;split
  .rename_i es hb;obtain⟨F',S1,_,xs,ck,hm,_,hsz,hx⟩:=Sim.frzM S hb;refine⟨F',?_⟩;obtain⟨x,h1,rfl⟩:=S1.tm t _ ht
   have hrep:Rep F' (.map (es.map (·.1)) (es.map (·.2))) (.map (some (ρ id))):=by
    refine .map hm (by simpa using hsz) (by simpa using hsz) (fun j k y e1 e2=>?_) (fun j v y e1 e2=>?_)
    .simp only[xe,msi] at e1;obtain⟨⟨k',v'⟩,e3,rfl⟩:=e1;exact(hx j k' v' y e3 e2).1
    simp only[xe,msi] at e1;obtain⟨⟨k',v'⟩,e3,rfl⟩:=e1;exact(hx j k' v' y e3 e2).2
   have hT:RepT F' ρ (TV.v (V.map (es.map (·.1)) (es.map (·.2)))) (.map (some (ρ id))):=hrep;exact zb2
  exact⟨F,S⟩
 .rename_i r n cap ht;split
  .rename_i id hfn;split
   .rename_i cs nm e size cap' hb;split
    .rename_i hc;obtain⟨rfl,hnc,hfit⟩:=hc;obtain⟨kb,z1,z2⟩:=ja9 hfn;have hρ:=S.nb id kb r z1 z2;obtain⟨⟨cur,⟨ty,hty⟩,_⟩,_,_⟩:=S.hp id _ hb;have hcm:=hty.2.2.1;have S0:=Sim.unname S hb;have hb0:look id (seth id (.var cs) st.h)=some (.var cs):=by rw[sb,ve rfl,hb];rfl
     obtain⟨F',S1⟩:=jds S0 id;have hcon:look id (frz1 id (seth id (.var cs) st.h))=some (.con cs):=by rw[im,ve rfl,hb0];rfl
     refine⟨F',?_⟩;obtain⟨x,h1,h2⟩:=S1.tm t _ ht;have hx:=al h2;subst hx;obtain⟨⟨g,q1,q2,q3⟩,_⟩:=S1.hp id _ hcon;have hrep:=jed (b:=ρ id) (off:=0) (n:=n) (size:=size) (cap:=cap') q1 q2 q3 omq hnc hcm;rw[hρ] at hrep;have hT:RepT F' ρ (TV.v (V.slice size (be 0 n size cs))) (.slice (some ⟨r,0,none⟩) n cap'):=hrep;exact zb2
    exact⟨F,S⟩
   exact⟨F,S⟩
  exact⟨F,S⟩
 exact⟨F,S⟩
theorem jkt:∀(l:List ResultVar) {st:St} {F:Frz},SimS P T M F0 w0 F ρ st a w->∃F',SimS P T M F0 w0 F' ρ (frzF l st) a w
 |[],st,F,S=>⟨F,S⟩
 |.tmp t::r,st,F,S=>by
  obtain⟨F',S'⟩:=jtj S t;exact jkt r S'
 |.cell _ _::r,st,F,S=>jkt r S
def nt:Nat->List V->List (Nat×TV)
 |_,[]=>[]
 |k,v::r=>(k,.v v)::nt (k+1) r
theorem jlc:∀(l:List V) (k i:Nat) {tv:TV},look i (nt k l)=some tv->∃v,tv=.v v/\k<=i/\l[i-k]?=some v
 |[],_,_,_,h=>by cases h
 |v::r,k,i,tv,h=>by
  simp only[nt] at h;rw[ae] at h;split at h
  .rename_i he;cases h;subst he;exact⟨v,rfl,vo _,smq⟩
  rename_i he;obtain⟨u,h1,h2,h3⟩:=jlc r (k+1) i h;refine⟨u,h1,omq,?_⟩;have:i-k=(i-(k+1))+1:=omq;rw[this];simpa using h3
theorem qa3{w:World}{D:Nat}{o:Obj}(hd:w.heap[D]?=some o)(ho:o.isCells=false)(p:Addr)(hp:p.block=D):w.cell? p=none:=by
 unfold World.cell?;rw[hp,hd];cases o<;>simp_all [Obj.isCells]
theorem Sim.unmark(S:SimS P T M F0 w0 F ρ st a w){d:Deferred}{ds:List Deferred}(hd:a.defers=d::ds):
  ∃D,d=mark D/\w.heap[D]?=some (.deferred (some []))/\SimS P T M F0 w0 F ρ st { a with defers:=ds } (w.putObj D (.deferred none)):=by
 have hdf:=S.df;rw[hd] at hdf;obtain⟨D,h1,h2,h3,h4,h5⟩:=hdf;refine⟨D,h1,h3,?_⟩;have hlt:=qn h3;have hoth:∀q,q≠D->(w.putObj D (.deferred none)).heap[q]?=w.heap[q]? := fun q hq=>World.putObj_heap_other hq;have hD:(w.putObj D (.deferred none)).heap[D]?=some (.deferred none):=World.putObj_heap_same hlt
 have hcell:∀p,(w.putObj D (.deferred none)).cell? p=w.cell? p:=fun p=>by
  by_cases hp:p.block=D
  .rw[qa3 h3 rfl p hp,qa3 hD rfl p hp]
  exact World.cell?_of_block (hoth _ hp)
 have hheld:∀i,held { a with defers:=ds } (w.putObj D (.deferred none)) ρ i=held a w ρ i:=fun i=>by
  unfold held;rw[hcell]
 refine { n:=S.n,df:=h5.keep fun D' _ hm=>hoth D' fun he=>h4 _ hm (by rw[he]),sees:=⟨fun p v e=>by rw[hcell];exact S.sees p v e,fun b xs e=>?_⟩,lay:=S.lay,le:=S.le,new:=S.new,newm:=S.newm,bel:=S.bel.trans ⟨rfl,rfl,rfl,smq,fun q hq hm=>hoth q fun he=>?_⟩,hM:=S.hM,tm:=S.tm,wf:=S.wf,hp:=fun id k e=>?_,nn:=S.nn,z:=S.z,nb:=S.nb,inj:=S.inj,ow:=fun j e c hj=>?_,od:= ?_,oc:=S.oc }
 .obtain⟨ck,hb⟩:=S.sees.m b xs e;exact⟨ck,(hoth b fun he=>by rw[he,h3] at hb;cases hb).trans hb⟩
 .subst he;exact hm h2
 .obtain⟨q1,q2,q3⟩:=S.hp id k e;refine⟨?_,q2,by simpa using q3⟩;cases k with
  |var cs q _=>
   obtain⟨xs,ty,r1,r2⟩:=q1;exact⟨xs,ty,(hoth _ fun he=>by rw[he,h3] at r1;cases r1).trans r1,r2⟩
  |con cs=>exact q1
  |map es q=>
   obtain⟨xs,ck,r1,r2⟩:=q1;exact⟨xs,ck,(hoth _ fun he=>by rw[he,h3] at r1;cases r1).trans r1,r2⟩
  |itr es c q=>
   refine RepB.itr_mono q1 (hoth _ fun he=>?_) (Le.refl _);obtain⟨m,seen,xs,ck,r1,_⟩:=q1;rw[he,h3] at r1;cases r1
 .obtain⟨v,q1,⟨m,xs,q2,q3⟩,q4⟩:=S.ow j e c hj;refine⟨v,fun i hi=>by rw[hheld];exact q1 i hi,⟨m,xs,⟨q2.1,?_⟩,q3⟩,q4⟩;rcases q2.2 with h|⟨g,cap,cur,r1,r2,⟨fz,rf,r3⟩,r4⟩
  .exact .inl h
  exact .inr ⟨g,cap,cur,r1,r2,⟨fz,rf,(hoth g fun he=>by rw[he,h3] at r3;cases r3).trans r3⟩,r4⟩
 intro j j' e c e' c' hne hj hj' i hi i' hi' v v' g hv hv' hg;rw[hheld] at hv hv';exact S.od j j' e c e' c' hne hj hj' i hi i' hi' v v' g hv hv' hg
theorem ja2{args:Array Value}{R:Ending->World->Prop}{Q:AX->St->Prop}(hf:P.funcs[f]?=some fn)(hb:fn.body=some c) 
  (h:wpG none P c (Post P T M F0 w Q) { tmps:=args++Array.replicate (fn.ntmps-args.size) undef,defers:=[] } w)
  (hk:∀e F ρ st a w',SimS P T M F0 w F ρ st a w'->a.defers=[]->Q e st->(∀id,e≠ .ex id)->∃v,(results fn a.tmps).run P w'= .ok v w'/\R (.returned v) w') (hex:∀id st,¬Q (.ex id) st):Calls P f args w R:=by
 have leave:∀(ds:List Deferred) (e:AX) (F:Frz) (ρ:Nat->Nat) (st:St) (a:Act) (w':World),SimS P T M F0 w F ρ st a w'->a.defers=ds->Q e st->(∀id,e≠ .ex id)->LeavesInM Fence.wide 0 P fn a.tmps R ds .returning w':=by
  intro ds
  induction ds with
  |nil=>intro e F ρ st a w' S hd hq he;exact hk e F ρ st a w' S hd hq he
  |cons d ds ih=>
   intro e F ρ st a w' S hd hq he;obtain⟨D,h1,h2,S'⟩:=Sim.unmark S hd;exact⟨smq,.inl ⟨D,_,by rw[h1];rfl,run_takeDeferred h2,ih e F ρ st { a with defers:=ds } _ S' rfl hq he⟩⟩
 refine(callsIn_wide (n:=0)).1 (callsIn_of_wp_marks hf hb trivial (wpIn_mono h ?_));intro e a w' hq;cases e with
 |normal=>obtain⟨F,ρ,st,S,hq⟩:=hq;exact leave _ .nm F ρ st a w' S rfl hq (fun _ h=>by cases h)
 |ret=>obtain⟨F,ρ,st,S,hq⟩:=hq;exact leave _ .rt F ρ st a w' S rfl hq (fun _ h=>by cases h)
 |exit id=>obtain⟨F,ρ,st,S,hq⟩:=hq;exact(hex id st hq).elim
 |goto l=>exact hq.elim
 |panic ch=>exact hq.elim
 |outgrown=>exact hq.elim
def nq(P:Program)(rs:List ResultVar)(r:V):AX->St->Prop
 |.ex _,_=>False
 |_,st=>(∃v,resS P st rs=some v/\Wk v r)\/∃v,resS P (frzF rs st) rs=some v/\Wk v r
def jrc(rs:List ResultVar)(size:Nat)(es:List (List V)):AX->St->Prop
 |.ex _,_=>False
 |_,st=>match rs with
  |[.tmp t]=>(∃id cs,st.σ t=some (.s id 0 es.length size)/\look id st.h=some (.var (es.flatten++cs)))\/(es=[]/\∃v,vOf (st.σ t)=some v/\Wk v (.slice size []))
  |_=>False
def resT(P:Program)(st:St):List ResultVar->Option TV
 |[.tmp t]=>nu (st.σ t)
 |rs=>(resS P st rs).map .v
inductive WkT:TV->TV->Prop
 |refl (t:TV):WkT t t
 |v {a b:V} (h:Wk a b):WkT (.v a) (.v b)
def jrd(P:Program)(rs:List ResultVar)(cs':List V)(r:TV):AX->St->Prop
 |.ex _,_=>False
 |_,st=>(∃cs,look 999999 st.h=some (.var (cs'++cs)))/\∃r',resT P st rs=some r'/\WkT r' r/\only 999999 [r]=true
def qdf(P:Program)(rs:List ResultVar)(e:TypeId)(r:V):AX->St->Prop
 |.ex _,_=>False
 |_,st=>(∃v,resS P st rs=some v/\Wk v r)/\match rs with
  |[.tmp t]=>vOf (st.σ t)=some (.val (.slice none 0 0))\/cv t st.o=some e
  |_=>False
theorem sim0{args:List V}(hF:Sees F w)(hT:Laid T F w)(ha:Reps F args xs)(n:Nat)(hn:n=max fn.ntmps args.length)(hnn:n<=999000):
  SimS P T (fun g=>w.heap.size<=g) F w F id { n:=n,t:=nt 0 args,h:=[],o:=[] } { tmps:=xs.toArray++Array.replicate (fn.ntmps-xs.toArray.size) undef,defers:=[] } w where
 n:=by simp[ha.1,hn];omega
 df:=trivial
 sees:=hF
 lay:=⟨hT,fun g hg=>by
  cases e:T.r g with
  |none=>exact absurd e hg
  |some xs=>
   obtain⟨⟨ty,fz,h1⟩,-⟩:=hT.2 g xs e
   have:g<w.heap.size:=by
    rcases xk g w.heap.size with h|h
    .exact h
    rw[xb6 h] at h1;cases h1
   omega⟩
 le:=Le.refl F
 new:=fun p v e=>.inl e
 newm:=fun _ _ e=>.inl e
 bel:=BelM.refl _ _
 hM:=fun _ h=>h
 tm:=fun i tv e=>by
  obtain⟨v,rfl,h1,h2⟩:=jlc args 0 i e;have hlt:=(gsi.1 h2).1;simp only[Nat.sub_zero] at h2 hlt;have hx:xs[i]?=some (xs[i]' zfh):=gge _;refine⟨xs[i]' zfh,?_,ha.2 i v _ h2 hx⟩;rw[xde (by simp[ha.1];exact hlt)];simp
 wf:=fun i tv e=>by
  obtain⟨v,rfl,_⟩:=jlc args 0 i e;trivial
 hp:=fun id k e=>by cases e
 nn:=by simp[ha.1];omega
 z:=fun id k _ e=>by cases e
 nb:=fun id k b e=>by cases e
 oc:=fun j e c hj=>by simp at hj
 inj:=fun id id' k k' e=>by cases e
 ow:=fun j e c hj=>by simp at hj
 od:=fun j j' e c e' c' _ hj=>by simp at hj
theorem jbx(S:SimS P T (fun g=>w.heap.size<=g) F w F0 ρ st a w0):Ext F w F0 w0:=⟨S.le,S.sees,S.new,S.newm,⟨S.bel.os,S.bel.tape,S.bel.output,S.bel.size,fun q hq=>S.bel.block q hq omq⟩⟩
theorem ab{c:Code}{args:List V}{r:V}(hE:Enters P f)(hf:P.funcs[f]?=some fn)(n:Nat) 
  (h:aw P T c { n:=n,t:=nt 0 args,h:=[],o:=[] } (nq P fn.results.toList r)) (hb:fn.body=some c:=by rfl) (hn:n=max fn.ntmps args.length:=by rfl) (hnn:n<=999000:=by decide):Den P T f args r:=by
 refine⟨hE,fun w F xs hF hT ha=>?_⟩;refine ja2 hf hb (jah c (sim0 hF hT ha n hn hnn) h) ?_ (fun id st hq=>hq);intro e F' ρ st a w' S hd hq he
 have hq':(∃v,resS P st fn.results.toList=some v/\Wk v r)\/∃v,resS P (frzF fn.results.toList st) fn.results.toList=some v/\Wk v r:=by
  cases e with
  |nm=>exact hq
  |rt=>exact hq
  |ex id=>exact absurd rfl (he id)
 rcases hq' with⟨v,hr,hw⟩|⟨v,hr,hw⟩
 .obtain⟨y,h1,h2⟩:=jbh S hr;exact⟨y,h1,y,F',rfl,jbx S,qr hw h2⟩
 obtain⟨F',S⟩:=jkt fn.results.toList S;obtain⟨y,h1,h2⟩:=jbh S hr;exact⟨y,h1,y,F',rfl,jbx S,qr hw h2⟩
theorem pz{c:Code}{args:List V}{e:TypeId}{r:V}(hE:Enters P f)(hf:P.funcs[f]?=some fn)(n:Nat) 
  (h:aw P T c { n:=n,t:=nt 0 args,h:=[],o:=[] } (qdf P fn.results.toList e r)) (hb:fn.body=some c:=by rfl) (hn:n=max fn.ntmps args.length:=by rfl) (hnn:n<=999000:=by decide):DenO P T f args e r:=by
 refine⟨hE,fun w F xs hF hT ha=>?_⟩;refine ja2 hf hb (jah c (sim0 hF hT ha n hn hnn) h) ?_ (fun id st hq=>hq);intro en F1 ρ1 st1 a w' S1 hd hq he
 have aux:(∃F' ρ st,SimS P T (fun g=>w.heap.size<=g) F w F' ρ st a w'/\((∃v,resS P st fn.results.toList=some v/\Wk v r)/\match fn.results.toList with
   |[.tmp t]=>vOf (st.σ t)=some (.val (.slice none 0 0))\/cv t st.o=some e
   |_=>False))->∃v,(results fn a.tmps).run P w'= .ok v w'/\∃y F',Ending.returned v=.returned y/\Ext F w F' w'/\Rep F' r y/\Own F' w' (fun g=>w.heap.size<=g) e (P.cellsOf e) y:=by
  rintro⟨F',ρ,st,S,⟨v0,hr,hwk⟩,ho⟩;obtain⟨y,h1,h2⟩:=jbh S hr;refine⟨y,h1,y,F',rfl,jbx S,qr hwk h2,?_⟩;split at ho
  .rename_i t hl;have hrl:fn.results= #[.tmp t]:=by apply yj;simpa using hl
   have hy:y=a.eval (.tmp t):=by
    unfold results at h1;rw[hrl] at h1;simp at h1;simp only[Act.eval,xce];exact h1.symm
   rcases ho with ho|ho
   .have:=al (Sim.good S |>.v (x:=.tmp t) ho);rw[hy,this];exact⟨0,[],co.nil _ _ _ _,fun g hg=>by simp[Value.ownBlock] at hg⟩
   obtain⟨j,c',hj,hc'⟩:=ru ho;obtain⟨v,e1,e2,_⟩:=S.ow j e c' hj
   have:a.eval (.tmp t)=v:=by
    have hvt:vOf (st.σ t)=some v0:=by
     rw[hl] at hr;cases hvv:vOf (st.σ t) with
     |none=>simp[resS,resL,resV,hvv] at hr
     |some u=>
      simp[resS,resL,resV,hvv] at hr;rw[hr]
    cases hs:st.σ t with
    |none=>rw[hs] at hvt;cases hvt
    |some tv=>
     obtain⟨x0,hx0,_⟩:=S.tm t tv hs;have hlt:=(asi.1 hx0).1;have:=e1 t hc';rw[kx (by have:=S.nn;omega)] at this;simp[Act.eval,this]
   rw[hy,this];exact e2
  exact ho.elim
 cases en with
 |nm=>exact aux ⟨F1,ρ1,st1,S1,hq⟩
 |rt=>exact aux ⟨F1,ρ1,st1,S1,hq⟩
 |ex id=>exact absurd rfl (he id)
theorem RepB.pre{F:Frz}{w:World}{b:Nat}{cs cs':List V}(h:RepB F w b (.var (cs++cs'))):RepB F w b (.var cs):=by
 obtain⟨xs,ty,h1,h2,h3,h4,h5⟩:=h;refine⟨xs,ty,h1,?_,fun c hc=>h3 c (xd6 _ hc),fun j c x e1 e2=>h4 j c x ?_ e2,h5⟩
 .simp at h2;omega
 rw[xp (gsi.1 e1).1];exact e1
theorem jjs{args:List V}{size:Nat}{es:List (List V)}(_hm:P.follows .mixedOrders=true)(hE:Enters P f)(hf:P.funcs[f]?=some fn)(hb:fn.body=some c)(n:Nat)(hn:n=max fn.ntmps args.length) 
  (h:aw P T c { n:=n,t:=nt 0 args,h:=[],o:=[] } (jrc fn.results.toList size es)) (hnn:n<=999000:=by decide):DenN P T f args size es:=by
 refine⟨hE,fun w F xs hF hT ha=>?_⟩;refine ja2 hf hb (jah c (sim0 hF hT ha n hn hnn) h) ?_ (fun id st hq=>hq);intro en F1 ρ1 st1 a w' S1 hd hq he
 have aux:(∃F' ρ st,SimS P T (fun g=>w.heap.size<=g) F w F' ρ st a w'/\match fn.results.toList with
  |[.tmp t]=>(∃id cs,st.σ t=some (.s id 0 es.length size)/\look id st.h=some (.var (es.flatten++cs)))\/(es=[]/\∃v,vOf (st.σ t)=some v/\Wk v (.slice size []))
  |_=>False)->∃v,(results fn a.tmps).run P w'= .ok v w'/\∃y F',Ending.returned v=.returned y/\Ext F w F' w'/\New F' w' w.heap.size size es y:=by
  rintro⟨F',ρ,st,S,ho⟩;split at ho
  .rename_i t hl;have hrl:fn.results= #[.tmp t]:=by apply yj;simpa using hl
   have hy:(results fn a.tmps).run P w'= .ok (a.eval (.tmp t)) w':=by
    unfold results;rw[hrl];simp;simp only[Act.eval,xce]
   refine⟨_,hy,_,F',rfl,jbx S,?_⟩;rcases ho with⟨id,cs,h1,h2⟩|⟨rfl,v,h1,h2⟩
   .obtain⟨cap,q1,q2,q3,hv⟩:=show ∃cap,es.length<=cap/\cap<=maxLen/\0<es.length/\a.eval (.tmp t)=_ from S.opr (.tmp t) _ h1
    obtain⟨r1,r2,r3⟩:=S.hp id _ h2;exact .inr ⟨ρ id,cap,hv,q1,q2,yn.1 q3,r2,r3,r1.pre⟩
   exact .inl ⟨rfl,qr h2 (Sim.good S |>.v (x:=.tmp t) h1)⟩
  exact ho.elim
 cases en with
 |nm=>exact aux ⟨F1,ρ1,st1,S1,hq⟩
 |rt=>exact aux ⟨F1,ρ1,st1,S1,hq⟩
 |ex id=>exact absurd rfl (he id)
def rh:Nat->List TV->List (Nat×TV)
 |_,[]=>[]
 |k,v::r=>(k,v)::rh (k+1) r
theorem jlb:∀(l:List TV) (k i:Nat) {tv:TV},look i (rh k l)=some tv->k<=i/\l[i-k]?=some tv
 |[],_,_,_,h=>by cases h
 |v::r,k,i,tv,h=>by
  simp only[rh] at h;rw[ae] at h;split at h
  .rename_i he;cases h;subst he;exact⟨vo _,smq⟩
  rename_i he;obtain⟨h2,h3⟩:=jlb r (k+1) i h;refine⟨omq,?_⟩;have:i-k=(i-(k+1))+1:=omq;rw[this];simpa using h3
inductive WkB:Blk->Blk->Prop
 |var {cs0 cs ex:List V} {nm nm':Option Nat} {kk kk':Option (TypeId×Nat×Nat)} (h:Wks cs0 cs) (hn:nm'=none\/nm'=nm) (hk:kk'=none\/kk'=kk:=by exact .inl rfl):WkB (.var (cs0++ex) nm kk) (.var cs nm' kk')
 |map {es:List (V×V)} {nm nm':Option Nat} (hn:nm'=none\/nm'=nm):WkB (.map es nm) (.map es nm')
 |con {cs0 cs ex:List V} (h:Wks cs0 cs):WkB (.con (cs0++ex)) (.con cs)
theorem Wk.one{v u:V}(h:Wk v u):u.one=v.one:=by cases h<;>rfl
theorem Wks.refl:∀l:List V,Wks l l
 |[]=>.nil
 |_::l=>.cons (.refl _) (Wks.refl l)
theorem Wks.len(h:Wks l m):l.length=m.length:=by
 induction h with
 |nil=>rfl
 |cons _ _ ih=>simp[ih]
theorem Wks.get(h:Wks l m):∀ {j:Nat} {c:V},m[j]?=some c->∃v,l[j]?=some v/\Wk v c:=by
 induction h with
 |nil=>intro j c e;simp at e
 |cons h t ih=>
  intro j c e;cases j with
  |zero=>simp at e;subst e;exact⟨_,rfl,h⟩
  |succ j=>obtain⟨v,h1,h2⟩:=ih (j:=j) (by simpa using e);exact⟨v,by simpa using h1,h2⟩
theorem jp1{F:Frz}{w:World}{g:Nat}{b c:Blk}(h:WkB b c)(hr:RepB F w g b):RepB F w g c:=by
 cases h with
 | @var cs0 cs ex nm nm' kk kk' h hn hkk=>
  obtain⟨xs,⟨ty,hty⟩,h1,h2,h3,h4,h5⟩:=hr
  have hty':RowK xs ty kk':=by
   rcases hkk with rfl|rfl
   .exact RowK.fz hty
   exact hty
  have hl:=h.len
  have get:∀ {j:Nat} {c:V},cs[j]?=some c->∃v,(cs0++ex)[j]?=some v/\Wk v c:=fun {j c} e=>by
   exact zcx
  refine⟨xs,⟨ty,hty'⟩,h1,by simp at h2;omega,fun c hc=>?_,fun j c x e1 e2=>?_,h5⟩
  .obtain⟨j,hj⟩:=xm hc;obtain⟨v,q1,q2⟩:=get hj;rw[q2.one];exact h3 v (vp q1)
  obtain⟨v,q1,q2⟩:=get e1;exact qr q2 (h4 j v x q1 e2)
 |map hn=>exact hr
 | @con cs0 cs ex h=>
  obtain⟨f,h1,h2,h3⟩:=hr
  have get:∀ {j:Nat} {c:V},cs[j]?=some c->∃v,(cs0++ex)[j]?=some v/\Wk v c:=fun {j c} e=>by
   exact zcx
  refine⟨f,fun c hc=>?_,fun j c hj=>?_,fun j c hj=>?_⟩
  .obtain⟨j,hj⟩:=xm hc;obtain⟨v,q1,q2⟩:=get hj;rw[q2.one];exact h1 v (vp q1)
  .obtain⟨v,q1,q2⟩:=get hj;exact h2 j v q1
  obtain⟨v,q1,q2⟩:=get hj;exact qr q2 (h3 j v q1)
theorem jqx{b c:Blk}(h:WkB b c):c.nm=none\/c.nm=b.nm:=by
 cases h with
 |var h hn _=>exact hn
 |map hn=>exact hn
 |con h=>exact .inl rfl
def jj3(P:Program)(rs:List ResultVar)(bs':List (Nat×Blk))(os':List (TypeId×List Nat))(r:TV):AX->St->Prop
 |.ex _,_=>False
 |_,st=>(∀x∈bs',∃b,look x.1 st.h=some b/\WkB b x.2)/\su [] os' st.o/\∃r',resT P st rs=some r'/\WkT r' r
def okZ(bs:List (Nat×Blk)):Bool:=bs.all fun x=>Nat.ble 999000 x.1
theorem si{bs:List (Nat×Blk)}: ∀ {ts:List TV},okA bs ts=true->∀t∈ts,wfT bs t
 |[],_,t,ht=>by cases ht
 |.v y::r,h,t,ht=>by
  rcases vt.1 ht with rfl|ht
  .trivial
  exact si (ts:=r) h t ht
 |.u::r,h,t,ht=>by
  rcases vt.1 ht with rfl|ht
  .trivial
  exact si (ts:=r) h t ht
 |.p i off::r,h,t,ht=>by
  simp only[okA,vn] at h;rcases vt.1 ht with rfl|ht
  .exact zch
  exact si (ts:=r) h.2 t ht
 |.s i off n size::r,h,t,ht=>by
  simp only[okA,vn] at h;rcases vt.1 ht with rfl|ht
  .exact zch
  exact si (ts:=r) h.2 t ht
 |.m i::r,h,t,ht=>by
  simp only[okA,vn] at h;rcases vt.1 ht with rfl|ht
  .exact zch
  exact si (ts:=r) h.2 t ht
theorem simL{os:List (TypeId×List Nat)}{ρ:Nat->Nat}{X:Nat->Prop}(hF:Sees F w)(hT:Laid T F w)(hL:Lends P T F w ρ X bs os)(ha:jba F ρ args xs)(ho:okA bs args=true)(n:Nat)(hn:n=max fn.ntmps args.length)(hnn:n<=999000):
    SimS P T (fun g=>w.heap.size<=g\/X g) { F with z:=ρ } w { F with z:=ρ } ρ { n:=n,t:=rh 0 args,h:=bs,o:=os } { tmps:=xs.toArray++Array.replicate (fn.ntmps-xs.toArray.size) undef,defers:=[] } w:=
  have hx:Ext F w { F with z:=ρ } w:=⟨⟨fun _ _ e=>e,fun _ _ e=>e⟩,⟨hF.c,hF.m⟩,fun _ _ e=>.inl e,fun _ _ e=>.inl e,Below.refl _ _⟩
  { n:=by simp[ha.1,hn]; omega
    df:=trivial
    sees:=hx.fr
    lay:=⟨⟨hT.1.trans hx.le,hT.2⟩,fun g hg=>by
      cases e:T.r g with
      |none=>exact absurd e hg
      | some xs=>
        obtain⟨⟨ty,fz,h1⟩,off,v,h2⟩:=hT.2 g xs e
        have hlt:g<w.heap.size:=by
          rcases xk g w.heap.size with h|h
          . exact h
          rw[xb6 h] at h1;cases h1
        rintro (h|h)
        . omega
        exact hL.lay g hg h⟩
    le:=Le.refl _
    new:=fun p v e=>.inl e
    newm:=fun _ _ e=>.inl e
    bel:=BelM.refl _ _
    hM:=fun _ h=>.inl h
    tm:=fun i tv e=>by
      obtain⟨h1,h2⟩:=jlb args 0 i e;have hlt:=(gsi.1 h2).1;simp only[Nat.sub_zero] at h2 hlt;have hx':xs[i]?=some (xs[i]' zfh):=gge _;refine⟨xs[i]' zfh,?_,(ha.2 i tv _ h2 hx').mono hx.le⟩;rw[xde (by simp[ha.1];exact hlt)];simp
    wf:=fun i tv e=>by
      obtain⟨h1,h2⟩:=jlb args 0 i e;exact si ho tv (vp h2)
    hp:=fun id k e=>by
      obtain⟨q1,q2,q3⟩:=hL.hp id k e;exact⟨q1.ext hx,.inr q2,q3⟩
    nn:=by simp[ha.1];omega
    z:=fun id k _ _=>rfl
    nb:=hL.nb
    inj:=hL.inj
    ow:=fun j e c hj=>by
      obtain⟨v,q1,⟨m,ys,q2,q3⟩,q4⟩:=hL.ow j e c hj;refine⟨v,fun i hi=>?_,⟨m,ys,q2,fun g hg=>⟨.inr (q3 g hg).1,(q3 g hg).2⟩⟩,q4⟩;rw[dz (by have:=(hL.oc j e c hj i hi).1;omega)];exact q1 i hi
    od:=fun j j' e c e' c' hne hj hj' i hi i' hi' v v' g hv hv' hg=>by
      rw[dz (by have:=(hL.oc j e c hj i hi).1;omega)] at hv;rw[dz (by have:=(hL.oc j' e' c' hj' i' hi').1;omega)] at hv';exact hL.od j j' e c e' c' hne hj hj' i hi i' hi' v v' g hv hv' hg
    oc:=fun j e c hj i hi _=>(hL.oc j e c hj i hi).2 }
theorem bx{bs':List (Nat×Blk)}{os os':List (TypeId×List Nat)}{r:TV}(_hm:P.follows .mixedOrders=true)(hE:Enters P f)(hf:P.funcs[f]?=some fn)(hb:fn.body=some c)(n:Nat)(hn:n=max fn.ntmps args.length)(ho:okA bs args=true) 
    (h:aw P T c { n:=n,t:=rh 0 args,h:=bs,o:=os } (jj3 P fn.results.toList bs' os' r)) (hz:okZ bs'=true:=by rfl) (hok:okO bs' os'=true:=by rfl) (hor:okA bs' [r]=true:=by rfl) (hnn:n<=999000:=by decide):DenS P T f bs os args bs' os' r:=by
  refine⟨hE,fun w F ρ X xs hF hT hL ha=>?_⟩;refine ja2 hf hb (jah c (simL hF hT hL ha ho n hn hnn) h) ?_ (fun id st hq=>hq);intro en F1 ρ1 st1 a w' S1 hd hq he
  have aux:(∃F' ρ' st,SimS P T (fun g=>w.heap.size<=g\/X g) { F with z:=ρ } w F' ρ' st a w'/\((∀x∈bs',∃b,look x.1 st.h=some b/\WkB b x.2)/\su [] os' st.o/\∃r',resT P st fn.results.toList=some r'/\WkT r' r))->
      ∃v,(results fn a.tmps).run P w'= .ok v w'/\∃y F',Ending.returned v=.returned y/\ExtS X F w F' w'/\Lends P T F' w' ρ (fun g=>X g\/w.heap.size<=g) bs' os'/\RepT F' ρ r y:=by
    rintro⟨F',ρ',st,S,hB,hO,r',hr',hwk⟩;obtain⟨f',g1,g2⟩:=jne hO
    have hblk:∀id k,look id bs'=some k->∃b,look id st.h=some b/\WkB b k/\ρ' id=ρ id:=fun id k e=>by
      have hm:=ec e;obtain⟨b,h1,h2⟩:=hB _ hm;have h3:=xi.1 hz _ hm;exact⟨b,h1,h2,S.z id b (xb9 h3) h1⟩
    have hid:∀id,look id bs'≠none->ρ' id=ρ id:=fun id hne=>by
      obtain⟨k,hk⟩:=xan.1 hne;exact(hblk id k hk).choose_spec.2.2
    have hcls:∀(j:Nat) e c,os'[j]?=some (e,c)->∃i c0,c=[i]/\st.o[f' j]?=some (e,c0)/\mpc [] i∈c0/\∀u,held a w' ρ' (mpc [] i)=some u↔w'.cell? ⟨ρ (pid i),pof i,none⟩=some u:=fun j e c hj=>by
      obtain⟨i,c0,e1,e2,e3⟩:=g1 j e c hj;refine⟨i,c0,e1,e2,e3,fun u=>?_⟩;obtain⟨_,b,hb⟩:=jbz hok hj (i:=i) (by rw[e1];simp);rw[jag]
      show w'.cell? ⟨ρ' (pid i),pof i,none⟩=some u↔_
      rw[hid (pid i) (by rw[hb];simp)]
    have hres:∃v,(results fn a.tmps).run P w'= .ok v w'/\RepT F' ρ' r' v:=by
      unfold resT at hr';split at hr'
      . rename_i t hl;have hrl:fn.results= #[.tmp t]:=by apply yj;simpa using hl
        refine⟨a.eval (.tmp t),?_,S.opr (.tmp t) _ (ql hr')⟩;unfold results;rw[hrl];simp;simp only[Act.eval,xce]
      simp only[msi] at hr';obtain⟨v,hv,rfl⟩:=hr';exact jbh S hv
    obtain⟨v,h1,h2⟩:=hres
    have h3:RepT F' ρ' r v:=by
      cases hwk with
      |refl=>exact h2
      |v hw=>exact qr hw h2
    have hext:ExtS X F w F' w':=⟨⟨S.le.c,S.le.m⟩,S.sees,fun p v e=>(S.new p v e).elim .inl fun h=>h.elim (fun h=>.inr (.inr h)) fun h=>.inr (.inl h),
      fun p v e=>(S.newm p v e).elim .inl fun h=>h.elim (fun h=>.inr (.inr h)) fun h=>.inr (.inl h),S.bel.os,S.bel.tape,S.bel.output,S.bel.size,
      fun q hq hne => S.bel.block q hq (by rintro (h | h); · omega
                                           . exact hne h)⟩
    refine⟨v,h1,v,F',rfl,hext,?_,?_⟩
    . refine { hp:= ?_,nb:= ?_,inj:= ?_,ow:= ?_,od:= ?_,oc:=fun j e c hj i hi=>⟨(jbz hok hj hi).1,fun he=>by obtain⟨b,hb⟩:=(jbz hok hj hi).2;rw[hb] at he;cases he⟩,lay:=fun g hg hx=>S.lay.2 g hg (hx.symm) }
      . intro id k e;obtain⟨b,q1,q2,q3⟩:=hblk id k e;obtain⟨p1,p2,p3⟩:=S.hp id b q1;rw[q3] at p1 p2 p3;exact⟨jp1 q2 p1,p2.symm,p3⟩
      . intro id k q e hq;obtain⟨b,q1,q2,q3⟩:=hblk id k e;rw[<- q3];rcases jqx q2 with h|h
        . rw[h] at hq;cases hq
        exact S.nb id b q q1 (by rw[<- h];exact hq)
      . intro id id' k k' e e' he;obtain⟨b,q1,q2,q3⟩:=hblk id k e;obtain⟨b',q1',q2',q3'⟩:=hblk id' k' e';exact S.inj id id' b b' q1 q1' (by rw[q3,q3'];exact he)
      . intro j e c hj;obtain⟨i,c0,rfl,e2,e3,e4⟩:=hcls j e c hj;obtain⟨v,q1,⟨m,ys,q2,q3⟩,q4⟩:=S.ow _ e c0 e2;refine⟨v,fun i' hi'=>?_,⟨m,ys,q2,fun g hg=>⟨((q3 g hg).1).symm,(q3 g hg).2⟩⟩,fun id k hk=>?_⟩
        . simp at hi';subst hi';exact(e4 v).1 (q1 _ e3)
        obtain⟨b,p1,p2,p3⟩:=hblk id k hk;rw[<- p3];exact q4 id b p1
      intro j j' e c e' c' hne hj hj' i hi i' hi' v v' g hv hv' hg;obtain⟨i1,c0,rfl,e2,e3,e4⟩:=hcls j e c hj;obtain⟨i2,c0',rfl,e2',e3',e4'⟩:=hcls j' e' c' hj';simp at hi hi';subst hi hi';exact S.od (f' j) (f' j') e c0 e' c0' (fun he=>hne (g2 j j' (gsi.1 hj).1 (gsi.1 hj').1 he)) e2 e2' _ e3 _ e3' v v' g ((e4 v).2 hv) ((e4' v').2 hv') hg
    cases r with
    |v x=>exact h3
    |u=>exact h3
    | p k off=>
      exact zbh
    | m k=>
      exact zbh
    | s k off n size=>
      exact zbh
  cases en with
  |nm=>exact aux ⟨F1,ρ1,st1,S1,hq⟩
  |rt=>exact aux ⟨F1,ρ1,st1,S1,hq⟩
  |ex id=>exact absurd rfl (he id)
def jch(P:Program)(rs:List ResultVar)(Post:List (Nat×Blk)->Blk->V->Prop):AX->St->Prop
 |.ex _,_=>False
 |_,st=>∃ks b r,Post ks b r/\(∀x∈ks,∃b0,look x.1 st.h=some b0/\WkB b0 x.2)/\(∃id b0,look id st.h=some b0/\WkB b0 b/\id ∉ ks.map (·.1))/\∃r',resS P st rs=some r'/\Wk r' r
theorem rk{ks0:List (Nat×Blk)}{R:Nat}{ro:Option Blk}{Post:List (Nat×Blk)->Blk->V->Prop}(_hm:P.follows .mixedOrders=true)(hE:Enters P f)(hf:P.funcs[f]?=some fn)(hb:fn.body=some c)(n:Nat)(hn:n=max fn.ntmps args.length)(ho:okA (ks0++rowL R ro) args=true) 
    (h:aw P T c { n:=n,t:=rh 0 args,h:=ks0++rowL R ro,o:=[] } (jch P fn.results.toList Post)) (hz:∀ks b r,Post ks b r->okZ ks=true/\look R ks=none) (hnn:n<=999000:=by decide):DenV P T f ks0 R ro args Post:=by
  refine⟨hE,fun w F ρ X xs hF hT hL ha=>?_⟩;refine ja2 hf hb (jah c (simL hF hT hL ha ho n hn hnn) h) ?_ (fun id st hq=>hq);intro en F1 ρ1 st1 a w' S1 hd hq he
  have aux:(∃F' ρ' st,SimS P T (fun g=>w.heap.size<=g\/X g) { F with z:=ρ } w F' ρ' st a w'/\∃ks b r,Post ks b r/\(∀x∈ks,∃b0,look x.1 st.h=some b0/\WkB b0 x.2)/\(∃id b0,look id st.h=some b0/\WkB b0 b/\id ∉ ks.map (·.1))/\∃r',resS P st fn.results.toList=some r'/\Wk r' r)->
      ∃v,(results fn a.tmps).run P w'= .ok v w'/\∃(y:Value) (F':Frz) (ρ':Nat->Nat) (ks:List (Nat×Blk)) (b:Blk) (r:V),Ending.returned v=.returned y/\ExtS X F w F' w'/\(∀id,id≠R->ρ' id=ρ id)/\Lends P T F' w' ρ' (fun g=>X g\/w.heap.size<=g) (ks++[(R,b)]) []/\Rep F' r y/\Post ks b r:=by
    rintro⟨F',ρ',st,S,ks,b,r,hP,hB,⟨q,b0,hq1,hq2,hq3⟩,r',hr',hwk⟩;obtain⟨hz1,hz2⟩:=hz ks b r hP
    have hblk:∀id k,look id ks=some k->∃b,look id st.h=some b/\WkB b k/\ρ' id=ρ id/\id≠R/\id≠q:=fun id k e=>by
      have hm:=ec e;obtain⟨b,h1,h2⟩:=hB _ hm;have h3:=xi.1 hz1 _ hm;refine⟨b,h1,h2,S.z id b (xb9 h3) h1,fun he=>?_,fun he=>?_⟩
      . subst he;rw[hz2] at e;cases e
      subst he;exact hq3 (xbi (f:=(·.1)) hm)
    have hall:∀id k,look id (ks++[(R,b)])=some k->(look id ks=some k)\/(id=R/\k=b):=fun id k e=>by
      rw[ny] at e;split at e
      . rename_i hh;cases e;exact .inl hh
      rw[ae] at e;split at e
      . cases e;exact .inr ⟨‹_›,rfl⟩
      cases e
    obtain⟨v,h1,h2⟩:=jbh S hr'
    have hext:ExtS X F w F' w':=⟨⟨S.le.c,S.le.m⟩,S.sees,fun p v e=>(S.new p v e).elim .inl fun h=>h.elim (fun h=>.inr (.inr h)) fun h=>.inr (.inl h),
      fun p v e=>(S.newm p v e).elim .inl fun h=>h.elim (fun h=>.inr (.inr h)) fun h=>.inr (.inl h),S.bel.os,S.bel.tape,S.bel.output,S.bel.size,
      fun q hq hne => S.bel.block q hq (by rintro (h | h); · omega
                                           . exact hne h)⟩
    refine⟨v,h1,v,F',fun id=>if id=R then ρ' q else ρ id,ks,b,r,rfl,hext,fun id hne=>vd hne,?_,qr hwk h2,hP⟩;refine { hp:=fun id k e=>?_,nb:=fun id k p e hp=>?_,inj:=fun id id' k k' e e' he=>?_,ow:=fun j e c hj=>by simp at hj,od:=fun j j' e c e' c' _ hj=>by simp at hj,oc:=fun j e c hj=>by simp at hj,lay:=fun g hg hx=>S.lay.2 g hg (hx.symm) }
    . rcases hall id k e with e|⟨rfl,rfl⟩
      . obtain⟨b1,q1,q2,q3,q4,_⟩:=hblk id k e;obtain⟨p1,p2,p3⟩:=S.hp id b1 q1;rw[q3] at p1 p2 p3;simp only[vd q4];exact⟨jp1 q2 p1,p2.symm,p3⟩
      obtain⟨p1,p2,p3⟩:=S.hp q b0 hq1;simp only[xf];exact⟨jp1 hq2 p1,p2.symm,p3⟩
    . rcases hall id k e with e|⟨rfl,rfl⟩
      . obtain⟨b1,q1,q2,q3,q4,_⟩:=hblk id k e;simp only[vd q4];rw[<- q3];rcases jqx q2 with h|h
        . rw[h] at hp;cases hp
        exact S.nb id b1 p q1 (by rw[<- h];exact hp)
      simp only[xf];rcases jqx hq2 with h|h
      . rw[h] at hp;cases hp
      exact S.nb q b0 p hq1 (by rw[<- h];exact hp)
    rcases hall id k e with g1|⟨f1,f2⟩<;>rcases hall id' k' e' with g2|⟨f1',f2'⟩
    . obtain⟨b1,q1,q2,q3,q4,_⟩:=hblk id k g1;obtain⟨b1',q1',q2',q3',q4',_⟩:=hblk id' k' g2;simp only[vd q4,vd q4'] at he;exact S.inj id id' b1 b1' q1 q1' (by rw[q3,q3'];exact he)
    . obtain⟨b1,q1,q2,q3,q4,q5⟩:=hblk id k g1;simp only[vd q4,ve f1'] at he;exact absurd (S.inj id q b1 b0 q1 hq1 (by rw[q3];exact he)) q5
    . obtain⟨b1,q1,q2,q3,q4,q5⟩:=hblk id' k' g2;simp only[vd q4,ve f1] at he;exact absurd (S.inj q id' b0 b1 hq1 q1 (by rw[q3];exact he)).symm q5
    rw[f1,f1']
  cases en with
  |nm=>exact aux ⟨F1,ρ1,st1,S1,hq⟩
  |rt=>exact aux ⟨F1,ρ1,st1,S1,hq⟩
  |ex id=>exact absurd rfl (he id)
theorem rl{cs cs':List V}{r:TV}(hm:P.follows .mixedOrders=true)(hE:Enters P f)(hf:P.funcs[f]?=some fn)(hb:fn.body=some c)(n:Nat)(hn:n=max fn.ntmps args.length)(ho:only 999999 args=true) 
  (h:aw P T c { n:=n,t:=rh 0 args,h:=[(999999,.var cs)],o:=[] } (jrd P fn.results.toList cs' r)) (h4:only 999999 [r]=true:=by first|rfl|(split<;>rfl)) (hnn:n<=999000:=by decide):DenM P T f cs args cs' r:=by
 refine bx hm hE hf hb n hn (jby ho) (jo6 h fun e st' hq=>?_) rfl rfl (jby h4) hnn
 have aux:((∃cs,look 999999 st'.h=some (.var (cs'++cs)))/\∃r',resT P st' fn.results.toList=some r'/\WkT r' r/\only 999999 [r]=true)->((∀x∈[(999999,Blk.var cs')],∃b,look x.1 st'.h=some b/\WkB b x.2)/\su [] [] st'.o/\∃r',resT P st' fn.results.toList=some r'/\WkT r' r):=by
  rintro⟨⟨ex,h1⟩,r',h2,h3,_⟩;refine⟨fun x hx=>?_,trivial,r',h2,h3⟩;simp only[xn] at hx;subst hx;exact⟨_,h1,.var (Wks.refl _) (.inl rfl)⟩
 cases e with
 |nm=>exact aux hq
 |rt=>exact aux hq
 |ex id=>exact hq.elim
theorem New.rep{F:Frz}{w:World}{lo:Nat}{es:List (List V)}{y:Value}(h:New F w lo size es y)(hs:∀e∈es,e.length=size)(hF:Sees F w):
  ∃F',Le F F'/\Sees F' w/\(∀p v,F' p=some v->F p=some v\/lo<=p.block)/\F'.m=F.m/\Rep F' (.slice size es) y:=by
 rcases h with⟨rfl,h⟩|⟨b,cap,rfl,h1,h2,h3,h4,h5,xs,ty,q1,q2,q3,q4,q5⟩
 .exact⟨F,Le.refl F,hF,fun _ _ h=>.inl h,rfl,h⟩
 have hle:Le F { c:=fun p=>if p.block=b then w.cell? p else F p,m:=F.m } := ⟨fun p v e=>by
  show (if p.block=b then w.cell? p else F p)=some v
  rw[vd (q5 p v e)];exact e,fun _ _ e=>e⟩
 refine⟨{ c:=fun p=>if p.block=b then w.cell? p else F p,m:=F.m },hle,⟨fun p v e=>?_,hF.m⟩,fun p v e=>?_,rfl,?_⟩
 .replace e:(if p.block=b then w.cell? p else F p)=some v:=e
  split at e
  .exact e
  exact hF p v e
 .replace e:(if p.block=b then w.cell? p else F p)=some v:=e
  split at e
  .rename_i hb;exact .inr (hb▸h4)
  exact .inl e
 have hfl:∀(l:List (List V)),(∀e∈l,e.length=size)->∀(i j:Nat) e c,l[i]?=some e->e[j]?=some c->l.flatten[i*size+j]?=some c:=by
  intro l
  induction l with
  |nil=>intro _ i j e c e1;simp at e1
  |cons x r ih=>
   intro hl i j e c e1 e2;have hx:=hl x smq;cases i with
   |zero=>
    simp at e1;subst e1;have:=(gsi.1 e2).1;simp only[List.flatten_cons,xcs,xl];rw[xp this];exact e2
   |succ i=>
    simp only[List.flatten_cons];rw[yy,yb omq];have:=ih (fun e he=>hl e (ym _ he)) i j e c ze4 e2;rw[<- this];congr 1;omega
 have hcell:∀q,w.cell? ⟨b,q,none⟩=xs[q]? := fun q=>by simp[World.cell?,q1]
 have hin:∀(i j:Nat) e c,es[i]?=some e->e[j]?=some c->i*size+j<xs.size:=fun i j e c e1 e2=>by
  have:=(gsi.1 (hfl es hs i j e c e1 e2)).1;omega
 refine .slice (fun i j=>xs.getD (i*size+j) undef) h1 h2 hs (fun e he c hc=>q3 c (List.mem_flatten.2 ⟨e,he,hc⟩)) (fun i j e c e1 e2=>?_) (fun i j e c e1 e2=>?_)
 .rw[eu,xl]
  show (if(⟨b,i*size+j,none⟩:Addr).block=b then w.cell? ⟨b,i*size+j,none⟩ else _)=_
  rw[ve rfl,hcell];simp[hin i j e c e1 e2]
 refine(q4 _ c _ (hfl es hs i j e c e1 e2) ?_).mono hle;simp[hin i j e c e1 e2]
theorem jtk{size:Nat}: ∀ {es:List (List V)},(∀e∈es,e.length=size)->es.flatten.length=es.length*size
 |[],_=>by simp
 |x::r,hs=>by
  simp only[List.flatten_cons,vr,List.length_cons,yy];rw[jtk (es:=r) (fun e he=>hs e (ym _ he)),hs x smq];omega
def V.flat:V->Bool
 |.val _=>true
 |.str _=>true
 |_=>false
theorem Rep.flat{F F':Frz}{v:V}{x:Value}(h:Rep F v x)(hf:v.flat=true):Rep F' v x:=by
 cases h<;>first|exact .val _|exact .str _|(simp[V.flat] at hf)
theorem DenO.new{f:FuncId}{args:List V}{e:TypeId}{size:Nat}{es:List (List V)}(h:DenO P T f args e (.slice size es))(hz:P.cellsOf e=size)(hp:0<size)(hf:∀e∈es,∀c∈e,c.flat=true):DenN P T f args size es:=by
 refine⟨h.1,fun w F xs h1 h0 h2=>(h.2 w F xs h1 h0 h2).mono fun _ w' ⟨y,F',e1,e2,e3,n,ys,e4,e5⟩=>?_⟩;by_cases hes:es=[]
 .subst hes;exact⟨y,F',e1,e2,.inl ⟨rfl,e3⟩⟩
 rcases py e3 with⟨rfl,h0⟩|⟨a,cap,g,rfl,hc,hm,hs,ho,hg,hr⟩
 .exact absurd h0 hes
 rcases e4.2 with⟨q1,q2⟩|⟨b,cap',cur,q1,q2,⟨fz,qf,q3⟩,q4,q5,q6,q7⟩
 .cases q1
 simp only[Value.slice.injEq,vk] at q1;obtain⟨rfl,rfl,rfl⟩:=q1;obtain⟨hlo,hoff⟩:=e5 b rfl
 have hnb:∀p v,F p=some v->p.block≠b:=fun p v e he=>by
  have:=uf (h1 p v e);omega
 have hbw:b<w'.heap.size:=by
  rcases xk b w'.heap.size with hlt|hge
  .exact hlt
  rw[xb6 hge] at q3;cases q3
 let F2:Frz:= { c:=fun p=>if p.block=b then none else F' p,m:=F'.m }
 have hle2:Le F F2:=⟨fun p v e=>by simp only[F2];rw[vd (hnb p v e)];exact e2.le p v e,e2.le.m⟩;refine⟨_,F2,e1,⟨hle2,⟨fun p v e=>?_,e2.fr.m⟩,fun p v e=>?_,e2.newm,e2.bel⟩,.inr ⟨b,cap,rfl,hc,hm,hes,hlo,hbw,cur,⟨(e,fz),qf⟩,q3,?_,fun c hc'=>?_,?_,fun p v e=>?_⟩⟩
 .simp only[F2] at e;split at e
  .cases e
  exact e2.fr p v e
 .simp only[F2] at e;split at e
  .cases e
  exact e2.new p v e
 .have:es.flatten.length=es.length*size:=jtk hs;rw[this,q6,hz];exact xb2 _ hc
 .obtain⟨e',he',hce⟩:=List.mem_flatten.1 hc';exact ho e' he' c hce
 .intro j c x e1' e2'
  have hfl:∀(l:List (List V)),(∀e∈l,e.length=size)->∀(j:Nat) c,l.flatten[j]?=some c->∃e,l[j / size]?=some e/\e[j % size]?=some c:=by
   intro l
   induction l with
   |nil=>intro _ j c h;simp at h
   |cons y r ih=>
    intro hl j c h;have hy:=hl y smq;simp only[List.flatten_cons] at h;by_cases hj:j<size
    .rw[xp omq] at h;exact⟨y,by rw[xd7 hj];rfl,by rw[Nat.mod_eq_of_lt hj];exact h⟩
    rw[yb omq,hy] at h;obtain⟨e,g1,g2⟩:=ih (fun e he=>hl e (ym _ he)) _ c h;refine⟨e,?_,?_⟩
    .have:j / size=(j-size) / size+1:=by rw[Nat.div_eq_sub_div hp omq]
     rw[this];simpa using g1
    rw[Nat.mod_eq_sub_mod omq];exact g2
  obtain⟨e',g1,g2⟩:=hfl es hs j c e1';have hF:=hg (j / size) (j % size) e' c g1 g2;rw[eu,xl,xbq,xcj] at hF;have hcell:=e2.fr _ _ hF;have:w'.cell? ⟨b,j,none⟩=cur[j]? := by simp[World.cell?,q3]
  rw[this,e2'] at hcell;have hx:=xt hcell;rw[hx];exact(hr _ _ e' c g1 g2).flat (hf e' (vp g1) c (vp g2))
 intro hb;simp only[F2] at e;rw[ve hb] at e;cases e
end Go.Ab
namespace Go.Ab
open Go.RowKit
variable {P : Program}{T : Lay}{rd : Option Nat}
def refT:TV->Option Nat
 |.p id _=>some id
 |.m id=>some id
 |.s id _ _ _=>some id
 |_=>none
structure SameN (b:Nat) (h h':List (Nat×Blk)):Prop where
 m:mapN b h=mapN b h'
 f:dj b h=dj b h'
theorem SameN.refl(b:Nat)(h:List (Nat×Blk)):SameN b h h:=⟨rfl,rfl⟩
theorem SameN.symm{b:Nat}{h h':List (Nat×Blk)}(e:SameN b h h'):SameN b h' h:=⟨e.m.symm,e.f.symm⟩
theorem SameN.trans{b:Nat}{h h' h'':List (Nat×Blk)}(e:SameN b h h')(e':SameN b h' h''):SameN b h h'':=⟨e.m.trans e'.m,e.f.trans e'.f⟩
structure SameAt (h h':List (Nat×Blk)) (r:Option TV):Prop where
 l:∀tv id,r=some tv->refT tv=some id->look id h=look id h'
 m:∀b,r=some (.v (.val (.map (some b))))->mapN b h=mapN b h'
 s:∀b,dj b h=dj b h'
theorem qin{h h':List (Nat×Blk)}{r:Option TV}(e:SameAt h h' r):behind h r=behind h' r:=by
 match r with
 |none=>rfl
 |some (.p id off)=>simp only[behind,memV];rw[e.l _ id rfl rfl]
 |some (.v x)=>cases x<;>rfl
 |some (.m _)=>rfl
 |some (.s _ _ _ _)=>rfl
 |some .u=>rfl
theorem qpv{h h':List (Nat×Blk)}{r:Option TV}(e:SameAt h h' r):capV h r=capV h' r:=by
 match r with
 |none=>rfl
 |some (.p id off)=>simp only[capV];rw[e.l _ id rfl rfl]
 |some (.v x)=>rfl
 |some (.m _)=>rfl
 |some (.s _ _ _ _)=>rfl
 |some .u=>rfl
theorem jvw{ρ:Operand->Option TV}{h h':List (Nat×Blk)}: ∀(l:List Operand),(∀x∈l,SameAt h h' (ρ x))->ki ρ h l=ki ρ h' l
 |[],_=>rfl
 |x::r,e=>by simp only[ki];rw[qpv (e x smq),jvw r fun y hy=>e y (by simp[hy])]
theorem qmx{h h':List (Nat×Blk)}{r:Option TV}(e:SameAt h h' r):mapE h r=mapE h' r:=by
 match r with
 |none=>rfl
 |some (.p id off)=>rfl
 |some (.v x)=>
  unfold mapE;split<;>first|rfl|(rename_i b hx;cases hx;exact e.m b rfl)|(rename_i hx;cases hx;done)
 |some (.m id)=>simp only[mapE];rw[e.l _ id rfl rfl]
 |some (.s _ _ _ _)=>rfl
 |some .u=>rfl
theorem qn3{t:TypeId}{h h':List (Nat×Blk)}{r:Option TV}(e:SameAt h h' r):lenV P t h r=lenV P t h' r:=by
 match r with
 |none=>rfl
 |some (.p id off)=>rfl
 |some (.v x)=>unfold lenV;split<;>first|rfl|(rename_i hx;cases hx;done)
 |some (.m id)=>simp only[lenV];rw[e.l _ id rfl rfl]
 |some (.s _ _ _ _)=>rfl
 |some .u=>rfl
theorem qsa{ρ:Operand->Option TV}{h h':List (Nat×Blk)}(op:Op)(hh:∀x∈op.operands,SameAt h h' (ρ x)):evq P ρ h op=evq P ρ h' op:=by
 cases op<;>simp only[Op.operands] at hh<;>try simp only[evq]
 case unOp op t x=>cases op<;>rfl
 case slice t x lo hi mx=>cases mx<;>rfl
 case indexAddr t x i=>
  have hf:∀r,dj r h=dj r h':=(hh x smq).s;simp only[hf]
 case load t x=>rw[qin (hh x smq)]
 case makeFunc fn first cap=>
  cases fn<;>simp only
  rw[jvw cap.toList (fun x hx=>hh x (by simp;exact .inr zfi))]
 case lookup t x i ok=>rw[qmx (hh x smq)]
 case call c=>
  cases hc:c.callee with
  |value f=>rfl
  |invoke r m=>rfl
  |builtin b=>
   cases b<;>simp only
   split
   .rename_i x t h1 h2;have hx:x∈c.args.toList:=by rw[h1];simp
    rw[qn3 (hh x ze7)]
   rfl
variable {h0 : List (Nat × Blk)}{ops : Array Oper}{m : Nat}
def blkO(P:Program)(o:Oper):Option (Nat×Blk):=
 match o.op,o.dst,o.guard with
 |.alloc e,some d,none=>(lb P e).map fun zs=>(d,.var zs)
 |_,_,_=>none
def dt(P:Program)(ops:Array Oper)(i:Nat):Option (Nat×Blk):=(ops[i]?).bind (blkO P)
def hL(P:Program)(ops:Array Oper)(h0:List (Nat×Blk))(listed:Array Bool):Nat->List (Nat×Blk)
 |0=>h0
 |k+1=>if listed.getD k false=true then match dt P ops k with
  |some b=>b::hL P ops h0 listed k
  |none=>hL P ops h0 listed k
  else hL P ops h0 listed k
theorem rx{l:Array Bool}{i k:Nat}(hi:i<l.size):(l.setIfInBounds i true).getD k false=if k=i then true else l.getD k false:=by
 simp only[xce,Array.getElem?_setIfInBounds];by_cases h:i=k
 .subst h;simp[hi]
 rw[vd h,vd (fun e=>h e.symm)]
theorem jc8{listed:Array Bool}{i:Nat}(hi:i<listed.size)(hb:dt P ops i=none):∀k,hL P ops h0 (listed.setIfInBounds i true) k=hL P ops h0 listed k
 |0=>rfl
 |k+1=>by
  simp only[hL];rw[jc8 hi hb k,rx hi];by_cases e:k=i
  .subst e;rw[ve rfl,ve rfl,hb];simp
  rw[vd e]
def px(P:Program)(ops:Array Oper)(h0:List (Nat×Blk)):Prop:=
 (∀i j bi bj,dt P ops i=some bi->dt P ops j=some bj->bi.1=bj.1->i=j)/\∀i bi,dt P ops i=some bi->look bi.1 h0=none
theorem jc2(hA:px P ops h0){listed:Array Bool}{i:Nat}{b:Nat×Blk}(hb:dt P ops i=some b)(hu:listed.getD i false=false):∀k,look b.1 (hL P ops h0 listed k)=none
 |0=>hA.2 i b hb
 |k+1=>by
  simp only[hL];split
  .rename_i hl;split
   .rename_i c hc;obtain⟨c1,c2⟩:=c;rw[ae,vd]
    .exact jc2 hA hb hu k
    intro e;have:=hA.1 i k b (c1,c2) hb hc e;subst this;rw[hu] at hl;cases hl
   exact jc2 hA hb hu k
  exact jc2 hA hb hu k
theorem jf5(hA:px P ops h0){listed:Array Bool}{i:Nat}{b:Nat×Blk}(hi:i<listed.size)(hb:dt P ops i=some b)(hu:listed.getD i false=false)(id:Nat):
  ∀k,look id (hL P ops h0 (listed.setIfInBounds i true) k)=if id=b.1/\i<k then some b.2 else look id (hL P ops h0 listed k)
 |0=>by simp[hL]
 |k+1=>by
  have ih:=jf5 hA hi hb hu id k;simp only[hL];rw[rx hi];by_cases e:k=i
  .subst e;rw[ve rfl,ve rfl,hb];simp only;rw[hu];obtain⟨b1,b2⟩:=b;rw[ae,ih];by_cases hid:id=b1
   .simp[hid]
   simp[hid]
  rw[vd e];split
  .split
   .rename_i c hc;obtain⟨c1,c2⟩:=c;rw[ae,ae,ih];by_cases hc1:id=c1
    .have:¬(id=b.1):=fun h=>e (hA.1 k i (c1,c2) b hc hb (by rw[<- h,hc1]));simp[hc1] at this ⊢;simp[this]
    simp only[hc1,xy];by_cases hid:id=b.1
    .have:(i<k)↔(i<k+1):=omq;simp[hid,this]
    simp[hid]
   rw[ih];have:(i<k)↔(i<k+1):=omq;simp[this]
  rw[ih];have:(i<k)↔(i<k+1):=omq;simp[this]
theorem qjq{b d:Nat}{zs:List V}{h:List (Nat×Blk)}(hd:look d h=none):dj b ((d,.var zs)::h)=dj b h:=by
 have e1:eh b ((d,.var zs)::h)=eh b h:=rfl;unfold dj;rw[e1];cases eh b h with
 |none=>rfl
 |some id=>
  simp only;by_cases hid:id=d
  .subst hid;rw[hd,er];simp[nmOf,Blk.nm]
  rw[ae,vd hid]
theorem qmw{b d:Nat}{zs:List V}{h:List (Nat×Blk)}(hd:look d h=none):mapN b ((d,.var zs)::h)=mapN b h:=by
 have e1:eh b ((d,.var zs)::h)=eh b h:=rfl;unfold mapN dj;rw[e1];cases eh b h with
 |none=>rfl
 |some id=>
  simp only;by_cases hid:id=d
  .subst hid;rw[hd,er];simp[nmOf,Blk.nm]
  rw[ae,vd hid];split
  .rename_i i' hn;split at hn
   .cases hn;rw[ae,vd hid]
   cases hn
  rfl
theorem qiy{b d:Nat}{zs:List V}{h:List (Nat×Blk)}(hd:look d h=none):SameN b ((d,.var zs)::h) h:=⟨qmw hd,qjq hd⟩
theorem qpy{i:Nat}{b:Nat×Blk}(hb:dt P ops i=some b):∃zs,b.2=.var zs:=by
 unfold dt at hb;obtain⟨o,_,h2⟩:=xaz.1 hb;unfold blkO at h2;split at h2
 .obtain⟨zs,_,rfl⟩:=msi.1 h2;exact⟨zs,rfl⟩
 cases h2
theorem jwx(hA:px P ops h0){listed:Array Bool}{i:Nat}{b:Nat×Blk}(hb:dt P ops i=some b):∀k,k<=i->look b.1 (hL P ops h0 listed k)=none
 |0,_=>hA.2 i b hb
 |k+1,hk=>by
  have ih:=jwx hA (listed:=listed) hb k omq;simp only[hL];split
  .split
   .rename_i c hc;obtain⟨c1,c2⟩:=c;rw[ae,vd]
    .exact ih
    intro e;have:=hA.1 i k b (c1,c2) hb hc e;omega
   exact ih
  exact ih
theorem jf6(hA:px P ops h0)(listed:Array Bool)(b:Nat):∀k,SameN b (hL P ops h0 listed k) h0
 |0=>SameN.refl _ _
 |k+1=>by
  have ih:=jf6 hA listed b k;simp only[hL];split
  .split
   .rename_i c hc;obtain⟨c1,c2⟩:=c;obtain⟨zs,hz⟩:=qpy hc;simp only at hz;subst hz;exact(qiy (jwx hA hc k (vo _))).trans ih
   exact ih
  exact ih
def jb9(P:Program)(T:Lay)(ops:Array Oper)(h0:List (Nat×Blk))(m:Nat)(listed:Array Bool)(σ:Sto)(i:Nat)(o:Oper)(tv:TV):Prop:=
 (dt P ops i=none/\dg P T ops.toList σ (hL P ops h0 listed m) o tv)\/∃b,dt P ops i=some b/\tv=.p b.1 0
def awP(P:Program)(T:Lay)(ops:Array Oper)(h0:List (Nat×Blk))(m:Nat)(Q:Sto->Prop):List Oper->Nat->Array Bool->Sto->Prop
 |[],_,_,σ=>Q σ
 |o::r,k,listed,σ=>∃tv,jb9 P T ops h0 m listed σ k o tv/\awP P T ops h0 m Q r (k+1) (listed.setIfInBounds k true) (upd σ o.dst tv)
def anyP(P:Program)(T:Lay)(md:Region.Mode)(ops:Array Oper)(h0:List (Nat×Blk))(m:Nat)(Q:Sto->Prop):Nat->Array Bool->Sto->Prop
 |0,listed,σ=>(∀j,j<m->listed.getD j true=true)/\Q σ
 |fuel+1,listed,σ=>Region.ready md ops listed≠[]/\∀i∈Region.ready md ops listed,i<m/\∀o,ops[i]?=some o->∃tv,jb9 P T ops h0 m listed σ i o tv/\anyP P T md ops h0 m Q fuel (listed.setIfInBounds i true) (upd σ o.dst tv)
variable {md : Region.Mode}{Q : Sto -> Prop}
def qce(md:Region.Mode)(ok:Oper)(i:Nat):Bool:=ok.after.any fun e=>Region.binds md e && e.on == i
def jjh(md:Region.Mode)(ops:Array Oper)(m:Nat):Bool:=(List.range ops.size).all fun k=>match ops[k]? with
 |none=>true
 |some ok=>ok.after.all (fun e=> !Region.binds md e || decide (e.on<k)) && (List.range k).all fun i=>qce md ok i || (decide (k<m) && match ops[i]? with
  |some oi=>oi.apart ops ok
  |none=>false)
structure DrawOk (md:Region.Mode) (ops:Array Oper) (m:Nat):Prop where
 le:∀(k:Nat) (ok:Oper),ops[k]?=some ok->∀e∈ok.after,Region.binds md e=true->e.on<k
 ap:∀(i k:Nat) (oi ok:Oper),ops[i]?=some oi->ops[k]?=some ok->i<k->(∀e∈ok.after,Region.binds md e=true->e.on≠i)->k<m/\oi.apart ops ok=true
theorem qsg(h:jjh md ops m=true):DrawOk md ops m:=by
 have key:∀(k:Nat) (ok:Oper),ops[k]?=some ok->ok.after.all (fun e=> !Region.binds md e || decide (e.on<k))=true/\∀i,i<k->(qce md ok i || (decide (k<m) && match ops[i]? with
   |some oi=>oi.apart ops ok
   |none=>false))=true:=fun k ok hk=>by
  have hlt:k<ops.size:=(asi.1 hk).1;have:=xi.1 h k (by simpa using hlt);simp only[hk,vn] at this;exact⟨this.1,fun i hi=>xi.1 this.2 i zfb⟩
 constructor
 .intro k ok hk e he hb;have:=Array.all_eq_true_iff_forall_mem.1 (key k ok hk).1 e he;simpa [hb] using this
 intro i k oi ok hi hk hik hno;have:=(key k ok hk).2 i hik;simp only[hi,xbx,vn,vq] at this;rcases this with h1|h1
 .obtain⟨e,he,hb⟩:=Array.any_eq_true'.1 h1;simp only[vn,xax] at hb;exact absurd hb.2 (hno e he hb.1)
 exact h1
def WfS(h:List (Nat×Blk))(σ:Sto):Prop:=∀t tv,σ t=some tv->wfT h tv
theorem WfS.opr{h:List (Nat×Blk)}{σ:Sto}(hw:WfS h σ)(x:Operand)(tv:TV)(e:opv σ x=some tv):wfT h tv:=by
 cases x with
 |tmp i=>exact hw i tv e
 |const v=>
  simp only[opv,cond_eq_ite] at e;split at e
  .cases e;trivial
  cases e
 |func f=>simp only[opv,vk] at e;subst e;trivial
 |global g=>cases e
theorem qvg{h:List (Nat×Blk)}{tv:TV}{id:Nat}(hw:wfT h tv)(hr:refT tv=some id):look id h≠none:=by
 cases tv with
 |p i off=>simp only[refT,vk] at hr;subst hr;exact hw
 |m i=>simp only[refT,vk] at hr;subst hr;exact hw
 |s i off n size=>simp only[refT,vk] at hr;subst hr;exact hw
 |v x=>cases hr
 |u=>cases hr
theorem dg.look{σ:Sto}{h h':List (Nat×Blk)}{o:Oper}{tv:TV}{l:List Oper}(hw:WfS h σ)(hh:∀id,look id h≠none->look id h=look id h')(hm:∀b,SameN b h h'):dg P T l σ h o tv↔dg P T l σ h' o tv:=by
 have key:evq P (opv σ) h o.op=evq P (opv σ) h' o.op:=qsa o.op fun x _=>⟨fun tv' id e1 e2=>hh id (qvg (hw.opr x tv' e1) e2),fun b _=>(hm b).m,fun b=>(hm b).f⟩;unfold dg um;rw[key]
theorem WfS.more{h h':List (Nat×Blk)}{σ:Sto}(hw:WfS h σ)(hh:∀id,look id h≠none->look id h'≠none):WfS h' σ:=fun t tv e=>by
 have:=hw t tv e;cases tv with
 |p i off=>exact hh i this
 |m i=>exact hh i this
 |s i off n size=>exact hh i this
 |v x=>trivial
 |u=>trivial
theorem WfS.upd{h:List (Nat×Blk)}{σ:Sto}(hw:WfS h σ){d:Option Tmp}{tv:TV}(hv:wfT h tv):WfS h (upd σ d tv):=fun t tv' e=>by
 cases d with
 |none=>exact hw t tv' e
 |some d=>
  simp only[Go.Ab.upd] at e;split at e
  .cases e;exact hv
  exact hw t tv' e
theorem jy5{o:Oper}{i:Nat}{b:Nat×Blk}(ho:ops[i]?=some o)(hb:dt P ops i=some b):o.dst=some b.1/\o.guard=none/\∃e zs,o.op=.alloc e/\lb P e=some zs/\b.2=.var zs:=by
 unfold dt at hb;rw[ho] at hb;simp only[Option.bind_some,blkO] at hb;split at hb
 .rename_i e d h1 h2 h3;simp only[msi] at hb;obtain⟨zs,hz,rfl⟩:=hb;exact⟨h2,h3,e,zs,h1,hz,rfl⟩
 cases hb
theorem jb9.wf(hA:px P ops h0){listed:Array Bool}{σ:Sto}{i:Nat}{o:Oper}{tv:TV}(hi:i<listed.size)(him:i<m)(hu:listed.getD i false=false)(hs:jb9 P T ops h0 m listed σ i o tv)(hw:WfS (hL P ops h0 listed m) σ) 
  (hy:∀tv,dg P T ops.toList σ (hL P ops h0 listed m) o tv->wfT (hL P ops h0 listed m) tv):WfS (hL P ops h0 (listed.setIfInBounds i true) m) (Go.Ab.upd σ o.dst tv):=by
 rcases hs with⟨hb,hs⟩|⟨b,hb,rfl⟩
 .rw[jc8 hi hb];exact hw.upd (hy tv hs)
 have hlk:=fun id=>jf5 hA hi hb hu id m;refine WfS.upd (hw.more fun id h1=>?_) ?_
 .rw[hlk];split
  .simp
  exact h1
 show look b.1 _≠none
 rw[hlk,ve ⟨rfl,him⟩];simp
theorem jk7{l:List Oper}{σ:Sto}{h:List (Nat×Blk)}{o:Oper}{tv:TV}(hw:WfS h σ)(hy:dg P T l σ h o tv):wfT h tv:=by
 rcases hy with⟨_,hy⟩|⟨_,rfl⟩
 .rcases hy with hy|⟨v,hy,rfl⟩|⟨c,f,g,cap,vs,r,ho,hc,hf,hvs,hden,rfl⟩
  .exact jci hw.opr hy
  .trivial
  trivial
 trivial
theorem jti{l:Array Bool}{j k:Nat}(h:l.getD k true=true):(l.setIfInBounds j true).getD k true=true:=by
 by_cases e:j=k
 .subst e;by_cases hl:j<l.size
  .simp[hl]
  simp[hl]
 rw[getD_set_ne true e];exact h
theorem qlw(hA:px P ops h0)(hD:DrawOk md ops m){i:Nat}{oi:Oper}{v:TV}(hi:ops[i]?=some oi)(him:i<m):
  ∀(fuel:Nat) (listed:Array Bool) (σ:Sto),listed.size=ops.size->WfS (hL P ops h0 listed m) σ->
   (∀j oj,ops[j]?=some oj->j<i->listed.getD j true=true)->
   i∈Region.ready md ops listed->jb9 P T ops h0 m listed σ i oi v->
   anyP P T md ops h0 m Q fuel (listed.setIfInBounds i true) (upd σ oi.dst v)->anyP P T md ops h0 m Q (fuel+1) listed σ:=by
 intro fuel
 induction fuel with
 |zero=>
  intro listed σ hsz hw hbef hr hy H;refine⟨fun h0=>zfc,fun j hj=>?_⟩;by_cases hji:j=i
  .subst hji;refine⟨him,fun oj hoj=>?_⟩;rw[hi] at hoj;cases hoj;exact⟨v,hy,H⟩
  exfalso;obtain⟨hjun,oj,hoj,hall⟩:=mem_ready.1 hj
  have hgt:i<j:=by
   rcases xk i j with h|h
   .exact h
   have:=hbef j oj hoj omq;rw[this] at hjun;cases hjun
  have hno:∀e∈oj.after,Region.binds md e=true->e.on≠i:=fun e he hb heq=>by
   have h1:=hall e he hb;have h0:=(mem_ready.1 hr).1;rw[heq] at h1;have hil:i<listed.size:=by rw[hsz];exact(asi.1 hi).1
   simp[hil] at h0 h1;rw[h0] at h1;cases h1
  obtain⟨hjm,-⟩:=hD.ap i j oi oj hi hoj hgt hno;have h2:=H.1 j hjm;rw[getD_set_ne true (yp hji)] at h2;rw[h2] at hjun;cases hjun
 |succ fuel ih=>
  intro listed σ hsz hw hbef hr hy H;refine⟨fun h0=>zfc,fun j hj=>?_⟩;by_cases hji:j=i
  .subst hji;refine⟨him,fun oj hoj=>?_⟩;rw[hi] at hoj;cases hoj;exact⟨v,hy,H⟩
  obtain⟨hjm,H'⟩:=H.2 j (ready_mono hj hji);refine⟨hjm,fun oj hoj=>?_⟩;obtain⟨z,hu,hK⟩:=H' oj hoj;obtain⟨hjun,oj',hoj',hall⟩:=mem_ready.1 hj;rw[hoj] at hoj';cases hoj';have hil:i<listed.size:=by rw[hsz];exact(asi.1 hi).1
  have hjl:j<listed.size:=by rw[hsz];exact(asi.1 hoj).1
  have hiu:listed.getD i false=false:=by
   have:=(mem_ready.1 hr).1;simpa [hil] using this
  have hju:listed.getD j false=false:=by simpa [hjl] using hjun
  have hgt:i<j:=by
   rcases xk i j with h|h
   .exact h
   have:=hbef j oj hoj omq;rw[this] at hjun;cases hjun
  have hnot:∀e∈oj.after,Region.binds md e=true->e.on≠i:=fun e he hb heq=>by
   have h1:=hall e he hb;rw[heq] at h1;simp[hil] at h1 hiu;rw[hiu] at h1;cases h1
  obtain⟨a1,a2,a3⟩:=Oper.apart_spec (hD.ap i j oi oj hi hoj hgt hnot).2
  have hu':jb9 P T ops h0 m listed σ j oj z:=by
   rcases hu with⟨hb,hu⟩|⟨b,hb,rfl⟩
   .refine .inl ⟨hb,?_⟩;rcases hy with⟨hbi,hy⟩|⟨bi,hbi,rfl⟩
    .rw[jc8 hil hbi] at hu;exact(dg.upd a1).1 hu
    have h1:=(dg.upd a1).1 hu;refine(dg.look hw (fun id hne=>?_) fun b=>(jf6 hA _ b m).trans (jf6 hA _ b m).symm).2 h1;rw[jf5 hA hil hbi hiu id m,vd];rintro⟨e,-⟩;exact hne (e▸jc2 hA hbi hiu m)
   exact .inr ⟨b,hb,rfl⟩
  refine⟨z,hu',?_⟩;have hwj:=hu'.wf hA hjl hjm hju hw fun tv h=>jk7 hw h;refine ih (listed.setIfInBounds j true) _ (by simpa using hsz) hwj (fun k ok hk hki=>jti (hbef k ok hk hki)) (ready_mono hr (yp hji)) ?_ ?_
  .rcases hy with⟨hbi,hy⟩|⟨bi,hbi,rfl⟩
   .refine .inl ⟨hbi,(dg.upd a3).2 ?_⟩;rcases hu' with⟨hb,-⟩|⟨b,hb,-⟩
    .rw[jc8 hjl hb];exact hy
    refine(dg.look hw (fun id hne=>?_) fun b=>(jf6 hA _ b m).trans (jf6 hA _ b m).symm).1 hy;rw[jf5 hA hjl hb hju id m,vd];rintro⟨e,-⟩;exact hne (e▸jc2 hA hb hju m)
   exact .inr ⟨bi,hbi,rfl⟩
  exact zdv
structure First (ops:Array Oper) (k:Nat) (listed:Array Bool):Prop where
 size:listed.size=ops.size
 lt:∀j,j<k->listed.getD j true=true
 ge:∀j,k<=j->listed.getD j false=false
theorem First.ready(hD:DrawOk md ops m){k:Nat}{ok:Oper}{listed:Array Bool}(hf:First ops k listed)(hk:ops[k]?=some ok):k∈Region.ready md ops listed:=by
 have hlt:k<listed.size:=by rw[hf.size];exact(asi.1 hk).1
 refine mem_ready.2 ⟨?_,ok,hk,fun e he hb=>?_⟩
 .have:=hf.ge k (vo _);simpa [hlt] using this
 have h1:=hD.le k ok hk e he hb;have h2:=hf.lt e.on h1;have h3:e.on<listed.size:=omq;simpa [h3] using h2
theorem First.next{k:Nat}{listed:Array Bool}(hf:First ops k listed)(hk:k<ops.size):First ops (k+1) (listed.setIfInBounds k true):=by
 have hks:k<listed.size:=by rw[hf.size];exact hk
 refine⟨by simpa using hf.size,fun j hj=>?_,fun j hj=>?_⟩
 .by_cases e:j=k
  .subst e;simp[hks]
  exact jti (hf.lt j omq)
 rw[rx hks,vd omq];exact hf.ge j omq
theorem First.zero(ops:Array Oper):First ops 0 (Array.replicate ops.size false):=⟨smq,fun j hj=>by omega,fun j _=>by
 by_cases h:j<ops.size<;>simp[h]⟩
theorem qci(hA:px P ops h0)(hD:DrawOk md ops m):∀(l:List Oper) (k:Nat) (listed:Array Bool) (σ:Sto),k+l.length=m->m<=ops.size->(∀j,j<l.length->l[j]?=ops[k+j]?)->First ops k listed->
  WfS (hL P ops h0 listed m) σ->awP P T ops h0 m Q l k listed σ->anyP P T md ops h0 m Q l.length listed σ
 |[],k,listed,σ,hkm,_,_,hf,_,h=>⟨fun j hj=>hf.lt j (by simp at hkm;omega),h⟩
 |o::l,k,listed,σ,hkm,hms,hl,hf,hw,h=>by
  simp only[List.length_cons] at hkm;have h0':ops[k]?=some o:=by have:=hl 0 smq;simpa using this.symm
  have hks:k<ops.size:=(asi.1 h0').1;obtain⟨tv,hs,hK⟩:=h;have hkl:k<listed.size:=by rw[hf.size];exact hks
  refine qlw hA hD h0' omq l.length listed σ hf.size hw (fun j oj _ hj=>hf.lt j hj) (hf.ready hD h0') hs ?_;refine qci hA hD l (k+1) _ _ omq hms (fun j hj=>?_) (hf.next hks) (hs.wf hA hkl omq (hf.ge k (vo _)) hw fun tv h=>jk7 hw h) hK;exact zdr
variable {w : World}{M : Nat -> Prop}{F0 F : Frz}{w0 : World}{ρ : Nat -> Nat}{n : Nat}{σ : Sto}{h h' : List (Nat × Blk)}{o : List (TypeId × List Nat)}{a : Act}
theorem Sim.lookc(S:Sim P T M F0 w0 F ρ n σ h o a w)(hh:∀id,look id h=look id h'):Sim P T M F0 w0 F ρ n σ h' o a w:=
  { S with
    wf:=fun i tv e=>by
      have:=S.wf i tv e;cases tv with
      |p i off=>simp only[wfT] at this ⊢;rw[<- hh];exact this
      |m i=>simp only[wfT] at this ⊢;rw[<- hh];exact this
      |s i off n size=>simp only[wfT] at this ⊢;rw[<- hh];exact this
      |v x=>trivial
      |u=>trivial
    hp:=fun id k e=>S.hp id k zfg
    z:=fun i k hi e=>S.z i k hi zfg
    nb:=fun i k q e hq=>S.nb i k q zfg hq
    oc:=fun j e c hj i hi hge=>by rw[<- hh];exact S.oc j e c hj i hi hge
    inj:=fun id id' k k' e e'=>S.inj id id' k k' zfg (by rw[hh];exact e')
    ow:=fun j e c hj=>by
      obtain⟨v,h1,h2,h3⟩:=S.ow j e c hj
      exact⟨v,h1,h2,fun id k e=>h3 id k zfg⟩ }
theorem qml{d:Nat}{o:List (TypeId×List Nat)}(h:∀(j:Nat) e c,o[j]?=some (e,c)->d ∉ c):remo d o=o:=by
 unfold remo;rw[List.map_eq_iff];intro j;cases hj:o[j]? with
 |none=>rfl
 |some x=>
  obtain⟨e,c⟩:=x;simp only[Option.map_some,vk,xo,true_and];rw[xck.2];intro i hi;have hne:i≠d:=fun he=>h j e c hj (he▸hi);cases hb:Nat.beq i d
  .rfl
  exact absurd (xc3 hb) hne
theorem qqu{listed:Array Bool}(hA:px P ops h0)(S:Sim P T M F0 w0 F ρ n σ (hL P ops h0 listed m) o a w){i:Nat}{oi:Oper}{tv:TV}(hi:ops[i]?=some oi)(him:i<m)(hil:i<listed.size)(hiu:listed.getD i false=false) 
  (hy:jb9 P T ops h0 m listed σ i oi tv) (hd:∀d',oi.dst=some d'->d'<n/\∀(j:Nat) e c,o[j]?=some (e,c)->d' ∉ c) {K:Act->World->Prop} {Q:Exit->Act->World->Prop}
  (k:∀F' ρ' w' a',Sim P T M F0 w0 F' ρ' n (upd σ oi.dst tv) (hL P ops h0 (listed.setIfInBounds i true) m) o a' w'->K a' w'):wpOpIn (fc rd) 0 P ops Q i K a w:=by
 rcases hy with⟨hb,hy⟩|⟨b,hb,rfl⟩
 .exact qb2 S hy hd hi fun F' w' a' S'=>k F' ρ w' a' (by rw[jc8 hil hb];exact S')
 obtain⟨h1,h2,e,zs,hop,hz,hbz⟩:=jy5 hi hb;obtain⟨hdn,hdo⟩:=hd b.1 h1;obtain⟨z,z1,z2,z3,z4⟩:=jdj (P:=P) (F:=F) (w:=w) hz;unfold wpOpIn;simp only[hi];have hwt:Region.wanted oi (yielded ops a.tmps)=true:=by unfold Region.wanted;rw[h2]
 rw[hwt,ve rfl]
 have hrun:(execOp a.eval oi).run P w=.ok (.value (.pointer (some ⟨w.heap.size,0,none⟩))) (w.alloc (.cells z.cells e)):=by
  unfold execOp;rw[hop];simp[Instr.alloc,z1,newVar,jkn]
 refine cx hrun ?_
 show K (a.put oi.dst _) _
 have S1:=Sim.newBlk S (jc2 hA hb hiu m) hdn (jyk S.sees z2 z3 z4:RepB F (w.alloc (.cells z.cells e)) w.heap.size (.var zs)) (fun q hq=>by cases hq) (tv:=.p b.1 0) (y:=.pointer (some ⟨w.heap.size,0,none⟩)) (by simp[RepT]) zff;rw[qml hdo,<- hbz] at S1;rw[h1];refine k F (fun i=>if i=b.1 then w.heap.size else ρ i) _ _ ?_;rw[h1];refine S1.lookc fun id=>?_;rw[jf5 hA hil hb hiu id m,ae];by_cases hid:id=b.1
 .rw[ve hid,ve ⟨hid,him⟩]
 rw[vd hid,vd (fun e=>hid e.1)]
theorem jvz(hA:px P ops h0)(hok:∀i oi,ops[i]?=some oi->i<m->∀d',oi.dst=some d'->d'<n/\∀(j:Nat) e c,o[j]?=some (e,c)->d' ∉ c){Q':Exit->Act->World->Prop}{s:Nat} 
  (hQ:∀(F':Frz) (ρ':Nat->Nat) (σ':Sto) (a':Act) (w':World) (listed:Array Bool),listed.size=ops.size->(∀j,j<m->listed.getD j true=true)->(∀j,m<=j->listed.getD j false=false)->Sim P T M F0 w0 F' ρ' n σ' (hL P ops h0 listed m) o a' w'->Q σ'->wpAnyIn (fc rd) 0 P md ops Q' s listed a' w'):
  ∀(fuel:Nat) (listed:Array Bool) (F:Frz) (ρ:Nat->Nat) (σ:Sto) (a:Act) (w:World),listed.size=ops.size->(∀j,m<=j->listed.getD j false=false)->Sim P T M F0 w0 F ρ n σ (hL P ops h0 listed m) o a w->anyP P T md ops h0 m Q fuel listed σ->wpAnyIn (fc rd) 0 P md ops Q' (fuel+s) listed a w
 |0,listed,F,ρ,σ,a,w,hsz,hge,S,hh=>by
  rw[xl];exact hQ F ρ σ a w listed hsz hh.1 hge S hh.2
 |fuel+1,listed,F,ρ,σ,a,w,hsz,hge,S,hh=>by
  rw[Nat.succ_add];refine⟨fun h=>absurd h hh.1,fun i hi=>?_⟩;obtain⟨him,hstep⟩:=hh.2 i hi;obtain⟨hun,oi,hoi,_⟩:=mem_ready.1 hi;obtain⟨tv,hy,hK⟩:=hstep oi hoi;have hil:i<listed.size:=by rw[hsz];exact(asi.1 hoi).1
  have hiu:listed.getD i false=false:=by simpa [hil] using hun
  refine qqu hA S hoi him hil hiu hy (hok i oi hoi him) fun F' ρ' w' a' S'=>?_;exact jvz hA hok hQ fuel _ F' ρ' _ a' w' (by simpa using hsz) (fun j hj=>by rw[rx hil,vd omq];exact hge j hj) S' hK
theorem jlh(hD:DrawOk md ops m){K:St->Prop}{Q':Exit->Act->World->Prop}(k:∀F' ρ' st' a' w',SimS P T M F0 w0 F' ρ' st' a' w'->K st'->Q' .normal a' w'):
  ∀(rest:List Oper) (i:Nat) (listed:Array Bool) (F:Frz) (ρ:Nat->Nat) (st:St) (a:Act) (w:World),m<=i->(∀j,rest[j]?=ops[i+j]?)->First ops i listed->SimS P T M F0 w0 F ρ st a w->awO P T ops.toList rest st K->
   wpAnyIn (fc rd) 0 P md ops Q' rest.length listed a w
 |[],i,listed,F,ρ,st,a,w,_,hl,hf,S,h=>by
  refine⟨?_,k F ρ st a w S h⟩
  have hsz:ops.size<=i:=by
   have:=hl 0;simp only[List.getElem?_nil,Nat.add_zero] at this;rcases xk i ops.size with hlt|hge
   .rw[xu hlt] at this;cases this
   exact hge
  rw[List.eq_nil_iff_forall_not_mem];intro j hj;obtain⟨hun,oj,hoj,_⟩:=mem_ready.1 hj;have:=hf.lt j (by have:=(asi.1 hoj).1;omega);rw[this] at hun;cases hun
 |o::rest,i,listed,F,ρ,st,a,w,hmi,hl,hf,S,h=>by
  have h0:ops[i]?=some o:=by simpa using(hl 0).symm
  have his:i<ops.size:=(asi.1 h0).1;have hil:i<listed.size:=by rw[hf.size];exact his
  have hl':∀j,rest[j]?=ops[i+1+j]? := fun j=>by have:=hl (j+1);simpa [Nat.add_assoc,Nat.add_comm 1 j] using this
  have hri:=hf.ready hD h0;refine⟨fun e=>(by rw[e] at hri;cases hri),fun j hj=>?_⟩
  have hji:j=i:=by
   obtain⟨hun,oj,hoj,hall⟩:=mem_ready.1 hj;rcases xch j i with h1|h1|h1
   .have:=hf.lt j h1;rw[this] at hun;cases hun
   .exact h1
   exfalso
   have hno:∀e∈oj.after,Region.binds md e=true->e.on≠i:=fun e he hb heq=>by
    have h2:=hall e he hb;rw[heq,hf.ge i (vo _)] at h2;cases h2
   have:=(hD.ap i j o oj h0 hoj h1 hno).1;omega
  subst hji;simp only[awO] at h;unfold wpOpIn;simp only[h0];cases hg:gdV ops.toList o st.σ with
  |none=>rw[hg] at h;exact h.elim
  |some b=>
   rw[hg] at h;simp only at h;have hw:=Sim.wanted S hg;rw[hw];cases b with
   |true=>
    rw[oh] at h;rw[ve rfl];exact(jjv S h fun F' ρ' st' a' w' S' hK=>jlh hD k rest (j+1) _ F' ρ' st' a' w' omq hl' (hf.next his) S' hK)
   |false=>
    rw[tl] at h;simp only[yw,xy];obtain⟨st',S',hK⟩:=nz (tv:=.u) (x:=undef) S rfl trivial h;exact⟨fun _ _=>trivial,jlh hD k rest (j+1) _ F ρ st' _ w omq hl' (hf.next his) S' hK⟩
def jct(P:Program)(T:Lay)(op:Oper)(st:St)(K:St->Prop):Prop:=
 match op.op,op.dst,op.guard with
 |.alloc e,some d,none=>match lb P e with
  |some zs=>K { st with t:=(d,.p d 0)::st.t,h:=(d,.var zs)::st.h }
  |none=>False
 |_,_,_=>qz P T op st K
def awE(P:Program)(T:Lay)(l:List Oper):List Oper->St->(St->Prop)->Prop
 |[],st,K=>K st
 |o::rest,st,K=>match gdV l o st.σ with
  |none=>False
  |some b=>gsel b (jct P T o st fun st'=>awE P T l rest st' K) (awE P T l rest { st with t:=match o.dst with|none=>st.t|some d=>(d,.u)::st.t } K)
theorem ji2{k:Nat}{listed:Array Bool}(hge:∀j,k<=j->listed.getD j false=false):∀m,k<=m->hL P ops h0 listed m=hL P ops h0 listed k
 |0,h=>by rw[show k=0 by omega]
 |m+1,h=>by
  by_cases e:k=m+1
  .rw[e]
  simp only[hL];rw[hge m omq];simp only[yw,xy];exact ji2 hge m omq
theorem jr6{listed listed':Array Bool}: ∀m,(∀j,j<m->listed.getD j false=listed'.getD j false)->hL P ops h0 listed m=hL P ops h0 listed' m
 |0,_=>rfl
 |m+1,h=>by simp only[hL];rw[h m omq,jr6 m fun j hj=>h j omq]
def hAll(P:Program)(ops:Array Oper)(h0:List (Nat×Blk))(m:Nat):List (Nat×Blk):=hL P ops h0 (Array.replicate ops.size true) m
theorem qd5{listed:Array Bool}(hsz:listed.size=ops.size)(hm:m<=ops.size)(h:∀j,j<m->listed.getD j true=true):hL P ops h0 listed m=hAll P ops h0 m:=by
 refine jr6 m fun j hj=>?_;have h1:=h j hj;have h2:j<listed.size:=omq;have h3:j<ops.size:=omq;simp only[h2,h3,xce,xu,Option.getD_some,Array.size_replicate,Array.getElem_replicate] at h1 ⊢;exact h1
theorem jq5{K:St->Prop}: ∀(rest:List Oper) (k:Nat) (listed:Array Bool) (st:St),k+rest.length=m->m<=ops.size->(∀j,j<rest.length->rest[j]?=ops[k+j]?)->First ops k listed->st.h=hL P ops h0 listed m->
  awE P T ops.toList rest st K->awP P T ops h0 m (fun σ=>∃st',st'.n=st.n/\st'.h=hAll P ops h0 m/\st'.o=st.o/\σ=st'.σ/\K st') rest k listed st.σ
 |[],k,listed,st,hkm,hms,_,hf,hh,h=>⟨st,rfl,by rw[hh,qd5 hf.size hms fun j hj=>hf.lt j (by simp at hkm;omega)],rfl,rfl,h⟩
 |o::rest,k,listed,st,hkm,hms,hl,hf,hh,h=>by
  simp only[List.length_cons] at hkm;have h0':ops[k]?=some o:=by have:=hl 0 smq;simpa using this.symm
  have hks:k<ops.size:=(asi.1 h0').1;have hkl:k<listed.size:=by rw[hf.size];exact hks
  have hl':∀j,j<rest.length->rest[j]?=ops[k+1+j]? := fun j hj=>by
   exact zdr
  have quiet:dt P ops k=none->∀tv,dg P T ops.toList st.σ st.h o tv->awE P T ops.toList rest { st with t:=match o.dst with|none=>st.t|some d=>(d,tv)::st.t } K->
    awP P T ops h0 m (fun σ=>∃st',st'.n=st.n/\st'.h=hAll P ops h0 m/\st'.o=st.o/\σ=st'.σ/\K st') (o::rest) k listed st.σ:=fun hb tv hy hk=>by
   refine⟨tv,.inl ⟨hb,by rw[<- hh];exact hy⟩,?_⟩;have:=jq5 rest (k+1) (listed.setIfInBounds k true) _ omq hms hl' (hf.next hks) (by rw[jc8 hkl hb];exact hh) hk;rw[show ({ st with t:=match o.dst with|none=>st.t|some d=>(d,tv)::st.t } : St).σ=upd st.σ o.dst tv from σ_put st o.dst tv] at this;exact this
  simp only[awE] at h;cases hg:gdV ops.toList o st.σ with
  |none=>rw[hg] at h;exact h.elim
  |some b=>
   rw[hg] at h;simp only at h;cases b with
   |false=>
    rw[tl] at h;refine quiet ?_ .u (.inr ⟨hg,rfl⟩) h;unfold dt blkO;rw[h0'];simp only[Option.bind_some];split
    .rename_i h3;unfold gdV at hg;rw[h3] at hg;cases hg
    rfl
   |true=>
    rw[oh] at h;unfold jct at h;split at h
    .rename_i e d h1 h2 h3;split at h
     .rename_i zs hz;have hb:dt P ops k=some (d,.var zs):=by unfold dt blkO;rw[h0'];simp only[Option.bind_some,h1,h2,h3,hz,Option.map_some]
      refine⟨.p d 0,.inr ⟨_,hb,rfl⟩,?_⟩
      have:=jq5 rest (k+1) (listed.setIfInBounds k true) _ omq hms hl' (hf.next hks) (by
       show (d,Blk.var zs)::st.h=_
       rw[ji2 (k:=k+1) (hf.next hks).ge m omq,hh,ji2 (k:=k) hf.ge m omq];simp only[hL];rw[rx hkl,ve rfl,hb];simp only[xf]
       rw[jr6 k fun j hj=>by rw[rx hkl,vd omq]]) h
      rw[σ_cons] at this;rw[h2];exact this
     exact h.elim
    rename_i hno
    have hb:dt P ops k=none:=by
     unfold dt blkO;rw[h0'];simp only[Option.bind_some]
     all_goals (split<;>first|rfl|(rename_i e d h1 h2 h3;exact(hno e d h1 h2 h3).elim))
    obtain⟨tv,hy,hk⟩:=jt2 h;exact quiet hb tv (.inl ⟨hg,hy⟩) hk
def jcp(o:Oper):Option Nat:=
 match o.op,o.dst,o.guard with
 |.alloc _,some d,none=>some d
 |_,_,_=>none
def jfx(l:List Oper)(h:List (Nat×Blk)):Bool:=
 ((List.range l.length).all fun i=>(List.range i).all fun j=>match (l[i]?).bind jcp,(l[j]?).bind jcp with
  |some a,some b=>a != b
  |_,_=>true) && l.all fun o=>match jcp o with
  |some d=>(look d h).isNone
  |none=>true
theorem jjt{i:Nat}{b:Nat×Blk}(h:dt P ops i=some b):(ops.toList[i]?).bind jcp=some b.1:=by
 unfold dt at h;obtain⟨o,h1,h2⟩:=xaz.1 h;have h1':ops.toList[i]?=some o:=by simpa using h1
 rw[h1'];obtain⟨a1,a2,e,zs,a3,a4,a5⟩:=jy5 h1 h;simp only[Option.bind_some,jcp,a1,a2,a3]
theorem qht(h:jfx ops.toList h0=true):px P ops h0:=by
 simp only[jfx,vn] at h;obtain⟨h1,h2⟩:=h
 have key:∀i j bi bj,dt P ops i=some bi->dt P ops j=some bj->bi.1=bj.1->j<i->False:=fun i j bi bj e1 e2 he hji=>by
  have g1:=jjt e1;have g2:=jjt e2
  have hi:i<ops.toList.length:=by
   obtain⟨o,q,_⟩:=xaz.1 g1;exact(gsi.1 q).1
  have:=xi.1 (xi.1 h1 i zfb) j (by simpa using hji);rw[g1,g2] at this;simp[he] at this
 refine⟨fun i j bi bj e1 e2 he=>?_,fun i bi e=>?_⟩
 .rcases xch i j with h|h|h
  .exact(key j i bj bi e2 e1 he.symm h).elim
  .exact h
  exact(key i j bi bj e1 e2 he h).elim
 have g1:=jjt e;obtain⟨o,q1,q2⟩:=xaz.1 g1;have:=xi.1 h2 o (vp q1);rw[q2] at this;exact zb4
def uv(o:Oper):Bool:=
 match o.op with
 |.store .. => true
 |.mapUpdate .. => true
 |.call c=>match c.callee with
  |.builtin .append=>true
  |.builtin .clear=>true
  |_=>false
 |_=>false
def hasE(l:List Oper):Bool:=l.any fun o=>uv o || (jcp o).isSome
def ph:List Oper->Nat
 |[]=>0
 |o::r=>if uv o=true then 0 else ph r+1
theorem jyn:∀l:List Oper,ph l<=l.length
 |[]=>vo _
 |o::r=>by
  have:=jyn r;simp only[ph,List.length_cons];split<;>omega
class Mixed (P:Program):Prop where
 eq:P.follows .mixedOrders=true
theorem qmh(hm:P.follows .mixedOrders=true){st:St}{K:St->Prop}{l lp ls:List Oper}(hl:ops.toList=l)(hB:jjh .any ops m=true)(hms:m<=ops.size)(hp:l.take m=lp)(hs:l.drop m=ls)(hd:jb5 st.n st.o lp=true) 
  (hx:jfx l (frzR st.σ l st.h)=true) (k:awE P T l lp { st with h:=frzR st.σ l st.h } fun st'=>awO P T l ls st' K):SemR P T ops st K:=by
 intro rd M F0 w0 F ρ a w Q id S hQ;subst hl hp hs;obtain⟨F1,S1⟩:=jgw (h:=st.h) ops.toList S;have hD:=qsg hB;have hA:px P ops (frzR st.σ ops.toList st.h):=qht hx;generalize hst:({ st with h:=frzR st.σ ops.toList st.h } : St)=st1 at S1 k;have hh1:st1.h=frzR st.σ ops.toList st.h:=by rw[<- hst]
 have hn1:st1.n=st.n:=by rw[<- hst]
 have ho1:st1.o=st.o:=by rw[<- hst]
 rw[<- hh1] at hA;have hlen:(ops.toList.take m).length=m:=by simp;omega
 have hget:∀j,j<(ops.toList.take m).length->(ops.toList.take m)[j]?=ops[0+j]? := fun j hj=>by
  rw[hlen] at hj;simp[hj]
 have h0:hL P ops st1.h (Array.replicate ops.size false) m=st1.h:=by
  rw[ji2 (k:=0) (First.zero ops).ge m (vj _)];rfl
 have hP:=jq5 (P:=P) (T:=T) (ops:=ops) (h0:=st1.h) (m:=m) (ops.toList.take m) 0 (Array.replicate ops.size false) st1 omq hms hget (First.zero ops) h0.symm k;have hx1:Ext F1 w F1 w.drew:=(Ext.refl S1.sees).drew;have S2:Sim P T M F0 w0 F1 ρ st1.n st1.σ (hL P ops st1.h (Array.replicate ops.size false) m) st1.o a w.drew:=by rw[h0];exact Sim.ext S1 hx1
 have hAny:=qci (md:=.any) hA hD (ops.toList.take m) 0 _ _ omq hms hget (First.zero ops) (fun t tv e=>S2.wf t tv e) hP;rw[hlen] at hAny;refine wpIn_region_any hm ?_;have hsz:ops.size=m+(ops.toList.drop m).length:=by simp;omega
 rw[hsz]
 have:=jvz (P:=P) (T:=T) (rd:=rd) (md:=.any) (Q':=Q) (s:=(ops.toList.drop m).length) hA (n:=st1.n) (o:=st1.o) (fun i oi hi him d' hd'=>by
  have hmem:oi∈ops.toList.take m:=vp (i:=i) (by rw[yx,ve him];simpa using hi);rw[hn1,ho1]
  exact jzl hd oi hmem d' hd') (fun F' ρ' σ' a' w' listed hsz' hlt hge S' hq=>by
   obtain⟨st',e1,e2,e3,e4,hK⟩:=hq;have hfirst:First ops m listed:=⟨hsz',hlt,hge⟩;refine jlh hD hQ (ops.toList.drop m) m listed F' ρ' st' a' w' (vo _) (fun j=>by simp) hfirst ?_ hK;unfold SimS;rw[e1,e2,e3,<- e4,<- qd5 hsz' hms hlt]
   exact S') m (Array.replicate ops.size false) F1 ρ st1.σ a w.drew smq (fun j _=>(First.zero ops).ge j (vj _)) S2 hAny
 rw[<- hsz] at this ⊢;exact this
end Go.Ab
namespace Go.Ab
open Go.RowKit
variable {P : Program}{T : Lay}{rd : Option Nat}
def effD(D:List Nat)(o:Oper):Bool:=match o.dst with
 |some d=>D.contains d
 |none=>false
def effI(D:List Nat)(ops:Array Oper)(i:Nat):Bool:=match ops[i]? with
 |some o=>effD D o
 |none=>false
abbrev HL:=List (Nat×Blk)×List (TypeId×List Nat)
structure Gr (x y:List (Nat×Blk)):Prop where
 l:∀id,look id x≠none->look id x=look id y
 m:∀b,SameN b x y
theorem Gr.refl(x:List (Nat×Blk)):Gr x x:=⟨fun _ _=>rfl,fun _=>SameN.refl _ _⟩
theorem Gr.trans{x y z:List (Nat×Blk)}(h:Gr x y)(k:Gr y z):Gr x z:=⟨fun id hx=>(h.l id hx).trans (k.l id (by rw[<- h.l id hx];exact hx)),fun b=>(h.m b).trans (k.m b)⟩
def Lg(dst:Option Tmp)(x y:List (TypeId×List Nat)):Prop:=∀(j:Nat) e c,y[j]?=some (e,c)->∀i∈c,dst=some i\/∃(j':Nat) (e':TypeId) (c':List Nat),x[j']?=some (e',c')/\i∈c'
structure Eff (P:Program) (T:Lay) (n:Nat) (op:Oper) (x y:HL) (σ:Sto) (tv:TV):Prop where
 gd:op.guard=none
 step:∀t:List (Nat×TV),(∀z∈op.op.operands,opv (fun i=>look i t) z=opv σ z)->dp P T op ⟨n,t,x.1,x.2⟩ fun st'=>st'.n=n/\st'.σ=upd (fun i=>look i t) op.dst tv/\st'.h=y.1/\st'.o=y.2
 gr:Gr x.1 y.1
 lg:Lg op.dst x.2 y.2
 wf:wfT y.1 tv
theorem Lg.refl(o:List (TypeId×List Nat))(dst:Option Tmp):Lg dst o o:=fun j e c hj _ hi=>.inr ⟨j,e,c,hj,hi⟩
theorem Lg.trans{dst:Option Tmp}{x y z:List (TypeId×List Nat)}(h:Lg dst x y)(k:Lg dst y z):Lg dst x z:=fun j e c hj i hi=>(k j e c hj i hi).elim .inl fun⟨j',e',c',h1,h2⟩=>h j' e' c' h1 i h2
def jfm(P:Program)(T:Lay)(op:Oper)(st:St)(K:St->Prop):Prop:=
 match op.op with
 |.alloc e=>match op.dst,lb P e with
  |some d,some zs=>look d st.h=none/\d<st.n/\K { st with t:=(d,.p d 0)::st.t,h:=(d,.var zs)::st.h,o:=remo d st.o }
  |_,_=>False
 |.call c=>match c.callee with
  |.value f=>match vOf (opv st.σ f),vsOf (opv st.σ) c.args.toList with
   |some (.func g cap),some vs=>Call P T g (vs++cap) (retK st op.dst K) (newK st op.dst K) False
   |_,_=>False
  |.builtin .append=>appC P op c st K
  |_=>False
 |.load t x=>match evq P (opv st.σ) st.h op.op,op.dst,opv st.σ x,aggB P t with
  |some (.v v),some d,some (.p id off),some false=>d<st.n/\K { st with t:=(d,.v v)::st.t,o:=ldO id off d st.o }
  |_,_,_,_=>False
 |_=>False
variable {ops : Array Oper}{m : Nat}{md : Region.Mode}{Q : Sto -> Prop}{D : List Nat}
def top(E:Nat->Bool)(listed:Array Bool):Nat->Nat
 |0=>0
 |k+1=>if(E k && listed.getD k false)=true then k+1 else top E listed k
theorem jw3{E:Nat->Bool}{l:Array Bool}{i:Nat}(hi:i<l.size)(he:E i=false):∀k,top E (l.setIfInBounds i true) k=top E l k
 |0=>rfl
 |k+1=>by
  simp only[top];rw[jw3 hi he k,rx hi];by_cases e:k=i
  .subst e;simp[he]
  rw[vd e]
structure Tr (E:Nat->Bool) (m:Nat) (tr:Nat->HL):Prop where
 q:∀j,j<m->E j=false->tr (j+1)=tr j
 gr:∀j,j<m->Gr (tr j).1 (tr (j+1)).1
theorem Tr.low{E:Nat->Bool}{tr:Nat->HL}(h:Tr E m tr){l:Array Bool}: ∀ {i:Nat},i<=m->(∀j,j<i->E j=true->l.getD j false=true)->tr (top E l i)=tr i
 |0,_,_=>rfl
 |i+1,him,hl=>by
  simp only[top];by_cases e:E i=true
  .rw[ve (by rw[e,hl i omq e];rfl)]
  rw[vd (by simp[e]),h.low omq fun j hj=>hl j omq,h.q i omq (by simpa using e)]
theorem jyd{E:Nat->Bool}{l:Array Bool}{i:Nat}(hl:∀j,i<=j->E j=true->l.getD j false=false):∀k,i<=k->top E l k=top E l i
 |0,h=>by rw[show i=0 by omega]
 |k+1,h=>by
  by_cases e:i=k+1
  .rw[e]
  simp only[top];rw[vd,jyd hl k omq];intro e2;simp only[vn] at e2;rw[hl k omq e2.1] at e2;cases e2.2
theorem Tr.at{E:Nat->Bool}{tr:Nat->HL}(h:Tr E m tr){l:Array Bool}{i:Nat}(him:i<=m)(h1:∀j,j<i->E j=true->l.getD j false=true)(h2:∀j,i<=j->E j=true->l.getD j false=false):tr (top E l m)=tr i:=by
 rw[jyd h2 m him,h.low him h1]
def qeh(P:Program)(T:Lay)(n:Nat)(ops:Array Oper)(E:Nat->Bool)(m:Nat)(tr:Nat->HL)(listed:Array Bool)(σ:Sto)(i:Nat)(o:Oper)(tv:TV):Prop:=
 (E i=false/\dg P T ops.toList σ (tr (top E listed m)).1 o tv)\/(E i=true/\Eff P T n o (tr i) (tr (i+1)) σ tv)
def Dn(E:Nat->Bool)(l:Array Bool):Prop:=∀i k,i<k->E i=true->E k=true->l.getD k false=true->l.getD i false=true
structure ChainOk (md:Region.Mode) (ops:Array Oper) (m:Nat) (D:List Nat):Prop where
 dr:DrawOk md ops m
 gd:∀(k:Nat) (ok:Oper),ops[k]?=some ok->k<m->effD D ok=true->ok.guard=none
 ch:∀(i k:Nat) (ok:Oper),ops[k]?=some ok->i<k->k<m->effI D ops i=true->effD D ok=true->∃p,i<=p/\p<k/\effI D ops p=true/\∃e∈ok.after,Region.binds md e=true/\e.on=p
variable {n : Nat}{tr : Nat -> HL}
theorem qeh.wf{E:Nat->Bool}(_hT:Tr E m tr){listed:Array Bool}{σ:Sto}{i:Nat}{o:Oper}{tv:TV}(hi:i<listed.size)(_him:i<m) 
  (hx:E i=true->tr (top E listed m)=tr i/\tr (top E (listed.setIfInBounds i true) m)=tr (i+1)) (hs:qeh P T n ops E m tr listed σ i o tv) (hw:WfS (tr (top E listed m)).1 σ):WfS (tr (top E (listed.setIfInBounds i true) m)).1 (Go.Ab.upd σ o.dst tv):=by
 rcases hs with⟨he,hs⟩|⟨he,hs⟩
 .rw[jw3 hi he];exact hw.upd (jk7 hw hs)
 obtain⟨h1,h2⟩:=hx he;rw[h2];refine WfS.upd (hw.more fun id hid=>?_) hs.wf;rw[h1] at hid;rw[<- hs.gr.l id hid];exact hid
theorem qnq{i:Nat}{o:Oper}(h:ops[i]?=some o):effI D ops i=effD D o:=by unfold effI;rw[h]
theorem Dn.rdy(hC:ChainOk md ops m D){l:Array Bool}(hD:Dn (effI D ops) l){i:Nat}(hr:i∈Region.ready md ops l)(him:i<m)(he:effI D ops i=true)(hsz:l.size=ops.size):
  (∀j,j<i->effI D ops j=true->l.getD j false=true)/\(∀j,i<=j->effI D ops j=true->l.getD j false=false):=by
 obtain⟨hun,oi,hoi,hall⟩:=mem_ready.1 hr;have hil:i<l.size:=by rw[hsz];exact(asi.1 hoi).1
 have hiu:l.getD i false=false:=by simpa [hil] using hun
 refine⟨fun j hj hej=>?_,fun j hij hej=>?_⟩
 .obtain⟨p,hjp,hpi,hep,e,h1,h2,h3⟩:=hC.ch j i oi hoi hj him hej (by rw[<- qnq hoi];exact he);have:=hall e h1 h2;rw[h3] at this;have hpl:p<l.size:=omq;have hp:l.getD p false=true:=by simpa [hpl] using this
  rcases xk j p with h|h
  .exact hD j p h hej hep hp
  obtain rfl:j=p:=omq;exact hp
 rcases xk i j with h|h
 .cases hl:l.getD j false with
  |false=>rfl
  |true=>rw[hD i j h he hej hl] at hiu;cases hiu
 obtain rfl:j=i:=omq;exact hiu
theorem Tr.rdy(hC:ChainOk md ops m D)(hT:Tr (effI D ops) m tr){l:Array Bool}(hD:Dn (effI D ops) l){i:Nat}(hr:i∈Region.ready md ops l)(him:i<m)(hsz:l.size=ops.size)(he:effI D ops i=true):
  tr (top (effI D ops) l m)=tr i/\tr (top (effI D ops) (l.setIfInBounds i true) m)=tr (i+1):=by
 obtain⟨h1,h2⟩:=hD.rdy hC hr him he hsz;obtain⟨hun,oi,hoi,_⟩:=mem_ready.1 hr;have hil:i<l.size:=by rw[hsz];exact(asi.1 hoi).1
 refine⟨hT.at omq h1 h2,hT.at omq (fun j hj hej=>?_) (fun j hj hej=>?_)⟩
 .rw[rx hil];split
  .rfl
  exact h1 j omq hej
 rw[rx hil,vd omq];exact h2 j omq hej
theorem First.at{E:Nat->Bool}{k:Nat}{l:Array Bool}(hf:First ops k l)(hk:k<=ops.size)(hT:Tr E m tr)(hkm:k<=m):tr (top E l m)=tr k:=hT.at hkm (fun j hj _=>by
  have:=hf.lt j hj;have h2:j<l.size:=by rw[hf.size];omega
  simpa [h2] using this) (fun j hj _=>hf.ge j hj)
variable {w : World}{M : Nat -> Prop}{F0 F : Frz}{w0 : World}{ρ : Nat -> Nat}{σ : Sto}{h h' : List (Nat × Blk)}{o : List (TypeId × List Nat)}{a : Act}
def awC(P:Program)(T:Lay)(D:List Nat)(l:List Oper):List Oper->St->(St->Prop)->Prop
 |[],st,K=>K st
 |o::rest,st,K=>if effD D o=true then jfm P T o st fun st'=>awC P T D l rest st' K else match gdV l o st.σ with
  |none=>False
  |some b=>gsel b (qz P T o st fun st'=>awC P T D l rest st' K) (awC P T D l rest { st with t:=match o.dst with|none=>st.t|some d=>(d,.u)::st.t } K)
end Go.Ab
namespace Go.Ab
open Go.RowKit
variable {P : Program}{T : Lay}
variable {Q:AX->St->Prop}{st:St}{id:Nat}{ops:Array Oper}{x:Code}{α:Type}{l:List Oper}{es:List (List V)}{c:Operand}{cs:List V}{v:V}{r:List Oper}{cs':List V}{args:List V}{y:ResultVar}{g:FuncId}{b:Nat}{u:V}
class TCell (P:Program) (t:TypeId):Prop where
 agg:aggB P t=some false
 size:P.cellsOf t=1
 info:(P.info? t).isSome=true
class TAgg (P:Program) (t:TypeId) (n:outParam Nat):Prop where
 agg:aggB P t=some true
 size:P.cellsOf t=n
 info:(P.info? t).isSome=true
class TField (P:Program) (s:TypeId) (f:Nat) (off:outParam Nat) (ft:outParam TypeId):Prop where
 eq:fldV P s f=some (off,ft)
class TSlice (P:Program) (t:TypeId) (e:outParam TypeId) (size:outParam Nat):Prop where
 eq:slV P t=some (e,size)
class TStr (P:Program) (t:TypeId):Prop where
 eq:strB P t=true
class TBool (P:Program) (t:TypeId):Prop where
 eq:jg1 P t=true
class TIfc (P:Program) (t:TypeId):Prop where
 eq:ifcB P t=true
class TInt (P:Program) (t:TypeId) (k:outParam IntKind):Prop where
 eq:intK P t=some k
class TUnd (P:Program) (t:TypeId):Prop where
 eq:(P.underlying t).isSome=true
class TArr (P:Program) (t:TypeId) (n:outParam Nat) (e:outParam TypeId) (size:outParam Nat):Prop where
 eq:arrV P t=some (n,e,size)
class TMap (P:Program) (t:TypeId) (k e:outParam TypeId) (z:outParam Value):Prop where
 eq:rb P t=some (k,e)
 zero:ic P e=some z
 und:P.underlying t=some (.map k e)
class TZero (P:Program) (t:TypeId) (zs:outParam (List V)):Prop where
 eq:lb P t=some zs
class TZeroV (P:Program) (t:TypeId) (n bytes:outParam Nat):Prop where
 is:(ic P t).isSome=true
 ok:(ic P t).map (fun z=>z.cells.size)=some n
 bytes:P.bytesOf t=bytes
class TPlaces (P:Program) (t:TypeId) (pl:outParam (List (Nat×Nat))):Prop where
 eq:jii P t=some pl
class TZV (P:Program) (t:TypeId) (z:outParam Value):Prop where
 eq:ic P t=some z
class TEq (P:Program) (t:TypeId) (ks:outParam (List Lf)):Prop where
 eq:eqT P t=some ks
theorem jrg(t:TypeId){ks:List Lf}[h:TEq P t ks]:eqT P t=some ks:=h.eq
theorem jrr(t:TypeId){z:Value}[h:TZV P t z]:ic P t=some z:=h.eq
theorem qiq{t:TypeId}(h:strB P t=true):P.underlying t=some .string:=by
 unfold strB at h;split at h
 .assumption
 cases h
theorem jnh(t:TypeId)[h:TStr P t](x:List UInt8):keyT P t (.str x)=true:=by simp[keyT,qiq h.eq]
theorem jni(t:TypeId){k:IntKind}[h:TInt P t k](j:IntKind)(n:Int):keyT P t (.val (.int j n))=true:=by
 have h':=h.eq;unfold intK at h';split at h'
 .rename_i hu;simp[keyT,hu]
 cases h'
theorem jp9(s:ByteArray):pi (.string s)=true:=rfl
theorem jpa(k:IntKind)(n:Int):pi (.int k n)=true:=rfl
theorem jpb(b:Bool):pi (.bool b)=true:=rfl
theorem jn7:nf (.string ⟨#[]⟩)=.str []:=rfl
theorem jpc(k:IntKind)(n:Int):nf (.int k n)=.val (.int k n):=rfl
theorem jpd(b:Bool):nf (.bool b)=.val (.bool b):=rfl
theorem jok(t:TypeId)[h:TCell P t]:aggB P t=some false:=h.agg
theorem jqb(t:TypeId){n:Nat}[h:TAgg P t n]:aggB P t=some true:=h.agg
theorem sc:hasC []=false:=rfl
theorem jly(e:TypeId)(c:List Nat)(o:List (TypeId×List Nat)):hasC ((e,c)::o)=(c.any (fun i=>decide (1000000000<=i)) || hasC o):=rfl
theorem joj(p:Nat->Bool):List.any ([]:List Nat) p=false:=rfl
theorem jmj(p:Nat->Bool)(i:Nat)(c:List Nat):List.any (i::c) p=(p i || List.any c p):=rfl
theorem jos(i:Nat):jcr (.tmp i)=some i:=rfl
theorem jou(v:Value):jcr (.const v)=none:=rfl
theorem jot(f:FuncId):jcr (.func f)=none:=rfl
theorem vN_v(h:List (Nat×Blk))(x:V):vN h (some (.v x))=some x:=rfl
theorem vN_p(h:List (Nat×Blk))(id off:Nat):vN h (some (.p id off))=(nmOf (look id h)).map fun b=>.val (.pointer (some ⟨b,off,none⟩)):=rfl
theorem vN_m(h:List (Nat×Blk))(id:Nat):vN h (some (.m id))=(nmOf (look id h)).map fun b=>.val (.map (some b)):=rfl
theorem jn9(cs:List V)(n:Option Nat)(k:Option (TypeId×Nat×Nat)):nmOf (some (.var cs n k))=n:=rfl
theorem jna(es:List (V×V))(n:Option Nat):nmOf (some (.map es n))=n:=rfl
theorem jnb(cs:List V):nmOf (some (.con cs))=none:=rfl
theorem jr0(h:List (Nat×Blk))(id:Nat):mref h (some (.m id))=some id:=rfl
theorem jqz(h:List (Nat×Blk))(b:Nat):mref h (some (.v (.val (.map (some b)))))=dj b h:=rfl
theorem jm4(b:Nat):eh b []=none:=rfl
theorem jpj(b i:Nat)(cs:List V)(k:Option (TypeId×Nat×Nat))(r:List (Nat×Blk)):eh b ((i,.var cs none k)::r)=eh b r:=rfl
theorem jpk(b i:Nat)(es:List (V×V))(r:List (Nat×Blk)):eh b ((i,.map es none)::r)=eh b r:=rfl
theorem jpl(b i:Nat)(cs:List V)(r:List (Nat×Blk)):eh b ((i,.con cs)::r)=eh b r:=rfl
theorem jnr(b i q:Nat)(cs:List V)(k:Option (TypeId×Nat×Nat))(r:List (Nat×Blk)):eh b ((i,.var cs (some q) k)::r)=if b=q then some i else eh b r:=rfl
theorem jns(b i q:Nat)(es:List (V×V))(r:List (Nat×Blk)):eh b ((i,.map es (some q))::r)=if b=q then some i else eh b r:=rfl
theorem jr2(es:List (V×V))(n:Option Nat):mapB (some (.map es n))=some es:=rfl
theorem ml(t:TypeId)[h:TCell P t](c:V)(cs:List V):ldV P t (c::cs)=some c:=by simp[ldV,h.agg]
theorem ov(t:TypeId){n:Nat}[h:TAgg P t n](cs:List V):ldV P t cs=(cy n cs).map .agg:=by simp[ldV,h.agg,h.size]
theorem jre(s:TypeId)(f:Nat){off:Nat}{ft:TypeId}[h:TField P s f off ft]:fldV P s f=some (off,ft):=h.eq
theorem js6(t:TypeId){e:TypeId}{size:Nat}[h:TSlice P t e size]:slV P t=some (e,size):=h.eq
theorem jrp(t:TypeId){n:Nat}{e:TypeId}{size:Nat}[h:TArr P t n e size]:arrV P t=some (n,e,size):=h.eq
theorem jro(t:TypeId){e:TypeId}{size:Nat}[h:TSlice P t e size]:arrV P t=none:=by
 have h1:=h.eq;unfold slV at h1;unfold arrV;split at h1
 .rename_i hu;rw[hu]
 cases h1
theorem jqp(t:TypeId){k:IntKind}[h:TInt P t k]:slV P t=none:=by
 have h1:=h.eq;unfold intK at h1;unfold slV;split at h1
 .rename_i hu;rw[hu]
 cases h1
theorem jqo(t:TypeId)[h:TStr P t]:slV P t=none:=by
 have h1:=h.eq;unfold strB at h1;unfold slV;split at h1
 .rename_i hu;rw[hu]
 cases h1
theorem jq9(t:TypeId)[h:TStr P t]:arrV P t=none:=by
 have h1:=h.eq;unfold strB at h1;unfold arrV;split at h1
 .rename_i hu;rw[hu]
 cases h1
theorem jkl(σ:Sto):opv σ (.const (.map none))=some (.v (.val (.map none))):=rfl
theorem jn1(σ:Sto):opv σ (.const .nilFunc)=some (.v (.val .nilFunc)):=rfl
theorem jqj(t:TypeId)[h:TStr P t]:strB P t=true:=h.eq
theorem jpz(t:TypeId)[h:TBool P t]:jg1 P t=true:=h.eq
theorem jr5(t:TypeId)[h:TIfc P t]:ifcB P t=true:=h.eq
theorem jr4(t:TypeId){k:IntKind}[h:TInt P t k]:intK P t=some k:=h.eq
theorem jqh(t:TypeId)[h:TUnd P t]:(P.underlying t).isSome=true:=h.eq
theorem jr1(t:TypeId){k e:TypeId}{z:Value}[h:TMap P t k e z]:rb P t=some (k,e):=h.eq
theorem jom(t:TypeId){zs:List V}[h:TZero P t zs]:lb P t=some zs:=h.eq
theorem jmm(t:TypeId){n:Nat}[h:TZeroV P t n b]:(ic P t).isSome=true:=h.is
theorem jqd(t:TypeId){n:Nat}[h:TZeroV P t n b]:qw P t n=True:=vg h.ok
theorem jlp(t:TypeId){pl:List (Nat×Nat)}[h:TPlaces P t pl]:jii P t=some pl:=h.eq
theorem jl8(t:TypeId)[h:TCell P t]:P.cellsOf t=1:=h.size
theorem jmh(t:TypeId){n:Nat}[h:TAgg P t n]:P.cellsOf t=n:=h.size
theorem jlw(t:TypeId)[h:TCell P t]:(P.info? t).isSome=true:=h.info
theorem jnl(t:TypeId){n:Nat}[h:TAgg P t n]:(P.info? t).isSome=true:=h.info
theorem jof(t:TypeId){n:Nat}[h:TZeroV P t n b](m:Nat):th P t m=(m<=9223372036854775807/\m*b<=140737488355328):=by unfold th;rw[h.bytes];rfl
def awOk(P:Program)(T:Lay)(l rest:List Oper)(K:St->Prop):St->Prop:=fun st=>awO P T l rest st K
def awDk(P:Program)(T:Lay)(l rest:List Oper)(K:St->Prop):St->Prop:=fun st=>awD P T l rest st K
def awEk(P:Program)(T:Lay)(l rest:List Oper)(K:St->Prop):St->Prop:=fun st=>awE P T l rest st K
def awCk(P:Program)(T:Lay)(D:List Nat)(l rest:List Oper)(K:St->Prop):St->Prop:=fun st=>awC P T D l rest st K
theorem jq8(D:List Nat)(l:List Oper)(st:St)(K:St->Prop):awC P T D l [] st K=K st:=rfl
theorem joc(D:List Nat)(l:List Oper)(o:Oper)(rest:List Oper)(st:St)(K:St->Prop):awC P T D l (o::rest) st K=if effD D o=true then jfm P T o st (awCk P T D l rest K) else match gdV l o st.σ with
  |none=>False
  |some b=>gsel b (qz P T o st (awCk P T D l rest K)) (awCk P T D l rest K { st with t:=match o.dst with|none=>st.t|some d=>(d,.u)::st.t }):=rfl
theorem job(D:List Nat)(l rest:List Oper)(K:St->Prop)(n:Nat)(t:List (Nat×TV))(h:List (Nat×Blk))(o:List (TypeId×List Nat)):awCk P T D l rest K ⟨n,t,h,o⟩=awC P T D l rest ⟨n,t,h,o⟩ K:=rfl
theorem jq4(l:List Oper)(st:St)(K:St->Prop):awE P T l [] st K=K st:=rfl
theorem jo8(l:List Oper)(o:Oper)(rest:List Oper)(st:St)(K:St->Prop):awE P T l (o::rest) st K=match gdV l o st.σ with
  |none=>False
  |some b=>gsel b (jct P T o st (awEk P T l rest K)) (awEk P T l rest K { st with t:=match o.dst with|none=>st.t|some d=>(d,.u)::st.t }):=rfl
theorem jo7(l rest:List Oper)(K:St->Prop)(n:Nat)(t:List (Nat×TV))(h:List (Nat×Blk))(o:List (TypeId×List Nat)):awEk P T l rest K ⟨n,t,h,o⟩=awE P T l rest ⟨n,t,h,o⟩ K:=rfl
theorem jq2(l:List Oper)(st:St)(K:St->Prop):awO P T l [] st K=K st:=rfl
theorem jo5(l:List Oper)(o:Oper)(rest:List Oper)(st:St)(K:St->Prop):awO P T l (o::rest) st K=match gdV l o st.σ with
  |none=>False
  |some b=>gsel b (mz P T o st (awOk P T l rest K)) (putK st o.dst .u (awOk P T l rest K)):=rfl
theorem jo4(l rest:List Oper)(K:St->Prop)(n:Nat)(t:List (Nat×TV))(h:List (Nat×Blk))(o:List (TypeId×List Nat)):awOk P T l rest K ⟨n,t,h,o⟩=awO P T l rest ⟨n,t,h,o⟩ K:=rfl
theorem jq6(l:List Oper)(st:St)(K:St->Prop):awD P T l [] st K=K st:=rfl
theorem joa(l:List Oper)(o:Oper)(rest:List Oper)(st:St)(K:St->Prop):awD P T l (o::rest) st K=match gdV l o st.σ with
  |none=>False
  |some b=>gsel b (qz P T o st (awDk P T l rest K)) (awDk P T l rest K { st with t:=match o.dst with|none=>st.t|some d=>(d,.u)::st.t }):=rfl
theorem jo9(l rest:List Oper)(K:St->Prop)(n:Nat)(t:List (Nat×TV))(h:List (Nat×Blk))(o:List (TypeId×List Nat)):awDk P T l rest K ⟨n,t,h,o⟩=awD P T l rest ⟨n,t,h,o⟩ K:=rfl
theorem σ_mk(n:Nat)(t:List (Nat×TV))(h:List (Nat×Blk))(o:List (TypeId×List Nat))(i:Nat):(St.mk n t h o).σ i=look i t:=rfl
theorem jaj(σ:Sto)(i:Nat):opv σ (.tmp i)=σ i:=rfl
theorem jn0(σ:Sto)(f:FuncId):opv σ (.func f)=some (.v (.func f [])):=rfl
theorem jp6(σ:Sto)(k:IntKind)(n:Int):opv σ (.const (.int k n))=some (.v (.val (.int k n))):=rfl
theorem jn2(σ:Sto)(b:Bool):opv σ (.const (.bool b))=some (.v (.val (.bool b))):=rfl
theorem jp5(σ:Sto):opv σ (.const (.slice none 0 0))=some (.v (.val (.slice none 0 0))):=rfl
theorem jmz(σ:Sto):opv σ (.const .nilIface)=some (.v (.val .nilIface)):=rfl
theorem jp3(σ:Sto):opv σ (.const (.tuple #[]))=some (.v (.val (.tuple #[]))):=rfl
theorem jp4(σ:Sto)(l:List UInt8):opv σ (.const (.string ⟨l.toArray⟩))=some (.v (.str l)):=rfl
theorem bw(x:V):vOf (some (.v x))=some x:=rfl
theorem jrw(i j:Nat):vOf (some (.p i j))=none:=rfl
theorem jrv(i j n z:Nat):vOf (some (.s i j n z))=none:=rfl
theorem jrx(i:Nat):vOf (some (.m i))=none:=rfl
theorem nu_s(i j n z:Nat):nu (some (.s i j n z))=some (.s i j n z):=rfl
theorem jpw(id off size a b:Nat)(h:a<b):cutS id off size (a,b)=.s id (off+a*size) (b-a) size:=by simp only[cutS];rw[vd omq]
theorem jpv(id off size a b:Nat)(h:a=b):cutS id off size (a,b)=.v (.slice size []):=by simp only[cutS];rw[ve h]
theorem jpg(m:Nat)(k:IntKind)(n:Int)(h0:0<=n)(h:n<m):idxS m (.val (.int k n))=some n.toNat:=by simp only[idxS];rw[ve ⟨h0,h⟩]
theorem jpu(n:Nat):cutV n none none=some (0,n):=by simp[cutV]
theorem jpt(n:Nat)(k:IntKind)(b:Int)(h0:0<=b)(h:b<=n):cutV n none (some (.val (.int k b)))=some (0,b.toNat):=by simp[cutV,nums];omega
theorem jps(n:Nat)(k:IntKind)(a:Int)(h0:0<=a)(h:a<=n):cutV n (some (.val (.int k a))) none=some (a.toNat,n):=by simp[cutV,nums];omega
theorem jpr(n:Nat)(k k':IntKind)(a b:Int)(h0:0<=a)(h1:a<=b)(h:b<=n):cutV n (some (.val (.int k a))) (some (.val (.int k' b)))=some (a.toNat,b.toNat):=by simp[cutV,nums];omega
theorem nu_v(x:V):nu (some (.v x))=some (.v x):=rfl
theorem nu_p(i j:Nat):nu (some (.p i j))=some (.p i j):=rfl
theorem nu_m(i:Nat):nu (some (.m i))=some (.m i):=rfl
theorem qe(d:Nat):remo d []=[]:=rfl
theorem jol(i d:Nat):addo i d []=[]:=rfl
theorem jnu(i:Nat):delo i []=[]:=rfl
def awk(P:Program)(T:Lay)(y:Code)(Q:AX->St->Prop):St->Prop:=fun st=>aw P T y st Q
theorem jq1(y:Code)(Q:AX->St->Prop)(st:St):awk P T y Q st=aw P T y st Q:=rfl
def sqk(P:Program)(T:Lay)(y:Code)(Q:AX->St->Prop):AX->St->Prop
 |.nm,st=>aw P T y st Q
 |e,st=>Q e st
theorem jql(y:Code)(Q:AX->St->Prop)(st:St):sqk P T y Q .nm st=aw P T y st Q:=rfl
theorem jqm(y:Code)(Q:AX->St->Prop)(id:Nat)(st:St):sqk P T y Q (.ex id) st=Q (.ex id) st:=rfl
theorem jqk(y:Code)(Q:AX->St->Prop)(st:St):sqk P T y Q .rt st=Q .rt st:=rfl
theorem qyu(y:Code)(Q:AX->St->Prop):sqk P T y Q=sq (fun st'=>aw P T y st' Q) Q:=by
 funext e st;cases e<;>rfl
theorem qdq{y:Code}(h:aw P T x st (sqk P T y Q)):aw P T (.seq x y) st Q:=by rw[qyu] at h;exact qcj h
theorem quc(h:aw P T x st (blk id Q)):aw P T (.block id x) st Q:=qq2 h
theorem qy1(h:Q .nm st):aw P T .skip st Q:=qug h
theorem xa9(h:Q .rt st):aw P T .ret st Q:=qyd h
theorem qy7(h:Q (.ex id) st):aw P T (.exit id) st Q:=qui h
theorem qch{y:Code}{b:Bool}(hb:vOf (opv st.σ c)=some (.val (.bool b)))(h1:b=true->aw P T x st Q)(h2:b=false->aw P T y st Q):aw P T (.cond c x y) st Q:=qab hb h1 h2
theorem qpz{y:Code}(hb:vOf (opv st.σ c)=some (.val (.bool true)))(h1:aw P T x st Q):aw P T (.cond c x y) st Q:=qch hb (fun _=>h1) (fun h=>by cases h)
theorem qq0{y:Code}(hb:vOf (opv st.σ c)=some (.val (.bool false)))(h1:aw P T y st Q):aw P T (.cond c x y) st Q:=qch hb (fun h=>by cases h) (fun _=>h1)
def lpk(k:Kp)(R:α->Prop)(m:α->Nat)(S:α->St)(y:α):St->Prop:=fun st'=>∃n st'',n<m y/\cb k st'=some st''/\∃z,R z/\m z=n/\st''=S z
theorem qy5{x:Code}{Q:AX->St->Prop}(k:Kp)(R:α->Prop)(m:α->Nat)(S:α->St)(x0:α)(h0:cb k st=some (S x0))(hR:R x0) 
  (hr:∀y,R y->aw P T x (S y) (sq (lpk k R m S y) Q)):aw P T (.loop x) st Q:=by
 refine quh ⟨k,fun n st=>∃y,R y/\m y=n/\st=S y,m x0,⟨S x0,h0,x0,hR,rfl,rfl⟩,?_⟩;rintro n st ⟨y,hy,rfl,rfl⟩;exact hr y hy
theorem qmy{k:Kp}{R:α->Prop}{m:α->Nat}{S:α->St}{y:α}(z:α)(hk:cb k st=some (S z))(hR:R z)(hm:m z<m y):lpk k R m S y st:=
 ⟨m z,S z,hm,hk,z,hR,rfl,rfl⟩
theorem js4(A:St->Prop)(Q:AX->St->Prop)(st:St):sq A Q .nm st=A st:=rfl
theorem js5(A:St->Prop)(Q:AX->St->Prop)(id:Nat)(st:St):sq A Q (.ex id) st=Q (.ex id) st:=rfl
theorem js3(A:St->Prop)(Q:AX->St->Prop)(st:St):sq A Q .rt st=Q .rt st:=rfl
theorem jrl(id:Nat)(Q:AX->St->Prop)(st:St):blk id Q .nm st=Q .nm st:=rfl
theorem jrk(id:Nat)(Q:AX->St->Prop)(st:St):blk id Q .rt st=Q .rt st:=rfl
theorem jo1(id:Nat)(Q:AX->St->Prop)(st:St):blk id Q (.ex id) st=Q .nm st:=by simp[blk]
theorem jmi{i:Nat}(Q:AX->St->Prop)(st:St)(h:Nat.beq i id=false):blk id Q (.ex i) st=Q (.ex i) st:=by
 have:i≠id:=fun e=>by subst e;simp at h
 simp[blk,this]
theorem qv(hl:ops.toList=l)(h:awO P T l l st (Q .nm)):aw P T (.region id ops false) st Q:=by
 subst hl;exact qye h
theorem jrn[hm:Mixed P]{id:Nat}{n:Nat}{t:List (Nat×TV)}{h:List (Nat×Blk)}{o:List (TypeId×List Nat)}{h':List (Nat×Blk)}{Q:AX->St->Prop}(_hE:hasE ops.toList=false)(hl:ops.toList=l)(hB:Region.lexB .any ops=true)(hd:jb5 n o l=true) 
  (hh:frzR (St.mk n t h o).σ l h=h') (k:awD P T l l ⟨n,t,h',o⟩ (Q .nm)):aw P T (.region id ops true) ⟨n,t,h,o⟩ Q:=by
 subst hl hh;exact qyf hm.eq ⟨hB,hd,k⟩
theorem qy9[hm:Mixed P]{id:Nat}{lp ls:List Oper}{n:Nat}{t:List (Nat×TV)}{h:List (Nat×Blk)}{o:List (TypeId×List Nat)}{h':List (Nat×Blk)}{Q:AX->St->Prop}(_hE:hasE ops.toList=true)(hl:ops.toList=l)(hB:jjh .any ops (ph ops.toList)=true) 
  (hp:l.take (ph ops.toList)=lp) (hs:l.drop (ph ops.toList)=ls) (hd:jb5 n o lp=true) (hh:frzR (St.mk n t h o).σ l h=h') (hx:jfx l h'=true) (k:awE P T l lp ⟨n,t,h',o⟩ (awOk P T l ls (Q .nm))):aw P T (.region id ops true) ⟨n,t,h,o⟩ Q:=by
 subst hh;refine jq3 (qmh hm.eq hl hB ?_ hp hs hd hx k);have:=jyn ops.toList;exact zb4
def jaz:List Oper->List Oper
 |[]=>[]
 |o::r=>if uv o=true then [] else o::jaz r
def jb6:List Oper->List Oper
 |[]=>[]
 |o::r=>if uv o=true then o::r else jb6 r
theorem qm7:jaz []=[]:=rfl
theorem qit{o:Oper}: jaz (o::r)=if uv o=true then [] else o::jaz r:=rfl
theorem qnr:jb6 []=[]:=rfl
theorem qjs{o:Oper}: jb6 (o::r)=if uv o=true then o::r else jb6 r:=rfl
theorem ju9:∀l:List Oper,l.take (ph l)=jaz l
 |[]=>rfl
 |o::r=>by
  have:=ju9 r;simp only[ph,jaz];split
  .rfl
  rw[List.take_succ_cons,this]
theorem jv7:∀l:List Oper,l.drop (ph l)=jb6 l
 |[]=>rfl
 |o::r=>by
  have:=jv7 r;simp only[ph,jb6];split
  .rfl
  rw[xbz,this]
theorem qy8[hm:Mixed P]{id:Nat}{lp ls:List Oper}{n:Nat}{t:List (Nat×TV)}{h:List (Nat×Blk)}{o:List (TypeId×List Nat)}{h':List (Nat×Blk)}{Q:AX->St->Prop}(hE:hasE ops.toList=true)(hl:ops.toList=l)(hB:jjh .any ops (ph ops.toList)=true) 
  (hp:jaz l=lp) (hs:jb6 l=ls) (hd:jb5 n o lp=true) (hh:frzR (St.mk n t h o).σ l h=h') (hx:jfx l h'=true) (k:awE P T l lp ⟨n,t,h',o⟩ (awOk P T l ls (Q .nm))):aw P T (.region id ops true) ⟨n,t,h,o⟩ Q:=
 qy9 hE hl hB (by rw[hl,ju9];exact hp) (by rw[hl,jv7];exact hs) hd hh hx k
theorem jqy(k:Nat):(0<=(k:Int))=True:=vg (Int.natCast_nonneg k)
theorem joo(n:Int)(h1: -9223372036854775808<=n)(h2:n<=9223372036854775807):IntKind.i64.wrap n=n:=IntWalk.i64_in n ⟨h1,h2⟩
theorem ay(i j:Nat)(x:α)(r:List (Nat×α)):look i ((j,x)::r)=if i=j then some x else look i r:=ae i j x r
theorem jkb(k:Nat):((k:Int)).toNat=k:=Int.toNat_natCast k
theorem jsl(p:Prop):(True/\p)=p:=true_and p
theorem qb(d:Nat)(e:TypeId)(c:List Nat)(o:List (TypeId×List Nat)):remo d ((e,c)::o)=(e,c.filter fun i=> !Nat.beq i d)::remo d o:=rfl
theorem jmk(i d:Nat)(e:TypeId)(c:List Nat)(o:List (TypeId×List Nat)):addo i d ((e,c)::o)=(if c.contains i=true then(e,d::c) else(e,c))::addo i d o:=rfl
theorem jmd(i:Nat)(e:TypeId)(c:List Nat)(o:List (TypeId×List Nat)):delo i ((e,c)::o)=(if c.contains i=true then(e,[]) else(e,c))::delo i o:=rfl
theorem jip(d:Nat):List.filter (fun i=> !Nat.beq i d) []=[]:=rfl
theorem ji4(d j:Nat)(c:List Nat):List.filter (fun i=> !Nat.beq i d) (j::c)=if j=d then List.filter (fun i=> !Nat.beq i d) c else j::List.filter (fun i=> !Nat.beq i d) c:=by
 by_cases h:j=d
 .subst h;simp
 have:Nat.beq j d=false:=by
  cases hb:Nat.beq j d
  .rfl
  exact absurd (xc3 hb) h
 simp[this,h]
theorem qo(i:Nat):List.contains ([]:List Nat) i=false:=rfl
theorem qi(i j:Nat)(c:List Nat):List.contains (j::c) i=(i == j || List.contains c i):=rfl
theorem jmn(n:Int)(h1:0<=n)(h2:n<=255):IntKind.u8.wrap n=n:=IntWalk.u8_in n ⟨h1,h2⟩
theorem jbw(k m:Nat):((k:Int)).tdiv (m:Int)=((k / m:Nat):Int):=by simp[Int.tdiv_eq_ediv_of_nonneg]
theorem ol(k m:Nat):((k:Int)).tmod (m:Int)=((k % m:Nat):Int):=by simp[Int.tmod_eq_emod_of_nonneg]
theorem jow(k:Nat):((k:Int)).tdiv 10=((k / 10:Nat):Int):=jbw k 10
theorem jov(k:Nat):((k:Int)).tmod 10=((k % 10:Nat):Int):=ol k 10
theorem jqi:((10:Int)=0)=False:=by simp
theorem jp8(k:IntKind)(n:Int):(Value.int k n).oneCell'=true:=rfl
theorem jn6(b:Bool):(Value.bool b).oneCell'=true:=rfl
theorem jp7:(Value.slice none 0 0).oneCell'=true:=rfl
theorem jn4:Value.nilIface.oneCell'=true:=rfl
theorem nn_t(a:Int)(h:0<=a):(0<=a)=True:=vg h
theorem joq(k:Nat):((k:Int)+1).toNat=k+1:=omq
theorem jor(k:Nat):((k:Int)-1).toNat=k-1:=omq
theorem jnk{α:Sort _}{a:Nat}[inst:Decidable (a<=b)](x y:α)(h:a<=b): @ite α (a<=b) inst x y=x:=ve h
theorem b_ft:(false == true)=false:=rfl
theorem b_tf:(true == false)=false:=rfl
theorem jnv(a b:Int)(h:a<b):decide (a<b)=true:=by simpa using h
theorem jnw(a b:Int)(h:b<=a):decide (a<b)=false:=by simpa using h
theorem jnx(a b:Int)(h:a<=b):decide (a<=b)=true:=by simpa using h
theorem jny(a b:Int)(h:b<a):decide (a<=b)=false:=by simpa using h
theorem jnz(a b:Int)(h:a=b):decide (a=b)=true:=by simpa using h
theorem jo0(a b:Int)(h:a≠b):decide (a=b)=false:=by simpa using h
@[congr] theorem awO_cg{l rest : List Oper}{st st' : St}{K : St -> Prop}(h : st = st'): awO P T l rest st K = awO P T l rest st' K := by rw [h]
@[congr] theorem awD_cg{l rest : List Oper}{st st' : St}{K : St -> Prop}(h : st = st'): awD P T l rest st K = awD P T l rest st' K := by rw [h]
@[congr] theorem aw_cg{c : Code}{st st' : St}{Q : AX -> St -> Prop}(h : st = st'): aw P T c st Q = aw P T c st' Q := by rw [h]
@[congr] theorem awOk_cg{l rest : List Oper}{K : St -> Prop}: awOk P T l rest K = awOk P T l rest K := rfl
@[congr] theorem awE_cg{l rest : List Oper}{st st' : St}{K : St -> Prop}(h : st = st'): awE P T l rest st K = awE P T l rest st' K := by rw [h]
@[congr] theorem awC_cg{D : List Nat}{l rest : List Oper}{st st' : St}{K : St -> Prop}(h : st = st'): awC P T D l rest st K = awC P T D l rest st' K := by rw [h]
@[congr] theorem awCk_cg{D : List Nat}{l rest : List Oper}{K : St -> Prop}: awCk P T D l rest K = awCk P T D l rest K := rfl
@[congr] theorem awEk_cg{l rest : List Oper}{K : St -> Prop}: awEk P T l rest K = awEk P T l rest K := rfl
@[congr] theorem awDk_cg{l rest : List Oper}{K : St -> Prop}: awDk P T l rest K = awDk P T l rest K := rfl
@[congr] theorem xak{g : FuncId}{vs cap : List V}{st : St}{d : Option Tmp}{K : St -> Prop}: CallX P T g vs cap st d K = CallX P T g vs cap st d K := rfl
@[congr] theorem awk_cg{y : Code}{Q : AX -> St -> Prop}: awk P T y Q = awk P T y Q := rfl
@[congr] theorem sqk_cg{y : Code}{Q : AX -> St -> Prop}: sqk P T y Q = sqk P T y Q := rfl
@[congr] theorem sq_cg{A : St -> Prop}{Q : AX -> St -> Prop}: sq A Q = sq A Q := rfl
@[congr] theorem blk_cg{id : Nat}{Q : AX -> St -> Prop}: blk id Q = blk id Q := rfl
theorem runS {p q r:Prop} (hr:r) (h:q) (e:r->q->p:=by
    intro hr h
    (simp (config := {maxSteps := 1000000,implicitDefEqProofs := false}) (disch := (first | omega | (simp only [vr,List.length_cons,List.length_nil,xw,xq,vm]; omega))) only [↓jo5,jq2,↓joa,jq6,↓jo8,jq4,jct,↓joc,jq8,effD,jfm,↓oh,↓tl,dp,mz,qz,gdV,movK,putK,retK,retD,retM,evK,jo4,jo9,jo7,job,jq1,
          jaj,jn0,jp6,jn2,jp5,jmz,jp3,jp4,jkl,jn1,bw,jrw,jrv,jrx,nu_v,nu_p,nu_m,nu_s,jg,jpw,jpv,jpg,jpu,jpt,jps,jpr,jcl,rh,re,σ_mk,nt,sf,sx,jry,sy,js0,jrz,jmx,je5,sg,jr,qe,jol,jnu,qb,jmk,jmd,jip,ji4,qo,qi,cv,ra,appK,appL,appS,appX,
          ay,dk,seth,ba,ldK,ldO,stO,dh,sc,jly,joj,jmj,jos,jou,jot,vN_v,vN_p,vN_m,jn9,jna,jnb,jr0,jqz,dj,jm4,jpj,jpk,jpl,jnr,jns,mapN,jr2,jok,jqb,plc,pid,pof,mpc,bg,setb,lk,bk,ep,remK,fo,Blk.wn,Blk.nm,nam,Nat.reduceDiv,Nat.reduceMod,Nat.reduceEqDiff,Nat.reduceBEq,Nat.reduceBNe,↓reduceIte,Nat.reduceAdd,Nat.reduceMul,Nat.reduceLT,Nat.reduceLeDiff,Nat.reduceSub,jsl,xb8,xb3,xam,xav,xc7,xar,yz,xau,Option.isSome_none,yw,reduceCtorEq,
          jql,jqm,jqk,js4,js5,js3,jrl,jrk,jo1,jmi,
          evq,evb,behind,memV,ml,ov,cy,jre,js6,jqp,jqo,jd7,bytB,mkK,jrp,jro,jq9,jqj,jpz,jr5,jr4,jqh,jr1,jom,jmm,jqd,jof,jlp,jrr,jrg,mapE,gm,eqC,nilK,jnh,jni,jp9,jpa,jpb,jn7,jpc,jpd,Option.getD_none,Option.getD_some,jl8,jmh,jlw,jnl,
          idxV,bytV,minV,binV,jqq,jd2,jcs,eqOp,jfz,capV,ki,lenV,jcb,optV,vsOf,mu,bsV,pq,oneV,V.one,V.cells,jsa,mq,jk,frzR,frzC,frz1,frzB,
          xbz,xas,List.take_succ_cons,List.take_zero,List.length_cons,List.length_nil,List.nil_append,List.cons_append,xd,Option.map_some,Option.map_none,Option.bind_some,Option.bind_none,vk,Option.isSome_some,
          List.getElem?_cons_zero,List.getElem?_cons_succ,xe,vm,jqy,jkb,b_ft,b_tf,nn_t,jnk,joq,jor,jp8,jn6,jp7,jn4,jmn,jow,jov,jqi,xbt,eq_self,xy,xf,Int.reduceToNat,Int.reduceLE,Int.reduceLT,Int.reduceEq,Int.reduceNeg,xbp,Nat.one_mul,xl,Nat.add_zero,joo,jnv,jnw,jnx,jny,jnz,jo0,xbr,xc8,xbs,xcw,cond_true,cond_false,xb1,hr])
    exact h):p:=e hr h
theorem runC {p q:Prop} (h:q) (e:q->p:=by
    intro h
    (first
      |refine qdq ?_
      |refine quc ?_
      |refine qy1 ?_
      |refine xa9 ?_
      |refine qy7 ?_
      |with_reducible refine ai (by clear h g;(first|omega|(simp only[vr,List.length_cons,List.length_nil,xw,xq,vm];omega))) ?_
      | (refine qpz ?_ ?_
         . (simp only[jaj,σ_mk,ay,Nat.reduceEqDiff,↓reduceIte,bw];done))
      | (refine qq0 ?_ ?_
         . (simp only[jaj,σ_mk,ay,Nat.reduceEqDiff,↓reduceIte,bw];done)))
    exact h):p:=e h
theorem runR {p q:Prop} (h:q) (e:q->p:=by
  intro h
  (first
   |refine qy8 rfq rfl krq (by(simp only[qit,qm7,uv,yw,eq_self,xy,xf])<;>exact rfl) (by(simp only[qjs,qnr,uv,yw,eq_self,xy,xf])<;>exact rfl) rfq (by(try simp only[frzR,frzC,frz1,frzB,jaj,σ_mk,ay,dk,Nat.reduceEqDiff,↓reduceIte])<;>exact rfl) rfq ?_
   |refine jrn rfq rfl krq rfq (by(try simp only[frzR,frzC,frz1,frzB,jaj,σ_mk,ay,dk,Nat.reduceEqDiff,↓reduceIte])<;>exact rfl) ?_)
  exact h):p:=e h
theorem run {p q:Prop} (h:q) (e:q->p:=by
  intro g
  repeat (first
   |with_reducible refine jaw ?_
   |with_reducible refine jax ?_
   |refine runC ?_
   |refine qv rfl ?_
   |refine runR ?_
   |refine runS trivial ?_)
  exact g):p:=e h
theorem runW {p q r:Prop} (hr:r) (h:q) (e:r->q->p:=by
  intro hr g
  repeat (first
   |with_reducible refine jaw ?_
   |with_reducible refine jax ?_
   |refine runC ?_
   |refine qv rfl ?_
   |refine runR ?_
   |refine runS hr ?_)
  exact g):p:=e hr h
theorem runB {p q r:Prop} (hr:r) (h:q) (e:r->q->p:=by
  intro hr g
  repeat (first
   |refine runC ?_
   |refine qv rfl ?_
   |refine runR ?_
   |refine runS hr ?_)
  exact g):p:=e hr h
theorem runD {p q r:Prop} (hr:r) (h:q) (e:r->q->p:=by
  intro hr g
  repeat (first
   |refine runC ?_
   |refine qv rfl ?_
   |refine runS hr ?_)
  exact g):p:=e hr h
theorem loop{x:Code}{st:St}{Q:AX->St->Prop}{α:Type}(k:Kp)(R:α->Prop)(m:α->Nat)(S:α->St)(x0:α)(hR:R x0) 
  (hr:∀y,R y->aw P T x (S y) (sq (lpk k R m S y) Q)) (h0:cb k st=some (S x0):=by
   first
   |rfl
   |(simp only[cb,ew,jx,nl,nk,ay,dk,Nat.reduceEqDiff,↓reduceIte,cv,qi,qo,Nat.reduceBEq,List.all_nil,qe,qb,xb3,xb8,xb1,okK,List.all_cons,ew,xam,xby,cond_true,xbr,Nat.reduceLT];rfl)):aw P T (.loop x) st Q:=qy5 k R m S x0 h0 hR hr
abbrev cntS(n kk:Nat)(t0:List (Nat×TV))(h0:List (Nat×Blk))(k:Nat):St:=⟨n,(kk,.v (.val (.int .i64 (k:Int))))::t0,h0,[]⟩
theorem dq{x:Code}{st:St}{Q:AX->St->Prop}{n kk:Nat}{t0:List (Nat×TV)}{h0:List (Nat×Blk)}(kp:Kp)(N:Nat)(R:Nat->Prop)(hR:R 0) 
  (hr:∀k:Nat,k<=N/\R k->aw P T x (cntS n kk t0 h0 k) (sq (lpk kp (fun k=>k<=N/\R k) (fun k=>N-k) (cntS n kk t0 h0) k) Q)) (hk:cb kp st=some (cntS n kk t0 h0 0):=by
   first
   |rfl
   |(simp only[cb,ew,jx,nl,nk,ay,dk,Nat.reduceEqDiff,↓reduceIte,cv,qi,qo,Nat.reduceBEq,List.all_nil,qe,qb,xb3,xb8,xb1,okK,List.all_cons,ew,xam,xby,cond_true,xbr,Nat.reduceLT];rfl)):aw P T (.loop x) st Q:=loop kp (fun k=>k<=N/\R k) (fun k=>N-k) (cntS n kk t0 h0) 0 ⟨vj _,hR⟩ hr hk
theorem dl{x:Code}{st:St}{Q:AX->St->Prop}{n:Nat}{t0:List (Nat×TV)}{h0:List (Nat×Blk)}(kp:Kp)(R:α->Prop)(m:α->Nat)(v:α->List (Nat×TV))(x0:α)(hR:R x0) 
  (hr:∀y,R y->aw P T x ⟨n,v y++t0,h0,[]⟩ (sq (lpk kp R m (fun y=>⟨n,v y++t0,h0,[]⟩) y) Q)) (hk:cb kp st=some ⟨n,v x0++t0,h0,[]⟩:=by
   first
   |rfl
   |(simp only[cb,ew,jx,nl,nk,ay,dk,Nat.reduceEqDiff,↓reduceIte,cv,qi,qo,Nat.reduceBEq,List.all_nil,qe,qb,xb3,xb8,xb1,okK,List.all_cons,ew,xam,xby,cond_true,xbr,Nat.reduceLT];rfl)):aw P T (.loop x) st Q:=loop kp R m (fun y=>⟨n,v y++t0,h0,[]⟩) x0 hR hr hk
theorem round {α : Type} {k : Kp} {R : α -> Prop} {m : α -> Nat} {S : α -> St} {y : α} {st : St} (z : α) (hR : R z) (hm : m z < m y) (hk : cb k st = some (S z) := by
      first
      |rfl
      |(simp only[cb,ew,jx,nl,nk,ay,dk,Nat.reduceEqDiff,↓reduceIte,cv,qi,qo,Nat.reduceBEq,List.all_nil,qe,qb,xb3,xb8,xb1,okK,List.all_cons,ew,xam,xby,cond_true,xbr,Nat.reduceLT];rfl)):lpk k R m S y st:=qmy z hk hR hm
theorem ixPf {p:Prop} (h:p:=by
  refine run ?_;refine dq ⟨[8,0,1,7],[],[],[]⟩ l.length (fun k=>∀e∈l.take k,p e=false) smq ?_;rintro k ⟨hk,hall⟩;by_cases hlt:k<l.length
  .obtain⟨x,hx,-,hm⟩:=af hlt;refine rcW hx (hp x hm) ?_;cases hpc:p x
   .exact zbj
   refine run ?_;exact fin (bc (uu hall hx hpc))
  .refine run ?_
   exact fin (bc (jan hall hlt))):p:=h
theorem fe{x:ResultVar}(h:resV P st x=some v):resS P st [x]=some v:=by simp[resS,resL,h]
theorem pf{x:ResultVar}(h:resV P st x=some v)(h':resV P st y=some u):resS P st [x,y]=some (.tup [v,u]):=by simp[resS,resL,h,h']
theorem sz{z:V}{x q:ResultVar}(h:resV P st x=some v)(h':resV P st y=some u)(h'':resV P st q=some z):resS P st [x,y,q]=some (.tup [v,u,z]):=by simp[resS,resL,h,h',h'']
theorem fin {rs : List ResultVar} {r r' : V} {st : St} (hr : r' = r) (h : resS P st rs = some r' := by
      first
      |exact fe rfl
      |exact pf rfl rfl
      |exact sz rfl rfl rfl
      |(refine fe ?_;simp only[resV,σ_mk,ay,Nat.reduceEqDiff,↓reduceIte,bw];done)
      |(refine pf ?_ ?_<;>(simp only[resV,σ_mk,ay,Nat.reduceEqDiff,↓reduceIte,bw];done))
      |(refine sz ?_ ?_ ?_<;>(simp only[resV,σ_mk,ay,Nat.reduceEqDiff,↓reduceIte,bw];done))
      |(refine fe ?_;simp only[resV,σ_mk,ay,Nat.reduceEqDiff,↓reduceIte,bw];rfl)
      |(refine pf ?_ ?_<;>(simp only[resV,σ_mk,ay,Nat.reduceEqDiff,↓reduceIte,bw];rfl))
      |(refine sz ?_ ?_ ?_<;>(simp only[resV,σ_mk,ay,Nat.reduceEqDiff,↓reduceIte,bw];rfl))):nq P rs r .rt st:=.inl ⟨r',h,.of hr⟩
theorem finW {rs : List ResultVar} {r r' : V} {st : St} (hr : Wk r' r) (h : resS P st rs = some r' := by
      first
      |exact fe rfl
      |exact pf rfl rfl
      |exact sz rfl rfl rfl
      |(refine fe ?_;simp only[resV,σ_mk,ay,Nat.reduceEqDiff,↓reduceIte,bw];done)
      |(refine pf ?_ ?_<;>(simp only[resV,σ_mk,ay,Nat.reduceEqDiff,↓reduceIte,bw];done))
      |(refine sz ?_ ?_ ?_<;>(simp only[resV,σ_mk,ay,Nat.reduceEqDiff,↓reduceIte,bw];done))
      |(refine fe ?_;simp only[resV,σ_mk,ay,Nat.reduceEqDiff,↓reduceIte,bw];rfl)
      |(refine pf ?_ ?_<;>(simp only[resV,σ_mk,ay,Nat.reduceEqDiff,↓reduceIte,bw];rfl))
      |(refine sz ?_ ?_ ?_<;>(simp only[resV,σ_mk,ay,Nat.reduceEqDiff,↓reduceIte,bw];rfl))):nq P rs r .rt st:=.inl ⟨r',h,hr⟩
theorem finO {t : Nat} {e : TypeId} {r r' : V} {st : St} (hr : Wk r' r) (h : resS P st [.tmp t] = some r' := by
      first
      |exact fe rfl
      |exact pf rfl rfl
      |exact sz rfl rfl rfl
      |(refine fe ?_;simp only[resV,σ_mk,ay,Nat.reduceEqDiff,↓reduceIte,bw];done)
      |(refine pf ?_ ?_<;>(simp only[resV,σ_mk,ay,Nat.reduceEqDiff,↓reduceIte,bw];done))
      |(refine sz ?_ ?_ ?_<;>(simp only[resV,σ_mk,ay,Nat.reduceEqDiff,↓reduceIte,bw];done))
      |(refine fe ?_;simp only[resV,σ_mk,ay,Nat.reduceEqDiff,↓reduceIte,bw];rfl)
      |(refine pf ?_ ?_<;>(simp only[resV,σ_mk,ay,Nat.reduceEqDiff,↓reduceIte,bw];rfl))
      |(refine sz ?_ ?_ ?_<;>(simp only[resV,σ_mk,ay,Nat.reduceEqDiff,↓reduceIte,bw];rfl)))
    (h2:vOf (st.σ t)=some (.val (.slice none 0 0))\/cv t st.o=some e:=by
      first
      |(left;simp only[σ_mk,ay,Nat.reduceEqDiff,↓reduceIte,bw];done)
      |(right;simp only[cv,qi,qo,qe,qb,jip,ji4,Nat.reduceBEq,xb3,xb8,xam,xav,xb1,↓reduceIte];done)
      |(right;rfl)):qdf P [.tmp t] e r .rt st:=⟨⟨r',h,hr⟩,h2⟩
theorem callW{args':List V}{r:V}{k:V->Option TypeId->Prop}{kn:Nat->List (List V)->Prop}{m:Prop}(h:Den P T g args r)(hw:Wks args' args)(hk:k r none):Call P T g args' k kn m:=call (h.wk hw) hk
theorem qwq{t:Nat}(h:look t st.t=some (.v v))(hv:∀r n cap,v≠ .val (.slice (some ⟨r,0,none⟩) n cap)):ig t st=st:=by
 unfold ig;rw[h];split
 .rename_i he;cases he
 .rename_i he;cases he
 .rename_i he;cases he;exact absurd rfl (hv _ _ _)
 rfl
theorem qbj{t off n size:Nat}(h1:look t st.t=some (.s id off n size))(h2:look id st.h=some (.var cs))(h3:off+n*size<=cs.length):
  ig t st= { st with t:=(t,.v (.slice size (be off n size cs)))::st.t,h:=frz1 id st.h,o:=remo t st.o } := by
 unfold ig;rw[h1];simp only;rw[h2];simp only;rw[ve h3]
theorem qed{t off n size:Nat}{r:V}(hr:Wk (.slice size (be off n size cs)) r)(h3:off+n*size<=cs.length)(h1:look t st.t=some (.s id off n size):=by rfl)(h2:look id st.h=some (.var cs):=by rfl):nq P [.tmp t] r .rt st:=by
 refine .inr ⟨_,?_,hr⟩
 show resS P (ig t st) _=_
 rw[qbj h1 h2 h3];exact zcy
theorem jd4{t u off n size:Nat}{r:V}(hr:Wk (.tup [.slice size (be off n size cs),v]) r)(h3:off+n*size<=cs.length)(h1:look t st.t=some (.s id off n size):=by rfl)(h2:look id st.h=some (.var cs):=by rfl) 
  (hu:look u st.t=some (.v v):=by rfl) (hn:u≠t:=by decide) (hv:∀r n cap,v≠ .val (.slice (some ⟨r,0,none⟩) n cap):=by intro _ _ _ h;cases h):nq P [.tmp t,.tmp u] r .rt st:=by
 refine .inr ⟨_,?_,hr⟩
 show resS P (ig u (ig t st)) _=_
 rw[qbj h1 h2 h3,qwq (v:=v) (by rw[ay,vd hn];exact hu) hv];exact pf (by simp only[resV,σ_mk,ay,↓reduceIte,bw]) (by simp only[resV,σ_mk];rw[ay,vd hn,hu];rfl)
theorem finN{t:Nat}{size:Nat}(cs:List V)(h:st.σ t=some (.s id 0 es.length size))(h2:look id st.h=some (.var (es.flatten++cs))):jrc [.tmp t] size es .rt st:=.inl ⟨id,cs,h,h2⟩
theorem jd3{t:Nat}{size:Nat}(h:vOf (st.σ t)=some v)(hr:Wk v (.slice size [])):jrc [.tmp t] size [] .rt st:=.inr ⟨rfl,v,h,hr⟩
theorem ja{rs:List ResultVar}{r r':TV}(h3:WkT r' r)(h:look 999999 st.h=some (.var cs'):=by rfl)(h2:resT P st rs=some r':=by rfl)(h4:only 999999 [r]=true:=by rfl):jrd P rs cs' r .rt st:=⟨⟨[],by rw[xd];exact h⟩,r',h2,h3,h4⟩
theorem pu{size:Nat}{k:V->Option TypeId->Prop}{st:St}{d:Nat}{K:St->Prop}{m:Prop}(h:DenN P T g args size es) 
  (h0:es=[]->K { st with t:=(d,.v (.slice size []))::st.t,o:=remo d st.o }) (h1:es≠[]->K { st with t:=(d,.s d 0 es.length size)::st.t,h:=(d,.var es.flatten)::st.h,o:=remo d st.o })
  (ha:d<st.n:=by first|decide|simp) (hb:look d st.h=none:=by first|rfl|simp[ae,look]):Call P T g args k (newK st (some d) K) m:=.inr (.inr (.inl ⟨size,es,h,ha,hb,h0,h1⟩))
theorem rc {g:FuncId} {args:List V} {r:V} {k:V->Option TypeId->Prop} {kn:Nat->List (List V)->Prop} {m p:Prop} (h:Den P T g args r) (hk:k r none) (e:Call P T g args k kn m->p:=by
  intro z;refine run ?_
  exact z):p:=e (call h hk)
theorem rcW {g:FuncId} {args:List V} {r:V} {k:V->Option TypeId->Prop} {kn:Nat->List (List V)->Prop} {m p q:Prop} (hq:q) (h:Den P T g args r) (hk:k r none) (e:q->Call P T g args k kn m->p:=by
  intro hq z;refine runW hq ?_
  exact z):p:=e hq (call h hk)
theorem bc{a b:Int}(h:a=b):V.val (.int .i64 a)=V.val (.int .i64 b):=by rw[h]
theorem ah{a b:Bool}(h:a=b):V.val (.bool a)=V.val (.bool b):=by rw[h]
theorem jb4 {x : ResultVar} {r r' : V} {st : St} (hr : Wk r' r) (h : resS P st [x] = some r' := by
      refine fe ?_;(first|(simp only[resV,σ_mk,ay,Nat.reduceEqDiff,↓reduceIte,bw,behind,memV,Option.bind_some,xas,ov,ml,cy,Option.map_some];done)|(simp only[resV,σ_mk,ay,Nat.reduceEqDiff,↓reduceIte,bw,behind,memV,Option.bind_some,xas,ov,ml,cy,Option.map_some];rfl))):nq P [x] r .rt st:=.inl ⟨r',h,hr⟩
theorem jb3{x:ResultVar}{r a b:V}(hr:Wk (.tup [a,b]) r)(h:resV P st x=some a:=by(first|(simp only[resV,σ_mk,ay,Nat.reduceEqDiff,↓reduceIte,bw,behind,memV,Option.bind_some,xas,ov,ml,cy,Option.map_some];done)|(simp only[resV,σ_mk,ay,Nat.reduceEqDiff,↓reduceIte,bw,behind,memV,Option.bind_some,xas,ov,ml,cy,Option.map_some];rfl)))(h':resV P st y=some b:=by(first|(simp only[resV,σ_mk,ay,Nat.reduceEqDiff,↓reduceIte,bw,behind,memV,Option.bind_some,xas,ov,ml,cy,Option.map_some];done)|(simp only[resV,σ_mk,ay,Nat.reduceEqDiff,↓reduceIte,bw,behind,memV,Option.bind_some,xas,ov,ml,cy,Option.map_some];rfl))):
  nq P [x,y] r .rt st:=.inl ⟨_,pf h h',hr⟩
theorem finMC{x:Tmp}{t:TypeId}{r':V}(h3:Wk r' v)(h:look 999999 st.h=some (.var cs'):=by rfl)(h2:resV P st (.cell x t)=some r':=by(first|(simp only[resV,σ_mk,ay,Nat.reduceEqDiff,↓reduceIte,bw,behind,memV,Option.bind_some,xas,ov,ml,cy,Option.map_some];done)|(simp only[resV,σ_mk,ay,Nat.reduceEqDiff,↓reduceIte,bw,behind,memV,Option.bind_some,xas,ov,ml,cy,Option.map_some];rfl))):
  jrd P [.cell x t] cs' (.v v) .rt st:=
 ⟨⟨[],by rw[xd];exact h⟩,.v r',by show (resS P st [.cell x t]).map _=_;rw[fe h2];rfl,.v h3,rfl⟩
theorem qwr{t:Nat}{es:List (V×V)}(h1:look t st.t=some (.m id))(h2:look id st.h=some (.map es)):
  ig t st= { st with t:=(t,.v (.map (es.map (·.1)) (es.map (·.2))))::st.t,h:=seth id (.con []) st.h,o:=remo t st.o } := by
 unfold ig;rw[h1];simp only;rw[h2]
theorem qec{t:Nat}{es:List (V×V)}{r:V}(hr:Wk (.map (es.map (·.1)) (es.map (·.2))) r)(h1:look t st.t=some (.m id):=by rfl)(h2:look id st.h=some (.map es):=by rfl):nq P [.tmp t] r .rt st:=by
 refine .inr ⟨_,?_,hr⟩
 show resS P (ig t st) _=_
 rw[qwr h1 h2];exact zcy
end Go.Ab
