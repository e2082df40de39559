/- A part of this claim. -/
import Derived.Test.YtfbbflhnhmphiaaGreatDoorBaC
import Derived.Sort.Grow
import Derived.RangeFuncNested
namespace Go.Ab
open Go.RowKit
variable {P : Program}{T : Lay}
variable {rs:List ResultVar}{st:St}{r:TV}{r':TV}
theorem WkB.self(cs:List V)(nm:Option Nat)(kk:Option (TypeId×Nat×Nat)):WkB (.var cs nm kk) (.var cs nm kk):=by
 have:=WkB.var (cs0:=cs) (cs:=cs) (ex:=[]) (nm:=nm) (nm':=nm) (kk:=kk) (kk':=kk) (Wks.refl cs) (.inr rfl) (.inr rfl)
 rwa [xd] at this
theorem finS{bs':List (Nat×Blk)}(hB:∀x∈bs',∃b,look x.1 st.h=some b/\WkB b x.2)(h3:WkT r' r)(h2:resT P st rs=some r':=by rfl):jj3 P rs bs' [] r .rt st:=⟨hB,trivial,r',h2,h3⟩
theorem kf{i:Nat}{cs:List V}{nm:Option Nat}{kk:Option (TypeId×Nat×Nat)}(h3:WkT r' r)(hB:look i st.h=some (.var cs nm kk):=by rfl)(h2:resT P st rs=some r':=by rfl):jj3 P rs [(i,.var cs nm kk)] [] r .rt st:=
 finS (fun x hx=>by simp only[xn] at hx;subst hx;exact⟨_,hB,WkB.self cs nm kk⟩) h3 h2
end Go.Ab
namespace Go.Ab
open Go.RowKit Go.Proofs
variable {P : Program}{T : Lay}
variable {nm:Option Nat}{cs:List V}{st:St}{e:TypeId}{α:Type}{id:Nat}{n:Nat}{t:Nat}{r:Nat}{cap:Nat}{size:Nat}
def noMk:List Oper->Bool
 |[]=>true
 |o::r=>(match o.op with
  |.makeFunc .. => false
  |_=>true) && noMk r
theorem qy4{ops:Array Oper}{l:List Oper}{Q:AX->St->Prop}(hl:ops.toList=l)(_hn:noMk l=true)(h:awO P T l l st (Q .nm)):aw P T (.region id ops false) st Q:=qv hl h
theorem jjb {p q r:Prop} (hr:r) (h:q) (e:r->q->p:=by
  intro hr g
  repeat (first
   |with_reducible refine jaw ?_
   |with_reducible refine jax ?_
   |refine runC ?_
   |refine qy4 rfl rfl ?_
   |refine runR ?_
   |refine runS hr ?_)
  exact g):p:=e hr h
theorem jte{w:World}{b n:Nat}{zs:Array Int}{os:Array Obj}{q:Nat}(hq:q<w.heap.size):
  (Sort.grow (Sort.putRow (Value.int .i64) (Sort.ahead w n) b 0 zs) os).heap[q]?=if b=q then(w.heap[q]?).map (Sort.onCells (Sort.putCells (Value.int .i64) 0 zs)) else w.heap[q]? := by
 show ((w.heap.modify b _)++os)[q]?=_
 rw[xde (by simpa using hq),Array.getElem?_modify]
def lu(l:List Int):List Int:=l.mergeSort fun x y=>decide (x<=y)
theorem jlk(l:List Int):(lu l).length=l.length:=List.length_mergeSort l
theorem ji0{i j:Nat}{x y:α}(h:look i [(j,x)]=some y):i=j/\y=x:=by
 rw[ae] at h;split at h
 .cases h;exact⟨‹_›,rfl⟩
 cases h
theorem qpd {f : FuncId} (hE : Enters P f) (hc : ∀ (blk cap : Nat) (zs : List Int) (w : World),Sort.Holds (Value.int .i64) w blk 0 zs.toArray -> blk < w.heap.size -> zs.length < 4611686018427387904 ->
      Calls P f #[.slice (some ⟨blk,0,none⟩) zs.length cap] w fun e w'=>e=.returned (.tuple #[])/\∃n os,w'=Sort.grow (Sort.putRow (Value.int .i64) (Sort.ahead w n) blk 0 (zs.mergeSort fun x y=>decide (x<=y)).toArray) os)
    (zs:List Int) (kk:Option (TypeId×Nat×Nat)) (hl:zs.length<=1048576):
    DenS P T f [(999000,.var (zs.map fun x=>V.val (.int .i64 x)) none kk)] [] [.s 999000 0 zs.length 1] [(999000,.var ((lu zs).map fun x=>V.val (.int .i64 x)) none kk)] [] (.v (.tup [])):=by
  refine⟨hE,fun w F ρ X xs hF hL hD hx=>?_⟩;obtain⟨hx1,hx2⟩:=hx
  match xs,hx1 with
  |[x],_=>
  obtain⟨cap,c1,c2,c3,rfl⟩:=hx2 0 _ x rfl rfl;obtain⟨⟨ys,ty,e1,e2,e3,e4,e5⟩,hX,hlt⟩:=hD.hp 999000 _ rfl
  have hys:∀(j:Nat) (z:Int),zs[j]?=some z->ys[j]?=some (.int .i64 z):=fun j z hz=>by
    have hj:=(gsi.1 hz).1;have h1:j<ys.size:=by rw[vm] at e2;omega
    have:=e4 j (V.val (.int .i64 z)) ys[j] (by rw[xe,hz];rfl) (xu h1);rw[xu h1,al this]
  have hH:Sort.Holds (Value.int .i64) w (ρ 999000) 0 zs.toArray:=fun j hj=>by
    simp only[xbt] at hj;constructor
    . have h1:=hys j zs[j] (gge hj);simp only[World.cell?,e1,xl];rw[h1];simp[hj]
    have hj':j<ys.size:=by rw[vm] at e2;omega
    simp only[World.frozen?,e1,xl];exact ty.2.fz.at hj'
  refine(hc (ρ 999000) cap zs w hH hlt omq).mono ?_;rintro e w' ⟨rfl,n,os,rfl⟩;obtain⟨Z,hZ⟩:∃Z,lu zs=Z:=⟨_,rfl⟩;have hlen:Z.length=zs.length:=by rw[<- hZ,jlk]
  rw[show (zs.mergeSort fun x y=>decide (x<=y))=Z from hZ,hZ]
  have hk:∀q,q<w.heap.size->q≠ρ 999000->(Sort.grow (Sort.putRow (Value.int .i64) (Sort.ahead w n) (ρ 999000) 0 Z.toArray) os).heap[q]?=w.heap[q]? := fun q hq hne=>by
    rw[jte hq,vd (yp hne)]
  have hb:(Sort.grow (Sort.putRow (Value.int .i64) (Sort.ahead w n) (ρ 999000) 0 Z.toArray) os).heap[ρ 999000]?=some (.cells (Sort.putCells (Value.int .i64) 0 Z.toArray ys) ty.1.1 ty.1.2):=by
    rw[jte hlt,ve rfl,e1];rfl
  have hsz:w.heap.size<=(Sort.grow (Sort.putRow (Value.int .i64) (Sort.ahead w n) (ρ 999000) 0 Z.toArray) os).heap.size:=by simp
  generalize hw':Sort.grow (Sort.putRow (Value.int .i64) (Sort.ahead w n) (ρ 999000) 0 Z.toArray) os=w' at hk hb hsz;have hws:(Sort.putCells (Value.int .i64) 0 Z.toArray ys).size=ys.size:=by simp[Sort.putCells]
  have hsees:Sees F w':=⟨fun p v e=>by
      have h1:=hF p v e;rw[<- h1];exact World.cell?_of_block (hk _ (uf h1) (e5 p v e)),fun b xs e=>by
      obtain⟨ck,h1⟩:=hF.m b xs e;refine⟨ck,(hk b (ju hF e) ?_).trans h1⟩;rintro rfl
      rw[e1] at h1;cases h1⟩
  refine⟨_,F,rfl,⟨Le.refl F,hsees,fun _ _ h=>.inl h,fun _ _ h=>.inl h,by rw[<- hw'];rfl,by rw[<- hw'];rfl,by rw[<- hw'];rfl,hsz,fun q hq hn=>hk q hq (fun he=>hn (he▸hX))⟩,?_,.tup rfl (fun j c x h=>nomatch h)⟩;refine { hp:=fun id k h=>?_,nb:=fun id k b h hb=>?_,inj:=fun id id' k k' h h' _=>?_,ow:=(fun j e c h=>nomatch h),od:=(fun j j' e c e' c' _ h=>nomatch h),oc:=(fun j e c h=>nomatch h),lay:=fun g hg hX'=>?_ }
  . obtain⟨rfl,rfl⟩:=ji0 h;refine⟨⟨_,⟨ty.1,ty.2.size hws⟩,hb,by rw[hws,vm,hlen];rw[vm] at e2;exact e2,fun c hc=>?_,fun j c x h1 h2=>?_,e5⟩,.inl hX,xao hlt hsz⟩
    . obtain⟨z,-,rfl⟩:=ya.1 hc;rfl
    rw[xe,msi] at h1;obtain⟨z,hz,rfl⟩:=h1;have hj:=(gsi.1 hz).1;simp only[Sort.putCells,Array.getElem?_mapIdx,msi] at h2;obtain⟨y,hy,rfl⟩:=h2;rw[ve ⟨vj _,by simpa using hj⟩]
    have:Z.toArray[j-0]! = z:=by
      obtain⟨hj',rfl⟩:=gsi.1 hz;simp[hj']
    rw[this];exact .val _
  . obtain⟨rfl,rfl⟩:=ji0 h;cases hb
  . rw[(ji0 h).1,(ji0 h').1]
  rcases hX' with hX'|hX'
  . exact hD.lay g hg hX'
  obtain⟨xs,hxs⟩:=xan.1 hg;obtain⟨⟨ty,fz,h1⟩,-⟩:=hL.2 g xs hxs;have:=qn h1;omega
theorem qbk(h1:look t st.t=some (.v (.val (.slice (some ⟨r,0,none⟩) n cap))))(hf:dj r st.h=some id)(h2:look id st.h=some (.var cs nm (some (e,size,cap))))(h3:n<=cap)(h4:n*size<=cs.length):
  ig t st= { st with t:=(t,.v (.slice size (be 0 n size cs)))::st.t,h:=frz1 id (seth id (.var cs) st.h),o:=remo t st.o } := by
 unfold ig;rw[h1];simp only;rw[hf];simp only;rw[h2];simp only;rw[ve ⟨trivial,h3,h4⟩]
theorem finFr{v:V}(hr:Wk (.slice size (be 0 n size cs)) v)(h3:n<=cap)(h4:n*size<=cs.length)(hf:dj r st.h=some id)(h1:look t st.t=some (.v (.val (.slice (some ⟨r,0,none⟩) n cap))):=by rfl)(h2:look id st.h=some (.var cs nm (some (e,size,cap))):=by rfl):nq P [.tmp t] v .rt st:=by
 refine .inr ⟨_,?_,hr⟩
 show resS P (ig t st) _=_
 rw[qbk h1 hf h2 h3 h4];exact zcy
theorem qpl(f:α->V)(l:List α):be 0 l.length 1 (l.map f)=l.map fun x=>[f x]:=by
 apply xc6;intro i;simp only[be,xe,xl,xbp];by_cases h:i<l.length
 .rw[List.getElem?_range h,gge h];simp only[Option.map_some];rw[xat zfk];simp
 rw[xay zfk,xay omq];rfl
end Go.Ab
namespace Go.Ab
open Go.RowKit
variable {P : Program}{T : Lay}
inductive Otree where
 |done
 |one (i:Nat) (r:Otree)
 |alt (i:Nat) (r more:Otree)
 |nil
 |sort (r:Otree)
def qt(o:Oper):Bool:=o.guard.isNone && match o.op with
 |.fieldAddr .. => true
 |.move _=>true
 |.indexAddr .. => true
 |.binOp _ _ _ (.const (.int _ _)) _=>true
 |.call ⟨.builtin .max,_,_⟩=>true
 |.nilCheck _=>true
 |_=>false
def Otree.has(j:Nat):Otree->Bool
 |.alt i _ more=>i == j || more.has j
 |_=>false
def Otree.dep:Otree->Nat
 |.done=>0
 |.one _ r=>r.dep+1
 |.alt _ r more=>max (r.dep+1) more.dep
 |.nil=>0
 |.sort r=>r.dep
def okT(ops:Array Oper):Bool->Otree->Array Bool->Bool
 |b,.done,li=> !b && (Region.ready .any ops li).isEmpty
 |b,.one i r,li=> !b && (Region.ready .any ops li).contains i && Region.free .any ops li i && ((ops[i]?).map qt == some true) && okT ops false r (li.setIfInBounds i true)
 |b,.alt i r more,li=>(b || ((Region.ready .any ops li).contains i && (Region.ready .any ops li).all fun j=>j == i || more.has j)) && okT ops false r (li.setIfInBounds i true) && okT ops true more li
 |b,.nil,_=>b
 |b,.sort r,li=> !b && okT ops false r li
def jaf(ops:Array Oper):Bool:=ops.all fun o=>match o.op with
 |.defer _=>false
 |.select .. => false
 |_=>true
def qcy(ops:Array Oper)(t:Otree):Bool:=jaf ops && okT ops false t (Array.replicate ops.size false) && Nat.ble t.dep ops.size
def fb(P:Program)(T:Lay)(l:List Oper)(i:Nat)(st:St)(K:St->Prop):Prop:=match l[i]? with
 |none=>False
 |some o=>match gdV l o st.σ with
  |none=>False
  |some b=>gsel b (mz P T o st K) (putK st o.dst .u K)
def nrmT:List Oper->List (Nat×TV)->List (Nat×TV)
 |[],t=>t
 |o::l,t=>match o.dst with
  |none=>nrmT l t
  |some d=>match look d t with
   |some tv=>nrmT l ((d,tv)::remj d t)
   |none=>nrmT l t
def awT(P:Program)(T:Lay)(l:List Oper)(K:St->Prop):Otree->St->Prop
 |.done,st=>K { st with t:=nrmT l st.t }
 |.one i r,st=>fb P T l i st (awT P T l K r)
 |.alt i r more,st=>fb P T l i st (awT P T l K r)/\awT P T l K more st
 |.nil,_=>True
 |.sort r,st=>awT P T l K r { st with t:=nrmT l st.t }
theorem jkh{j i:Nat}: ∀ {l:List (Nat×TV)},i≠j->look i (remj j l)=look i l
 |[],_=>rfl
 |(k,x)::r,h=>by
  rw[je5];split
  .rename_i hk;rw[jkh h,ae,vd omq]
  rw[ae,ae,jkh h]
theorem jbn:∀(l:List Oper) (t:List (Nat×TV)) (i:Nat),look i (nrmT l t)=look i t
 |[],_,_=>rfl
 |o::l,t,i=>by
  unfold nrmT;split
  .exact jbn l t i
  rename_i d _;split
  .rename_i tv htv;rw[jbn l,ae];split
   .rename_i e;rw[e,htv]
   rename_i e;rw[jkh e]
  exact jbn l t i
section
variable {ops : Array Oper}{rd : Option Nat}{w0 w : World}{M : Nat -> Prop}{F0 F : Frz}{ρ : Nat -> Nat}{a : Act}{st : St}{Q : Exit -> Act -> World -> Prop}
theorem qb3{oj:Oper}{d:Option Tmp}{v:Value}(hnd:∀c,oj.op≠ .defer c)(hsj:∀cs b,oj.op≠ .select cs b)(h1:∀d',d=some d'->d' ∉ oj.looksAt ops)(h2:∀d',d=some d'->oj.dst≠some d')(hQ:∀c a w,¬Q (.panic c) a w) 
  {I:Act->Prop} (hI:∀u,I (a.put oj.dst u)) (hI':∀dd,I ({ a with defers:=dd::a.defers }.put oj.dst undef)) {K:Act->World->Prop} (h:opG rd P oj (a.put d v) w K Q):opG rd P oj a w (fun a' w'=>I a'/\K (a'.put d v) w') Q:=by
 refine⟨fun _ _=>trivial,?_⟩;have h:=h.2;rw[Oper.semAt_eq _ _ _ hnd,execOp_put (ops:=ops) oj hsj a d v h1] at h;rw[Oper.semAt_eq _ _ _ hnd];generalize (execOp a.eval oj).run P w=r at *;cases r with
 |ok x w'=>
  cases x<;>simp only[Oper.uponIn] at h ⊢
  case value u=>exact⟨hI u,by rw[<- Act.put_comm a v u h2];exact h⟩
  case skip=>exact⟨hI _,by rw[<- Act.put_comm a v undef h2];exact h⟩
  case defer dd=>exact⟨hI' dd,by rw[<- Act.put_comm _ v undef h2,<- Act.put_defers];exact h⟩
  case enter f args=>
   refine⟨h.1,CallsIn.mono h.2 fun e w'' he=>?_⟩;cases e with
   |returned u=>exact⟨hI u,by rw[<- Act.put_comm a v u h2];exact he⟩
   |panicked c=>exact(hQ _ _ _ he).elim
   |outgrown=>exact he
  case row row args=>exact⟨h.1,RowsIn.mono h.2 fun u w'' he=>⟨hI u,by rw[<- Act.put_comm a v u h2];exact he⟩⟩
  case round l f tmps assign body=>
   refine⟨h.1,RoundIn.mono h.2 fun e w'' he=>?_⟩;cases e with
   |returned u=>exact⟨hI u,by rw[<- Act.put_comm a v u h2];exact he⟩
   |panicked c=>exact(hQ _ _ _ he).elim
   |outgrown=>exact he
 |halt x w'=>
  cases x<;>simp only[Oper.uponIn] at h ⊢
  case panic u=>exact(hQ _ _ _ h).elim
theorem jbi(h:jaf ops=true){j:Nat}{o:Oper}(ho:ops[j]?=some o):(∀c,o.op≠ .defer c)/\∀cs b,o.op≠ .select cs b:=by
 have:=Array.all_eq_true_iff_forall_mem.1 h o (xcr ho);refine⟨fun c e=>?_,fun cs b e=>?_⟩
 .rw[e] at this;cases this
 rw[e] at this;cases this
theorem qq7{i:Nat}{oi:Oper}{v:Value}(hi:ops[i]?=some oi)(hg:oi.guard=none)(hpl:jaf ops=true)(hQ:∀c a w,¬Q (.panic c) a w):
  ∀(fuel:Nat) (li:Array Bool) (a:Act) (w:World),(∀j oj,ops[j]?=some oj->j≠i->li.getD j true=false->(∀e∈oj.after,Region.binds .any e=true->e.on≠i)->oi.apart ops oj=true)->
   i∈Region.ready .any ops li->(∀w,(execOp a.eval oi).run P w=.ok (.value v) w)->
   wpAnyIn (fc rd) 0 P .any ops Q fuel (li.setIfInBounds i true) (a.put oi.dst v) w->wpAnyIn (fc rd) 0 P .any ops Q (fuel+1) li a w:=by
 have self:∀ {K:Act->World->Prop} {a:Act} {w:World},(∀w,(execOp a.eval oi).run P w=.ok (.value v) w)->K (a.put oi.dst v) w->wpOpIn (fc rd) 0 P ops Q i K a w:=fun {K a w} hy hK=>by
  unfold wpOpIn;simp only[hi];have hw:Region.wanted oi (yielded ops a.tmps)=true:=by unfold Region.wanted;rw[hg]
  rw[hw,ve rfl];exact cx (hy w) hK
 intro fuel
 induction fuel with
 |zero=>
  intro li a w _ hr hy H;refine⟨fun h=>zfe,fun j hj=>?_⟩;by_cases hji:j=i
  .subst hji;exact self hy H
  have:=ready_mono hj hji;rw[H.1] at this;cases this
 |succ fuel ih=>
  intro li a w hfree hr hy H;refine⟨fun h=>zfe,fun j hj=>?_⟩;by_cases hji:j=i
  .subst hji;exact self hy H
  have h1:=H.2 j (ready_mono hj hji);obtain⟨hjun,oj,hoj,hall⟩:=mem_ready.1 hj
  have hnot:∀e∈oj.after,Region.binds .any e=true->e.on≠i:=fun e he hb heq=>by
   have g1:=hall e he hb;have g0:=(mem_ready.1 hr).1;rw[heq] at g1;rcases xk i li.size with h'|h'
   .simp[h'] at g0 g1;rw[g0] at g1;cases g1
   simp[Array.getElem?_eq_none h'] at g1
  obtain⟨p1,p2,p3⟩:=Oper.apart_spec (hfree j oj hoj hji hjun hnot);obtain⟨q1,q2⟩:=jbi hpl hoj;have hsi:=(jbi hpl hi).2
  have hfree':∀k ok,ops[k]?=some ok->k≠i->(li.setIfInBounds j true).getD k true=false->(∀e∈ok.after,Region.binds .any e=true->e.on≠i)->oi.apart ops ok=true:=fun k ok hk hki hun hno=>by
   refine hfree k ok hk hki ?_ hno;by_cases hjk:j=k
   .subst hjk;exact hjun
   exact zd5
  have next:∀a' w',((∀w,(execOp a'.eval oi).run P w=.ok (.value v) w)/\wpAnyIn (fc rd) 0 P .any ops Q fuel ((li.setIfInBounds i true).setIfInBounds j true) (a'.put oi.dst v) w')->wpAnyIn (fc rd) 0 P .any ops Q (fuel+1) (li.setIfInBounds j true) a' w':=fun a' w' h3=>
   ih (li.setIfInBounds j true) a' w' hfree' (ready_mono hr (yp hji)) h3.1 (by rw[Array.setIfInBounds_comm _ _ hji];exact h3.2)
  refine wpOpIn_mono next ?_;unfold wpOpIn at h1 ⊢;simp only[hoj] at h1 ⊢;rw[wanted_put (ops:=ops) oj a oi.dst v p1] at h1;split
  .rename_i hw;rw[ve hw] at h1
   exact qb3 (ops:=ops) q1 q2 p1 p2 hQ (I:=fun a'=>∀w,(execOp a'.eval oi).run P w=.ok (.value v) w) (fun u=>by rw[execOp_put (ops:=ops) oi hsi a oj.dst u p3];exact hy)
    (fun dd=>by rw[execOp_put (ops:=ops) oi hsi { a with defers:=dd::a.defers } oj.dst undef p3];exact hy) h1
  rename_i hw;rw[vd hw] at h1;refine⟨fun _ _=>trivial,?_,?_⟩
  .rw[execOp_put (ops:=ops) oi hsi a oj.dst undef p3];exact hy
  rw[<- Act.put_comm a v undef p2];exact h1.2
theorem qwj{h:List (Nat×Blk)}{ρa:Operand->Option TV}{ρc:Operand->Value}(G:Good F w ρ h ρa ρc){t:TypeId}{x i:Operand}{tv:TV}(e:evq P ρa h (.indexAddr t x i)=some tv):∃v,∀w',(Instr.indexAt t (ρc x) (ρc i)).run P w'= .ok v w':=by
 simp only[evq] at e;split at e
 .rename_i n e' size ha;split at e
  .rename_i id off iv h2 h3;simp only[msi] at e;obtain⟨q,h4,rfl⟩:=e;unfold idxS at h4;split at h4
   .rename_i k j;split at h4
    .rename_i hm;cases h4;have hi:=al (G.v h3);have hv:ρc x=.pointer (some ⟨ρ id,off,none⟩):=G.opr x _ h2;exact⟨_,fun w'=>by rw[hv,hi];exact jhp ha k j _ hm.1 hm.2 w'⟩
    cases h4
   cases h4
  .rename_i cs iv h2 h3;simp only[msi] at e;obtain⟨q,h4,rfl⟩:=e;unfold idxS at h4;split at h4
   .rename_i k j;split at h4
    .rename_i hm;cases h4;have hi:=al (G.v h3);obtain⟨a,g,hv,hat⟩:=rm (show Rep F (.row cs) (ρc x) from G.opr x _ h2);exact⟨_,fun w'=>by rw[hv,hi];exact jhp ha k j a hm.1 hm.2 w'⟩
    cases h4
   cases h4
  cases e
 split at e
 .rename_i e' n size es iv h1 h2 h3;split at e
  .rename_i hn;subst hn;simp only[msi] at e;obtain⟨cs,h4,rfl⟩:=e;unfold idxV at h4;split at h4
   .rename_i k m;split at h4
    .rename_i hm;have hi:=al (G.v h3);have hlt:=(gsi.1 h4).1;rcases py (show Rep F (.slice n es) (ρc x) from G.opr x _ h2) with⟨_,h0⟩|⟨a,cap,g,hv,hc,hmx,hs,ho,hg,hr⟩
     .subst h0;simp at hlt
     exact⟨_,fun w'=>by rw[hv,hi];exact jbe h1 k m a es.length cap hm omq w'⟩
    cases h4
   cases h4
  cases e
 .rename_i e' n id off m size iv h1 h2 h3;split at e
  .rename_i hn;subst hn;simp only[msi] at e;obtain⟨q,h4,rfl⟩:=e;unfold idxS at h4;split at h4
   .rename_i k j;split at h4
    .rename_i hm;cases h4;have hi:=al (G.v h3);obtain⟨cap,hc1,hc2,hc3,hv⟩:=show ∃cap,m<=cap/\cap<=maxLen/\0<m/\ρc x=_ from G.opr x _ h2
     exact zen
    cases h4
   cases h4
  cases e
 .rename_i e' n r off m cap iv h1 h2 h3;split at e
  .simp only[msi] at e;obtain⟨q,h4,rfl⟩:=e;unfold idxS at h4;split at h4
   .rename_i k j;split at h4
    .rename_i hm;cases h4;have hi:=al (G.v h3);have hv:=al (show Rep F (.val _) (ρc x) from G.opr x _ h2);exact zen
    cases h4
   cases h4
  cases e
 cases e
theorem qxw(S:SimS P T M F0 w0 F ρ st a w){o:Oper}{op:BinOp}{t ty:TypeId}{x:Operand}{k:IntKind}{n:Int}{tv:TV}(ho:o.op=.binOp op t x (.const (.int k n)) ty)(e:evq P (opv st.σ) st.h o.op=some tv):∃v,∀w',(execOp a.eval o).run P w'= .ok (.value v) w':=by
 have G:=Sim.good S;have hc:vOf (opv st.σ (.const (.int k n)))=some (.val (.int k n)):=rfl;cases hx:vOf (opv st.σ x) with
 |none=>exfalso;rw[ho] at e;simp only[evq,hx,hc] at e;cases e
 |some xv=>
  have key:∃z,binV P op t xv (.val (.int k n))=some (.val z):=by
   rw[ho] at e;simp only[evq,hx,hc] at e
   have e2:∃v,binV P op t xv (.val (.int k n))=some v:=by
    obtain⟨v,hv,-⟩:=msi.1 e;exact⟨v,hv⟩
   obtain⟨v,hv⟩:=e2;have hv0:=hv;unfold binV at hv;split at hv
   .rename_i h1;cases h1;split at hv
    .unfold shV at hv;split at hv
     .cases hv;exact⟨_,hv0⟩
     cases hv
    .unfold shV at hv;split at hv
     .cases hv;exact⟨_,hv0⟩
     cases hv
    split at hv
    .obtain⟨z,rfl,-⟩:=jwu (P:=P) hv t w;exact⟨z,hv0⟩
    cases hv
   all_goals first|(rename_i h1;cases h1;done)|(rename_i h1 _;cases h1;done)|(cases hv;done)
  obtain⟨z,hz⟩:=key;refine⟨z,fun w'=>?_⟩;obtain⟨r,hr,hv,hg⟩:=qa8 (P:=P) (G.v hx) (G.v hc) hz w';obtain rfl:=al hv;unfold execOp;rw[ho];exact cm (by simp[hg x (.const (.int k n)),hr])
theorem qw5(S:SimS P T M F0 w0 F ρ st a w){o:Oper}{as:Array Operand}{ts:Array TypeId}{tv:TV}(ho:o.op=.call ⟨.builtin .max,as,ts⟩)(e:evq P (opv st.σ) st.h o.op=some tv):∃v,∀w',(execOp a.eval o).run P w'= .ok (.value v) w':=by
 have G:=Sim.good S;rw[ho] at e;simp only[evq] at e;split at e
 .rename_i x y h1;obtain⟨v,h3,-⟩:=msi.1 e;obtain⟨k,k',m,q,g1,g2,rfl⟩:=jlv h3;have ha:as= #[x,y]:=by apply yj;simpa using h1
  have hx:=al (G.v g1);have hy:=al (G.v g2);refine⟨.int k (if m<q then q else m),fun w'=>?_⟩;simp[execOp,ho,resolve,ha,invoke,builtin,Builtin.max_,Builtin.max2,hx,hy]
 cases e
theorem jym{o:Oper}{K:St->Prop}(S:SimS P T M F0 w0 F ρ st a w)(hp:qt o=true)(h:dp P T o st K):∃v,∀w,(execOp a.eval o).run P w=.ok (.value v) w:=by
 simp only[qt,vn] at hp;obtain⟨-,hp⟩:=hp;split at hp
 .rename_i s x f ho;have h':evK P o st K:=by unfold dp at h;rw[ho] at h;exact h
  unfold evK at h';rw[ho] at h';have G:=Sim.good S;cases hf:fldV P s f with
  |none=>
   exfalso;simp only[evq,hf,evb] at h'
  |some q=>
   obtain⟨off,ft⟩:=q
   have hx:∃ad,a.eval x=.pointer (some ad):=by
    cases hxv:opv st.σ x with
    |none=>exfalso;simp only[evq,hf,hxv,evb] at h'
    |some tv=>
     cases tv with
     |v y=>
      cases y with
      |row cs=>
       exact zc2
      |_=>exfalso;simp only[evq,hf,hxv,evb] at h'
     |p id o'=>exact⟨_,show a.eval x=_ from G.opr x _ hxv⟩
     |_=>exfalso;simp only[evq,hf,hxv,evb] at h'
   obtain⟨ad,had⟩:=hx;refine⟨.pointer (some (ad.add off)),fun w=>?_⟩;have:=jk0 (P:=P) hf ad w;unfold execOp;rw[ho];simp only[had];simp[this,Result.andThen]
 .rename_i x ho;exact⟨a.eval x,fun w=>by unfold execOp;rw[ho];rfl⟩
 .rename_i t x i ho;have h':evK P o st K:=by unfold dp at h;rw[ho] at h;exact h
  unfold evK at h';rw[ho] at h';have G:=Sim.good S;cases he:evq P (opv st.σ) st.h (.indexAddr t x i) with
  |none=>exfalso;rw[he] at h';simp only[evb] at h'
  |some tv=>
   obtain⟨v,hv⟩:=qwj G he;exact⟨v,fun w=>by unfold execOp;rw[ho];exact cm (hv w)⟩
 .rename_i op t x k n ty ho;have hc:vOf (opv st.σ (.const (.int k n)))=some (.val (.int k n)):=rfl
  have h':evK P o st K:=by
   unfold dp at h;rw[ho] at h;simp only[hc] at h;split at h
   .rename_i h2;cases h2
   exact h
  unfold evK at h';rw[ho] at h';have G:=Sim.good S;cases he:evq P (opv st.σ) st.h (.binOp op t x (.const (.int k n)) ty) with
  |none=>exfalso;rw[he] at h';simp only[evb] at h'
  |some tv=>
   exact qxw S ho (by rw[ho];exact he)
 .rename_i as ts ho;have h':evK P o st K:=by unfold dp at h;rw[ho] at h;exact h
  unfold evK at h';rw[ho] at h';have G:=Sim.good S;cases he:evq P (opv st.σ) st.h (.call ⟨.builtin .max,as,ts⟩) with
  |none=>exfalso;rw[he] at h';simp only[evb] at h'
  |some tv=>
   exact qw5 S ho (by rw[ho];exact he)
 .rename_i x ho;have h':evK P o st K:=by unfold dp at h;rw[ho] at h;exact h
  unfold evK at h';rw[ho] at h';have G:=Sim.good S
  have hx:∃ad,a.eval x=.pointer (some ad):=by
   cases hxv:opv st.σ x with
   |none=>exfalso;simp only[evq,hxv,evb] at h'
   |some tv=>
    cases tv with
    |v y=>
     cases y with
     |row cs=>
      exact zc2
     |_=>exfalso;simp only[evq,hxv,evb] at h'
    |p id o'=>exact⟨_,show a.eval x=_ from G.opr x _ hxv⟩
    |_=>exfalso;simp only[evq,hxv,evb] at h'
  obtain⟨ad,had⟩:=hx;exact⟨.pointer (some ad),fun w=>by unfold execOp;rw[ho];simp only[had];rfl⟩
 cases hp
theorem jei{i:Nat}{li:Array Bool}(h:i∈Region.ready .any ops li):∃o,ops[i]?=some o:=by
 obtain⟨-,o,ho,-⟩:=mem_ready.1 h;exact⟨o,ho⟩
theorem juc{o:Oper}{st:St}{K:St->Prop}(h:qt o=true)(hk:mz P T o st K):dp P T o st K:=by
 unfold mz at hk;unfold qt at h;split at hk
 .rename_i ho;rw[ho] at h;simp at h
 exact hk
theorem jtd{i:Nat}{o:Oper}{K:St->Prop}{next:Act->World->Prop}(hi:ops[i]?=some o)(S:SimS P T M F0 w0 F ρ st a w)(h:fb P T ops.toList i st K) 
  (k:∀F' ρ' st' a' w',SimS P T M F0 w0 F' ρ' st' a' w'->K st'->next a' w'):wpOpIn (fc rd) 0 P ops Q i next a w:=by
 unfold fb at h;have hi':ops.toList[i]?=some o:=by simpa using hi
 rw[hi'] at h;simp only at h;cases hg:gdV ops.toList o st.σ with
 |none=>rw[hg] at h;exact h.elim
 |some b=>
  rw[hg] at h;unfold wpOpIn;simp only[hi];rw[Sim.wanted S hg];cases b with
  |true=>
   simp only[oh] at h;rw[ve rfl];exact jjv S h k
  |false=>
   simp only[tl] at h;rw[vd smq];obtain⟨st',S',hK⟩:=nz (tv:=.u) (x:=undef) S rfl trivial h;exact⟨fun _ _=>trivial,k F ρ st' _ w S' hK⟩
theorem jdq{K:St->Prop}(hpl:jaf ops=true)(hQ:∀c a w,¬Q (.panic c) a w)(hK:∀F' ρ' st' a' w',SimS P T M F0 w0 F' ρ' st' a' w'->K st'->Q .normal a' w'):∀(t:Otree) (b:Bool) (li:Array Bool) (fuel:Nat) (F:Frz) (ρ:Nat->Nat) (st:St) (a:Act) (w:World),
  okT ops b t li=true->t.dep<=fuel->SimS P T M F0 w0 F ρ st a w->awT P T ops.toList K t st->
  (b=false->wpAnyIn (fc rd) 0 P .any ops Q fuel li a w)/\(∀i,t.has i=true->i∈Region.ready .any ops li->∀f',fuel=f'+1->wpOpIn (fc rd) 0 P ops Q i (wpAnyIn (fc rd) 0 P .any ops Q f' (li.setIfInBounds i true)) a w)
 |.done,b,li,fuel,F,ρ,st,a,w,ho,hd,S,h=>by
  simp only[okT,vn,xcu] at ho;have hr:Region.ready .any ops li=[]:=List.isEmpty_iff.1 ho.2;refine⟨fun _=>?_,fun i hi=>(by cases hi)⟩
  have hq:Q .normal a w:=hK F ρ { st with t:=nrmT ops.toList st.t } a w (by
   have e:(St.mk st.n (nrmT ops.toList st.t) st.h st.o).σ=st.σ:=funext fun i=>jbn _ _ _
   show Sim P T M F0 w0 F ρ st.n (St.mk st.n (nrmT ops.toList st.t) st.h st.o).σ st.h st.o a w
   rw[e];exact S) h
  cases fuel with
  |zero=>exact⟨hr,hq⟩
  |succ n=>exact⟨fun _=>hq,by rw[hr];simp⟩
 |.sort r,b,li,fuel,F,ρ,st,a,w,ho,hd,S,h=>by
  simp only[okT,vn,xcu] at ho
  have S':SimS P T M F0 w0 F ρ { st with t:=nrmT ops.toList st.t } a w:=by
   have e:(St.mk st.n (nrmT ops.toList st.t) st.h st.o).σ=st.σ:=funext fun i=>jbn _ _ _
   show Sim P T M F0 w0 F ρ st.n (St.mk st.n (nrmT ops.toList st.t) st.h st.o).σ st.h st.o a w
   rw[e];exact S
  exact⟨fun _=>(jdq hpl hQ hK r false li fuel F ρ _ a w ho.2 hd S' h).1 rfl,fun i hi=>by cases hi⟩
 |.nil,b,li,fuel,F,ρ,st,a,w,ho,hd,S,h=>by
  simp only[okT] at ho;subst ho;exact⟨fun e=>(by cases e),fun i hi=>(by cases hi)⟩
 |.one i r,b,li,fuel,F,ρ,st,a,w,ho,hd,S,h=>by
  simp only[okT,vn,xcu] at ho;obtain⟨⟨⟨⟨h1,h2⟩,h3⟩,h4⟩,h5⟩:=ho;simp only[Otree.dep] at hd;refine⟨fun _=>?_,fun i hi=>(by cases hi)⟩;obtain⟨f',rfl⟩:∃f',fuel=f'+1:=⟨fuel-1,omq⟩;have hri:i∈Region.ready .any ops li:=by simpa using h2
  obtain⟨o,hoi⟩:=jei hri;rw[hoi] at h4;have hp:qt o=true:=by simpa using h4
  have hg:o.guard=none:=by
   exact zd7
  simp only[awT] at h
  have hs:dp P T o st (awT P T ops.toList K r):=by
   unfold fb at h;have hi':ops.toList[i]?=some o:=by simpa using hoi
   rw[hi'] at h;simp only[gdV,hg,oh] at h;exact juc hp h
  obtain⟨v,hv⟩:=jym S hp hs;refine qq7 (P:=P) hoi hg hpl hQ f' li a w (Region.free_spec hoi h3) hri hv ?_;have:=jgf (rd:=rd) (Q:=Q) (next:=wpAnyIn (fc rd) 0 P .any ops Q f' (li.setIfInBounds i true)) S hs fun F' ρ' st' a' w' S' hK'=>(jdq hpl hQ hK r false _ f' F' ρ' st' a' w' h5 omq S' hK').1 rfl;have h6:=this.2;rw[Oper.semAt_eq _ _ _ (jbi hpl hoi).1,hv w] at h6;exact h6
 |.alt i r more,b,li,fuel,F,ρ,st,a,w,ho,hd,S,h=>by
  simp only[okT,vn] at ho;obtain⟨⟨h1,h2⟩,h3⟩:=ho;simp only[Otree.dep] at hd;simp only[awT] at h;obtain⟨hs,hm⟩:=h
  have key:∀j,(Otree.alt i r more).has j=true->j∈Region.ready .any ops li->∀f',fuel=f'+1->wpOpIn (fc rd) 0 P ops Q j (wpAnyIn (fc rd) 0 P .any ops Q f' (li.setIfInBounds j true)) a w:=fun j hj hr f' hf=>by
   simp only[Otree.has,xbx,xax] at hj;rcases hj with rfl|hj
   .obtain⟨o,hoi⟩:=jei hr;exact jtd hoi S hs fun F' ρ' st' a' w' S' hK'=>(jdq hpl hQ hK r false _ f' F' ρ' st' a' w' h2 omq S' hK').1 rfl
   exact(jdq hpl hQ hK more true li fuel F ρ st a w h3 omq S hm).2 j hj hr f' hf
  refine⟨fun hb=>?_,key⟩;subst hb;simp only[xav,vn,xi] at h1;obtain⟨h0,h1⟩:=h1;obtain⟨f',rfl⟩:∃f',fuel=f'+1:=⟨fuel-1,omq⟩;refine⟨fun h=>?_,fun j hj=>?_⟩
  .rw[h] at h0;cases h0
  exact key j (by
   have:=h1 j hj;simp only[xbx,xax] at this;simp only[Otree.has,xbx,xax]
   exact this.imp xbd id) hj f' rfl
end
theorem jfa[hm:Mixed P]{id:Nat}{ops:Array Oper}{l:List Oper}{st:St}{Q:AX->St->Prop}(t:Otree)(k:awT P T l (Q .nm) t st)(hl:ops.toList=l:=by rfl)(hB:qcy ops t=true:=by kernel_rfl):aw P T (.region id ops true) st Q:=by
 subst hl;refine jq3 ?_;intro rd M F0 w0 F ρ a w Q' id S hQ;simp only[qcy,vn] at hB;obtain⟨⟨h1,h2⟩,h3⟩:=hB;have hx:Ext F w F w.drew:=(Ext.refl S.sees).drew;have:=(jdq (rd:=rd) (Q:=fun e a w=>match e with|.normal=>∃F' ρ' st',SimS P T M F0 w0 F' ρ' st' a w/\Q .nm st'|_=>False) h1 (fun _ _ _ h=>h) (fun F' ρ' st' a' w' S' hK=>⟨F',ρ',st',S',hK⟩) t false _ ops.size F ρ st a w.drew h2 (xb9 h3) (Sim.ext S hx) k).1 rfl;refine wpIn_mono (wpIn_region_any hm.eq this) ?_;intro e a' w' hq;cases e with
 |normal=>obtain⟨F',ρ',st',S',hK⟩:=hq;exact hQ F' ρ' st' a' w' S' hK
 |_=>exact hq.elim
def awTk(P:Program)(T:Lay)(l:List Oper)(K:St->Prop)(r:Otree):St->Prop:=fun st=>awT P T l K r st
theorem quf{l:List Oper}{K:St->Prop}{st:St}: awT P T l K .done st=K { st with t:=nrmT l st.t } := rfl
theorem qya{l:List Oper}{K:St->Prop}{st:St}{i:Nat}{r:Otree}: awT P T l K (.one i r) st=fb P T l i st (awTk P T l K r):=rfl
theorem qyc{l:List Oper}{K:St->Prop}{st:St}{i:Nat}{r more:Otree}: awT P T l K (.alt i r more) st=(fb P T l i st (awTk P T l K r)/\awT P T l K more st):=rfl
theorem que{l:List Oper}{K:St->Prop}{st:St}{r:Otree}: awT P T l K (.sort r) st=awTk P T l K r { st with t:=nrmT l st.t } := rfl
theorem qyb{l:List Oper}{K:St->Prop}{st:St}: awT P T l K .nil st=True:=rfl
theorem qud{l:List Oper}{K:St->Prop}{st:St}{r:Otree}: awTk P T l K r st=awT P T l K r st:=rfl
@[congr] theorem awT_cg{l : List Oper}{K : St -> Prop}{r : Otree}{st st' : St}(h : st = st'): awT P T l K r st = awT P T l K r st' := by rw [h]
@[congr] theorem awTk_cg{l : List Oper}{K : St -> Prop}{r : Otree}: awTk P T l K r = awTk P T l K r := rfl
theorem jf0 {p q r:Prop} (hr:r) (h:q) (e:r->q->p:=by
  intro hr g
  repeat (first
   |with_reducible refine jaw ?_
   |with_reducible refine jax ?_
   |refine runC ?_
   |refine qv rfl ?_
   |refine runR ?_
   | (simp (config:= {maxSteps:=1000000,implicitDefEqProofs:=false}) (disch:=(first | omega | (simp only[vr,List.length_cons,List.length_nil,xw,xq,vm]; omega))) only[↓quf,↓qya,↓qyc,↓que,qyb,qud,fb,nrmT,xg,and_true,↓jo5,jq2,↓joa,jq6,↓jo8,jq4,jct,↓joc,jq8,effD,jfm,↓oh,↓tl,dp,mz,qz,gdV,movK,putK,retK,retD,retM,evK,jo4,jo9,jo7,job,jq1,
     jaj,jn0,jp6,jn2,jp5,jmz,jp3,jp4,jkl,jn1,bw,jrw,jrv,jrx,nu_v,nu_p,nu_m,nu_s,jg,jpw,jpv,jpg,jpu,jpt,jps,jpr,jcl,rh,re,σ_mk,nt,sf,sx,jry,sy,js0,jrz,jmx,je5,sg,jr,qe,jol,jnu,qb,jmk,jmd,jip,ji4,qo,qi,cv,ra,appK,appL,appS,appX,
     ay,dk,seth,ba,ldK,ldO,stO,dh,sc,jly,joj,jmj,jos,jou,jot,vN_v,vN_p,vN_m,jn9,jna,jnb,jr0,jqz,dj,jm4,jpj,jpk,jpl,jnr,jns,mapN,jr2,jok,jqb,plc,pid,pof,mpc,bg,setb,lk,bk,ep,remK,fo,Blk.wn,Blk.nm,nam,Nat.reduceDiv,Nat.reduceMod,Nat.reduceEqDiff,Nat.reduceBEq,Nat.reduceBNe,↓reduceIte,Nat.reduceAdd,Nat.reduceMul,Nat.reduceLT,Nat.reduceLeDiff,Nat.reduceSub,jsl,xb8,xb3,xam,xav,xc7,xar,yz,xau,Option.isSome_none,yw,reduceCtorEq,
     jql,jqm,jqk,js4,js5,js3,jrl,jrk,jo1,jmi,
     evq,evb,behind,memV,ml,ov,cy,jre,js6,jqp,jqo,jd7,bytB,mkK,jrp,jro,jq9,jqj,jpz,jr5,jr4,jqh,jr1,jom,jmm,jqd,jof,jlp,jrr,jrg,mapE,gm,eqC,nilK,jnh,jni,jp9,jpa,jpb,jn7,jpc,jpd,Option.getD_none,Option.getD_some,jl8,jmh,jlw,jnl,
     idxV,bytV,minV,binV,jqq,jd2,jcs,eqOp,jfz,capV,ki,lenV,jcb,optV,vsOf,mu,bsV,pq,oneV,V.one,V.cells,jsa,mq,jk,frzR,frzC,frz1,frzB,
     xbz,xas,List.take_succ_cons,List.take_zero,List.length_cons,List.length_nil,List.nil_append,List.cons_append,xd,Option.map_some,Option.map_none,Option.bind_some,Option.bind_none,vk,Option.isSome_some,
     List.getElem?_cons_zero,List.getElem?_cons_succ,xe,vm,jqy,jkb,b_ft,b_tf,nn_t,jnk,joq,jor,jp8,jn6,jp7,jn4,jmn,jow,jov,jqi,xbt,eq_self,xy,xf,Int.reduceToNat,Int.reduceLE,Int.reduceLT,Int.reduceEq,Int.reduceNeg,xbp,Nat.one_mul,xl,Nat.add_zero,joo,jnv,jnw,jnx,jny,jnz,jo0,xbr,xc8,xbs,xcw,cond_true,cond_false,xb1,hr]))
  exact g):p:=e hr h
end Go.Ab
namespace Go.Ab
open Go.RowKit
variable {P : Program}{T : Lay}
inductive Gnode where
 |fin
 |one (i k:Nat)
 |ld (i k:Nat)
 |alt (l:List (Nat×Nat))
 |nam (id k:Nat)
def isLd(o:Oper):Bool:=o.guard.isNone && match o.op with
 |.load _ _=>true
 |_=>false
def frzX(h:List (Nat×Blk)):Option TV->Prop
 |some (.v (.row _))=>True
 |some (.p id _)=>match look id h with
  |some (.con _)=>True
  |_=>False
 |_=>False
def frzO(op:Op)(st:St):Prop:=match op with
 |.load _ x=>frzX st.h (opv st.σ x)
 |_=>False
def frzL(l:List Oper)(i:Nat)(st:St):Prop:=match l[i]? with
 |some o=>frzO o.op st
 |none=>False
structure Gent where
 li:List Bool
 d:Nat
 g:Gnode
def awGs(P:Program)(T:Lay)(l:List Oper)(R:Nat->St->Prop):List (Nat×Nat)->St->Prop
 |[],_=>True
 |(i,k)::r,st=>fb P T l i st (R k)/\awGs P T l R r st
def awG(P:Program)(T:Lay)(l:List Oper)(K:St->Prop):List Gent->Nat->St->Prop
 |[],_,_=>False
 |_::r,k+1,st=>awG P T l K r k st
 |e::r,0,st=>match e.g with
  |.fin=>K { st with t:=nrmT l st.t }
  |.one i k=>fb P T l i { st with t:=nrmT l st.t } (awG P T l K r k)
  |.ld i k=>frzL l i { st with t:=nrmT l st.t } /\ fb P T l i { st with t:=nrmT l st.t } (awG P T l K r k)
  |.alt js=>awGs P T l (awG P T l K r) js { st with t:=nrmT l st.t }
  |.nam id k=>∀b,awG P T l K r k { st with h:=nam id b st.h }
def Gent.to(r:List Gent)(e:Gent)(i k:Nat):Bool:=match r[k]? with
 |some e'=>e'.li == e.li.set i true && Nat.blt e'.d e.d
 |none=>false
def okG(ops:Array Oper):List Gent->Bool
 |[]=>true
 |e::r=>okG ops r && match e.g with
  |.fin=>(Region.ready .any ops e.li.toArray).isEmpty
  |.one i k=>(Region.ready .any ops e.li.toArray).contains i && Region.free .any ops e.li.toArray i && ((ops[i]?).map qt == some true) && e.to r i k
  |.ld i k=>(Region.ready .any ops e.li.toArray).contains i && Region.free .any ops e.li.toArray i && ((ops[i]?).map isLd == some true) && e.to r i k
  |.nam _ k=>match r[k]? with
   |some e'=>e'.li == e.li && Nat.ble e'.d e.d
   |none=>false
  |.alt js=> !(Region.ready .any ops e.li.toArray).isEmpty && (Region.ready .any ops e.li.toArray).all (fun j=>js.any fun x=>x.1 == j) && js.all fun x=>e.to r x.1 x.2
def qb6(ops:Array Oper)(t:List Gent):Bool:=jaf ops && okG ops t && match t with
 |e::_=>e.li == List.replicate ops.size false && Nat.ble e.d ops.size
 |[]=>false
theorem qac{l:List Oper}{R:Nat->St->Prop}{st:St}{x:Nat×Nat}: ∀ {js:List (Nat×Nat)},awGs P T l R js st->x∈js->fb P T l x.1 st (R x.2)
 |y::r,h,hx=>by
  rcases vt.1 hx with rfl|hx
  .exact h.1
  exact qac h.2 hx
theorem jic{r:List Gent}{e:Gent}{i k:Nat}(h:e.to r i k=true):∃e',r[k]?=some e'/\e'.li=e.li.set i true/\e'.d<e.d:=by
 unfold Gent.to at h;split at h
 .rename_i e' he;simp only[vn] at h;exact⟨e',he,eq_of_beq h.1,xb9 h.2⟩
 cases h
section
variable {ops : Array Oper}{rd : Option Nat}{w0 w : World}{M : Nat -> Prop}{F0 F : Frz}{ρ : Nat -> Nat}{a : Act}{st : St}{Q : Exit -> Act -> World -> Prop}
theorem qvc{l:List Oper}(S:SimS P T M F0 w0 F ρ st a w):SimS P T M F0 w0 F ρ { st with t:=nrmT l st.t } a w:=by
 have e:(St.mk st.n (nrmT l st.t) st.h st.o).σ=st.σ:=funext fun i=>jbn _ _ _
 show Sim P T M F0 w0 F ρ st.n (St.mk st.n (nrmT l st.t) st.h st.o).σ st.h st.o a w
 rw[e];exact S
def jg3(F0 F:Frz):Frz:= { c:=F.c,m:=F.m,z:=F0.z }
theorem jmu(S:SimS P T M F0 w0 F ρ st a w):SimS P T M (jg3 F0 F) w F ρ st a w:=
  { S with
    lay:=⟨⟨⟨(Sim.laid S).1.c,(Sim.laid S).1.m⟩,(Sim.laid S).2⟩,S.lay.2⟩
    le:=⟨fun _ _ h=>h,fun _ _ h=>h⟩
    new:=fun _ _ h=>.inl h
    newm:=fun _ _ h=>.inl h
    bel:=BelM.refl M w
    hM:=fun j hj=>S.hM j (xc S.bel.size hj) }
theorem jmv{F':Frz}{ρ':Nat->Nat}{st':St}{a':Act}{w':World}(S:SimS P T M F0 w0 F ρ st a w)(S':SimS P T M (jg3 F0 F) w F' ρ' st' a' w'):SimS P T M F0 w0 F' ρ' st' a' w'/\Le F F':=
  have hle:Le F F':=⟨S'.le.c,S'.le.m⟩
  ⟨{ S' with
    lay:=S.lay
    le:=S.le.trans hle
    new:=fun p v h=>(S'.new p v h).elim (S.new p v) .inr
    newm:=fun p v h=>(S'.newm p v h).elim (S.newm p v) .inr
    bel:=S.bel.trans S'.bel
    hM:=S.hM },hle⟩
theorem qqy{i:Nat}{o:Oper}{K:St->Prop}{next:Act->World->Prop}(hi:ops[i]?=some o)(S:SimS P T M F0 w0 F ρ st a w)(h:fb P T ops.toList i st K) 
  (k:∀F' ρ' st' a' w',SimS P T M F0 w0 F' ρ' st' a' w'->Le F F'->K st'->next a' w'):wpOpIn (fc rd) 0 P ops Q i next a w:=
 jtd hi (jmu S) h fun F' ρ' st' a' w' S' hK=>k F' ρ' st' a' w' (jmv S S').1 (jmv S S').2 hK
def mo(rd:Option Nat)(P:Program)(ops:Array Oper)(Q:Exit->Act->World->Prop):Nat->Frz->Array Bool->Act->World->Prop
 |0,_,li,a,w=>Region.ready .any ops li=[]/\Q .normal a w
 |fuel+1,F,li,a,w=>(Region.ready .any ops li=[]->Q .normal a w)/\∀i∈Region.ready .any ops li,wpOpIn (fc rd) 0 P ops Q i (fun a' w'=>∃F',Le F F'/\Sees F' w'/\mo rd P ops Q fuel F' (li.setIfInBounds i true) a' w') a w
theorem qcl:∀(fuel:Nat) (F:Frz) (li:Array Bool) (a:Act) (w:World),mo rd P ops Q fuel F li a w->wpAnyIn (fc rd) 0 P .any ops Q fuel li a w
 |0,_,_,_,_,h=>h
 |fuel+1,_,_,_,_,h=>⟨h.1,fun i hi=>wpOpIn_mono (fun a' w' ⟨F',_,_,h'⟩=>qcl fuel F' _ a' w' h') (h.2 i hi)⟩
theorem qq8{F F':Frz}(h:Le F F'):∀ {fuel:Nat} {li:Array Bool} {a:Act} {w:World},mo rd P ops Q fuel F' li a w->mo rd P ops Q fuel F li a w
 |0,_,_,_,k=>k
 |_+1,_,_,_,k=>⟨k.1,fun i hi=>wpOpIn_mono (fun _ _ ⟨F2,h1,h2⟩=>⟨F2,h.trans h1,h2⟩) (k.2 i hi)⟩
theorem Sees.le{F F':Frz}{w:World}(h:Le F F')(h':Sees F' w):Sees F w:=⟨fun p v e=>h'.c p v (h.c p v e),fun b xs e=>h'.m b xs (h.m b xs e)⟩
theorem qlu{i:Nat}{oi:Oper}{v:Value}(hi:ops[i]?=some oi)(hg:oi.guard=none)(hpl:jaf ops=true)(hQ:∀c a w,¬Q (.panic c) a w):
  ∀(fuel:Nat) (F:Frz) (li:Array Bool) (a:Act) (w:World),Sees F w->(∀j oj,ops[j]?=some oj->j≠i->li.getD j true=false->(∀e∈oj.after,Region.binds .any e=true->e.on≠i)->oi.apart ops oj=true)->
   i∈Region.ready .any ops li->(∀w,Sees F w->(execOp a.eval oi).run P w=.ok (.value v) w)->
   mo rd P ops Q fuel F (li.setIfInBounds i true) (a.put oi.dst v) w->mo rd P ops Q (fuel+1) F li a w:=by
 have self:∀ {K:Act->World->Prop} {a:Act} {w:World} {F:Frz},Sees F w->(∀w,Sees F w->(execOp a.eval oi).run P w=.ok (.value v) w)->K (a.put oi.dst v) w->wpOpIn (fc rd) 0 P ops Q i K a w:=fun {K a w F} hs hy hK=>by
  unfold wpOpIn;simp only[hi];have hw:Region.wanted oi (yielded ops a.tmps)=true:=by unfold Region.wanted;rw[hg]
  rw[hw,ve rfl];exact cx (hy w hs) hK
 intro fuel
 induction fuel with
 |zero=>
  intro F li a w hs _ hr hy H;refine⟨fun h=>zfe,fun j hj=>?_⟩;by_cases hji:j=i
  .subst hji;exact self hs hy ⟨F,Le.refl F,hs,H⟩
  have:=ready_mono hj hji;rw[H.1] at this;cases this
 |succ fuel ih=>
  intro F li a w hs hfree hr hy H;refine⟨fun h=>zfe,fun j hj=>?_⟩;by_cases hji:j=i
  .subst hji;exact self hs hy ⟨F,Le.refl F,hs,H⟩
  have h1:=H.2 j (ready_mono hj hji);obtain⟨hjun,oj,hoj,hall⟩:=mem_ready.1 hj
  have hnot:∀e∈oj.after,Region.binds .any e=true->e.on≠i:=fun e he hb heq=>by
   have g1:=hall e he hb;have g0:=(mem_ready.1 hr).1;rw[heq] at g1;rcases xk i li.size with h'|h'
   .simp[h'] at g0 g1;rw[g0] at g1;cases g1
   simp[Array.getElem?_eq_none h'] at g1
  obtain⟨p1,p2,p3⟩:=Oper.apart_spec (hfree j oj hoj hji hjun hnot);obtain⟨q1,q2⟩:=jbi hpl hoj;have hsi:=(jbi hpl hi).2
  have hfree':∀k ok,ops[k]?=some ok->k≠i->(li.setIfInBounds j true).getD k true=false->(∀e∈ok.after,Region.binds .any e=true->e.on≠i)->oi.apart ops ok=true:=fun k ok hk hki hun hno=>by
   refine hfree k ok hk hki ?_ hno;by_cases hjk:j=k
   .subst hjk;exact hjun
   exact zd5
  have next:∀a' w',((∀w,Sees F w->(execOp a'.eval oi).run P w=.ok (.value v) w)/\∃F',Le F F'/\Sees F' w'/\mo rd P ops Q fuel F' ((li.setIfInBounds i true).setIfInBounds j true) (a'.put oi.dst v) w')->∃F',Le F F'/\Sees F' w'/\mo rd P ops Q (fuel+1) F' (li.setIfInBounds j true) a' w':=fun a' w' h3=>by
   obtain⟨h4,F',h5,h6,h7⟩:=h3;exact⟨F',h5,h6,ih F' (li.setIfInBounds j true) a' w' h6 hfree' (ready_mono hr (yp hji)) (fun w hw=>h4 w (Sees.le h5 hw)) (by rw[Array.setIfInBounds_comm _ _ hji];exact h7)⟩
  refine wpOpIn_mono next ?_;unfold wpOpIn at h1 ⊢;simp only[hoj] at h1 ⊢;rw[wanted_put (ops:=ops) oj a oi.dst v p1] at h1;split
  .rename_i hw;rw[ve hw] at h1
   exact qb3 (ops:=ops) q1 q2 p1 p2 hQ (I:=fun a'=>∀w,Sees F w->(execOp a'.eval oi).run P w=.ok (.value v) w) (fun u=>by rw[execOp_put (ops:=ops) oi hsi a oj.dst u p3];exact hy)
    (fun dd=>by rw[execOp_put (ops:=ops) oi hsi { a with defers:=dd::a.defers } oj.dst undef p3];exact hy) h1
  rename_i hw;rw[vd hw] at h1;refine⟨fun _ _=>trivial,?_,?_⟩
  .rw[execOp_put (ops:=ops) oi hsi a oj.dst undef p3];exact hy
  rw[<- Act.put_comm a v undef p2];exact h1.2
theorem qw9{t:TypeId}{ad:Addr}{cs:List V}{g:Nat->Value}{v:V}(h:At F ad cs g)(hl:ldV P t cs=some v):∃x,∀w',Sees F w'->(loadVar t ad).run P w'= .ok x w':=by
 unfold ldV at hl;cases hb:aggB P t with
 |none=>rw[hb] at hl;cases hl
 |some b=>
  rw[hb] at hl;cases b with
  |true=>
   simp only[msi] at hl;obtain⟨r,hr,rfl⟩:=hl;obtain⟨rfl,hn⟩:=ja5 hr
   have hi:∃i,P.info? t=some i:=by
    unfold aggB at hb;cases hu:P.underlying t with
    |none=>rw[hu] at hb;cases hb
    |some d=>exact jg6 hu
   obtain⟨i,hi⟩:=hi;refine⟨.agg ((List.range (P.cellsOf t)).map g).toArray,fun w' hF=>?_⟩;have hrun:=run_loadCells (P:=P) w' ad (P.cellsOf t) g (fun j hj=>hF _ _ (h.at_ j cs[j] (gge omq)));simp[loadVar,rz hb,ik hi,hrun,Result.andThen]
  |false=>
   simp only[xda] at hl;refine⟨g 0,fun w' hF=>?_⟩;have:=hF _ _ (h.at_ 0 v hl);have h0:ad.add 0=ad:=by simp[Addr.add]
   rw[h0] at this;simp[loadVar,rz hb,Result.andThen,this]
theorem qz7{o:Oper}{K:St->Prop}(S:SimS P T M F0 w0 F ρ st a w)(hp:isLd o=true)(hz:frzO o.op st)(h:dp P T o st K):∃v,∀w',Sees F w'->(execOp a.eval o).run P w'= .ok (.value v) w':=by
 simp only[isLd,vn] at hp;obtain⟨-,hp⟩:=hp;split at hp
 .rename_i t x ho;have h':ldK P o t x st K:=by unfold dp at h;rw[ho] at h;exact h
  unfold ldK at h';rw[ho] at h' hz;have G:=Sim.good S;cases he:evq P (opv st.σ) st.h (.load t x) with
  |none=>exfalso;rw[he] at h';exact h'
  |some tv=>
   simp only[evq,xaz,msi] at he;obtain⟨cs,h1,v,h2,rfl⟩:=he;simp only[frzO] at hz
   have key:∃ad g,a.eval x=.pointer (some ad)/\At F ad cs g:=by
    unfold frzX at hz;split at hz
    .rename_i cs' hx;rw[hx] at h1;cases h1;obtain⟨ad,g,e,hat⟩:=rm (show Rep F (.row _) (a.eval x) from G.opr x _ hx);exact⟨ad,g,e,hat⟩
    .rename_i id off hx;have e:=show a.eval x=_ from G.opr x _ hx
     rw[hx] at h1;split at hz
     .rename_i cs' hk;simp only[behind,memV,hk,vk] at h1;subst h1;obtain⟨g,g1,g2,g3⟩:=G.blk id _ hk;exact⟨_,fun j=>g (off+j),e,fun c hc=>g1 c (xbn hc),fun j c hc=>by rw[eu];exact g2 _ c zez,fun j c hc=>g3 _ c zez⟩
     exact hz.elim
    exact hz.elim
   obtain⟨ad,g,e,hat⟩:=key;obtain⟨y,hy⟩:=qw9 (P:=P) hat h2;refine⟨y,fun w' hw'=>?_⟩;unfold execOp;rw[ho];have:(Instr.loadAt t (a.eval x)).run P w'= .ok y w':=by simp[Instr.loadAt,e,Instr.sureAddr,hy w' hw']
   simp[this,Result.andThen]
 cases hp
theorem qqt{o:Oper}{st:St}{K:St->Prop}(h:isLd o=true)(hk:mz P T o st K):dp P T o st K:=by
 unfold mz at hk;unfold isLd at h;split at hk
 .rename_i ho;rw[ho] at h;simp at h
 exact hk
theorem jdm{K:St->Prop}(hpl:jaf ops=true)(hQ:∀c a w,¬Q (.panic c) a w)(hK:∀F' ρ' st' a' w',SimS P T M F0 w0 F' ρ' st' a' w'->K st'->Q .normal a' w'):∀(t:List Gent) (k:Nat) (e:Gent) (fuel:Nat) (F:Frz) (ρ:Nat->Nat) (st:St) (a:Act) (w:World),
  okG ops t=true->t[k]?=some e->e.d<=fuel->SimS P T M F0 w0 F ρ st a w->awG P T ops.toList K t k st->mo rd P ops Q fuel F e.li.toArray a w
 |[],k,e,fuel,F,ρ,st,a,w,ho,he,hd,S,h=>by cases he
 |x::r,k+1,e,fuel,F,ρ,st,a,w,ho,he,hd,S,h=>by
  simp only[okG,vn] at ho;exact jdm hpl hQ hK r k e fuel F ρ st a w ho.1 (by simpa using he) hd S h
 |x::r,0,e,fuel,F,ρ,st,a,w,ho,he,hd,S,h=>by
  simp only[List.getElem?_cons_zero,vk] at he;subst he;simp only[okG,vn] at ho;obtain⟨ho,hx⟩:=ho;have S':=qvc (l:=ops.toList) S
  have first:∀ {i k:Nat} {e':Gent} {f':Nat} {o:Oper},ops[i]?=some o->o.guard=none->i∈Region.ready .any ops x.li.toArray->Region.free .any ops x.li.toArray i=true->r[k]?=some e'->e'.li=x.li.set i true->e'.d<=f'->
    (∃v,∀w',Sees F w'->(execOp a.eval o).run P w'= .ok (.value v) w')->dp P T o { st with t:=nrmT ops.toList st.t } (awG P T ops.toList K r k)->mo rd P ops Q (f'+1) F x.li.toArray a w:=fun {i k e' f' o} hoi hgd hri h3 he' hli hlt hv hs=>by
   obtain⟨v,hv⟩:=hv;refine qlu (P:=P) hoi hgd hpl hQ f' F _ a w S.sees (Region.free_spec hoi h3) hri hv ?_
   have:=jgf (rd:=rd) (Q:=Q) (next:=fun a' w'=>∃F',Le F F'/\Sees F' w'/\mo rd P ops Q f' F' (x.li.toArray.setIfInBounds i true) a' w') (jmu S') hs fun F' ρ' st' a' w' S2 hK'=>by
    obtain⟨S3,hle⟩:=jmv S' S2;have:=jdm hpl hQ hK r k e' f' F' ρ' st' a' w' ho he' hlt S3 hK';rw[hli,<- List.setIfInBounds_toArray] at this;exact⟨F',hle,S3.sees,this⟩
   have h6:=this.2;rw[Oper.semAt_eq _ _ _ (jbi hpl hoi).1,hv w S.sees] at h6;obtain⟨F',hle,-,h7⟩:∃F',Le F F'/\Sees F' w/\mo rd P ops Q f' F' (x.li.toArray.setIfInBounds i true) (a.put o.dst v) w:=h6;exact qq8 hle h7
  unfold awG at h;cases hg:x.g with
  |fin=>
   rw[hg] at hx h;have hr:Region.ready .any ops x.li.toArray=[]:=List.isEmpty_iff.1 hx;have hq:Q .normal a w:=hK F ρ _ a w S' h;cases fuel with
   |zero=>exact⟨hr,hq⟩
   |succ n=>exact⟨fun _=>hq,by rw[hr];simp⟩
  |one i k=>
   rw[hg] at hx h;simp only[vn] at hx;obtain⟨⟨⟨h2,h3⟩,h4⟩,h5⟩:=hx;obtain⟨e',he',hli,hlt⟩:=jic h5;obtain⟨f',rfl⟩:∃f',fuel=f'+1:=⟨fuel-1,omq⟩;have hri:i∈Region.ready .any ops x.li.toArray:=by simpa using h2
   obtain⟨o,hoi⟩:=jei hri;rw[hoi] at h4;have hp:qt o=true:=by simpa using h4
   have hgd:o.guard=none:=by
    exact zd7
   have hs:dp P T o { st with t:=nrmT ops.toList st.t } (awG P T ops.toList K r k):=by
    simp only[fb] at h;have hi':ops.toList[i]?=some o:=by simpa using hoi
    rw[hi'] at h;simp only[gdV,hgd,oh] at h;exact juc hp h
   obtain⟨v,hv⟩:=jym S' hp hs;exact first hoi hgd hri h3 he' hli omq ⟨v,fun w' _=>hv w'⟩ hs
  |ld i k=>
   rw[hg] at hx h;simp only[vn] at hx;obtain⟨⟨⟨h2,h3⟩,h4⟩,h5⟩:=hx;obtain⟨e',he',hli,hlt⟩:=jic h5;obtain⟨f',rfl⟩:∃f',fuel=f'+1:=⟨fuel-1,omq⟩;have hri:i∈Region.ready .any ops x.li.toArray:=by simpa using h2
   obtain⟨o,hoi⟩:=jei hri;rw[hoi] at h4;have hp:isLd o=true:=by simpa using h4
   have hgd:o.guard=none:=by
    simp only[isLd,vn] at hp;exact Option.isNone_iff_eq_none.1 hp.1
   have hi':ops.toList[i]?=some o:=by simpa using hoi
   obtain⟨hz,h⟩:=h
   have hz':frzO o.op { st with t:=nrmT ops.toList st.t } := by
    simp only[frzL] at hz;rw[hi'] at hz;exact hz
   have hs:dp P T o { st with t:=nrmT ops.toList st.t } (awG P T ops.toList K r k):=by
    simp only[fb] at h;rw[hi'] at h;simp only[gdV,hgd,oh] at h;exact qqt hp h
   exact first hoi hgd hri h3 he' hli omq (qz7 S' hp hz' hs) hs
  |nam id k=>
   rw[hg] at hx h;simp only at hx h;split at hx
   .rename_i e' he';simp only[vn] at hx;have h3:e'.d<=x.d:=xb9 hx.2;have:=jdm hpl hQ hK r k e' fuel F ρ _ a w ho he' omq (Sim.nam S id) (h (ρ id));rw[eq_of_beq hx.1] at this;exact this
   cases hx
  |alt js=>
   rw[hg] at hx h;simp only[vn,xi,xcu] at hx;obtain⟨⟨h0,h1⟩,h2⟩:=hx
   have hdp:x.d≠0:=fun e0=>by
    cases hr:Region.ready .any ops x.li.toArray with
    |nil=>rw[hr] at h0;cases h0
    |cons j l=>
     obtain⟨y,hy,-⟩:=yd.1 (h1 j (by rw[hr];exact .head _));obtain⟨e',-,-,hlt⟩:=jic (h2 y hy);omega
   obtain⟨f',rfl⟩:∃f',fuel=f'+1:=⟨fuel-1,omq⟩;refine⟨fun hr=>?_,fun j hj=>?_⟩
   .rw[hr] at h0;cases h0
   obtain⟨y,hy,hyj⟩:=yd.1 (h1 j hj);have hyj:=eq_of_beq hyj;obtain⟨e',he',hli,hlt⟩:=jic (h2 y hy);have hs:=qac h hy;rw[hyj] at hs hli;obtain⟨o,hoi⟩:=jei hj;refine qqy hoi S' hs fun F' ρ' st' a' w' S2 hle hK'=>?_;have:=jdm hpl hQ hK r y.2 e' f' F' ρ' st' a' w' ho he' omq S2 hK';rw[hli,<- List.setIfInBounds_toArray] at this;exact⟨F',hle,S2.sees,this⟩
end
theorem aq[hm:Mixed P]{id:Nat}{ops:Array Oper}{l:List Oper}{st:St}{Q:AX->St->Prop}(t:List Gent)(k:awG P T l (Q .nm) t 0 st)(hl:ops.toList=l:=by rfl)(hB:qb6 ops t=true:=by kernel_rfl):aw P T (.region id ops true) st Q:=by
 subst hl;refine jq3 ?_;intro rd M F0 w0 F ρ a w Q' id S hQ;simp only[qb6,vn] at hB;obtain⟨⟨h1,h2⟩,h3⟩:=hB
 match t,h2,h3,k with
 |e::r,h2,h3,k=>
  simp only[vn] at h3;obtain⟨h3,h4⟩:=h3;have hx:Ext F w F w.drew:=(Ext.refl S.sees).drew;have:=jdm (rd:=rd) (Q:=fun e a w=>match e with|.normal=>∃F' ρ' st',SimS P T M F0 w0 F' ρ' st' a w/\Q .nm st'|_=>False) h1 (fun _ _ _ h=>h) (fun F' ρ' st' a' w' S' hK=>⟨F',ρ',st',S',hK⟩) (e::r) 0 e ops.size F ρ st a w.drew h2 rfl (xb9 h4) (Sim.ext S hx) k;rw[eq_of_beq h3] at this;have hz:(List.replicate ops.size false).toArray=Array.replicate ops.size false:=by simp
  rw[hz] at this;refine wpIn_mono (wpIn_region_any hm.eq (qcl _ _ _ _ _ this)) ?_;intro e a' w' hq;cases e with
  |normal=>obtain⟨F',ρ',st',S',hK⟩:=hq;exact hQ F' ρ' st' a' w' S' hK
  |_=>exact hq.elim
def awGk(P:Program)(T:Lay)(l:List Oper)(K:St->Prop)(r:List Gent)(k:Nat):St->Prop:=fun st=>awG P T l K r k st
theorem quk{l:List Oper}{K:St->Prop}{st:St}{r:List Gent}{k:Nat}: awGk P T l K r k st=awG P T l K r k st:=rfl
theorem qyi{l:List Oper}{K:St->Prop}{st:St}{li:List Bool}{d:Nat}{r:List Gent}: awG P T l K (⟨li,d,.fin⟩::r) 0 st=K { st with t:=nrmT l st.t } := rfl
theorem qyg{l:List Oper}{K:St->Prop}{st:St}{li:List Bool}{d:Nat}{r:List Gent}{i k:Nat}: awG P T l K (⟨li,d,.one i k⟩::r) 0 st=fb P T l i { st with t:=nrmT l st.t } (awGk P T l K r k):=rfl
theorem xac{l:List Oper}{K:St->Prop}{st:St}{li:List Bool}{d:Nat}{r:List Gent}{i k:Nat}: awG P T l K (⟨li,d,.ld i k⟩::r) 0 st=(frzL l i { st with t:=nrmT l st.t } /\ fb P T l i { st with t:=nrmT l st.t } (awGk P T l K r k)):=rfl
theorem qyh{l:List Oper}{K:St->Prop}{st:St}{li:List Bool}{d:Nat}{r:List Gent}{id k:Nat}: awG P T l K (⟨li,d,.nam id k⟩::r) 0 st=∀b,awG P T l K r k { st with h:=nam id b st.h } := rfl
theorem qul{l:List Oper}{K:St->Prop}{st:St}{e:Gent}{r:List Gent}{k:Nat}: awG P T l K (e::r) (k+1) st=awG P T l K r k st:=rfl
def pw(P:Program)(T:Lay)(l:List Oper)(K:St->Prop)(r:List Gent)(js:List (Nat×Nat)):St->Prop:=awGs P T l (awG P T l K r) js
theorem qyj{l:List Oper}{K:St->Prop}{st:St}{li:List Bool}{d:Nat}{r:List Gent}{js:List (Nat×Nat)}: awG P T l K (⟨li,d,.alt js⟩::r) 0 st=pw P T l K r js { st with t:=nrmT l st.t } := rfl
theorem quj{l:List Oper}{K:St->Prop}{st:St}{r:List Gent}: pw P T l K r [] st=True:=rfl
theorem qq3{l:List Oper}{K:St->Prop}{st:St}{r:List Gent}{i k:Nat}{js:List (Nat×Nat)}: pw P T l K r ((i,k)::js) st=(fb P T l i st (awGk P T l K r k)/\pw P T l K r js st):=rfl
def bz(n k:Nat):List Bool:=(List.range n).map k.testBit
def prs:List Nat->List (Nat×Nat)
 |i::j::r=>(i,j)::prs r
 |_=>[]
def ge(n:Nat):List Nat->Gent
 |[k]=>⟨bz n k,((List.range n).filter fun i=> !k.testBit i).length,.fin⟩
 |[k,i,j]=>⟨bz n k,((List.range n).filter fun i=> !k.testBit i).length,.one i j⟩
 |[k,i,j,_]=>⟨bz n k,((List.range n).filter fun i=> !k.testBit i).length,.ld i j⟩
 |[k,i,j,_,_,_]=>⟨bz n k,((List.range n).filter fun i=> !k.testBit i).length,.alt [(i,j)]⟩
 |k::r=>⟨bz n k,((List.range n).filter fun i=> !k.testBit i).length,.alt (prs r)⟩
 |[]=>⟨[],0,.fin⟩
def gd(n:Nat)(l:List (List Nat)):List Gent:=l.map (ge n)
section
variable {l : List Oper}{K : St -> Prop}{st : St}{n k i j i1 j1 i2 j2 i3 j3 i4 j4 i5 j5 : Nat}{r : List (List Nat)}
theorem qzp:awG P T l K (gd n ([k]::r)) 0 st=K { st with t:=nrmT l st.t } := rfl
theorem qzo:awG P T l K (gd n ([k,i,j]::r)) 0 st=fb P T l i { st with t:=nrmT l st.t } (awGk P T l K (gd n r) j):=rfl
theorem gd_ld:awG P T l K (gd n ([k,i,j,i1]::r)) 0 st=(frzL l i { st with t:=nrmT l st.t } /\ fb P T l i { st with t:=nrmT l st.t } (awGk P T l K (gd n r) j)):=rfl
theorem gd_a1:awG P T l K (gd n ([k,i,j,i1,i2,i3]::r)) 0 st=pw P T l K (gd n r) [(i,j)] { st with t:=nrmT l st.t } := rfl
theorem gd_a2:awG P T l K (gd n ([k,i1,j1,i2,j2]::r)) 0 st=pw P T l K (gd n r) [(i1,j1),(i2,j2)] { st with t:=nrmT l st.t } := rfl
theorem gd_a3:awG P T l K (gd n ([k,i1,j1,i2,j2,i3,j3]::r)) 0 st=pw P T l K (gd n r) [(i1,j1),(i2,j2),(i3,j3)] { st with t:=nrmT l st.t } := rfl
theorem gd_a4:awG P T l K (gd n ([k,i1,j1,i2,j2,i3,j3,i4,j4]::r)) 0 st=pw P T l K (gd n r) [(i1,j1),(i2,j2),(i3,j3),(i4,j4)] { st with t:=nrmT l st.t } := rfl
theorem gd_a5:awG P T l K (gd n ([k,i1,j1,i2,j2,i3,j3,i4,j4,i5,j5]::r)) 0 st=pw P T l K (gd n r) [(i1,j1),(i2,j2),(i3,j3),(i4,j4),(i5,j5)] { st with t:=nrmT l st.t } := rfl
theorem qwp{e:List Nat}: awG P T l K (gd n (e::r)) (k+1) st=awG P T l K (gd n r) k st:=rfl
end
@[congr] theorem awG_cg{l : List Oper}{K : St -> Prop}{r : List Gent}{k : Nat}{st st' : St}(h : st = st'): awG P T l K r k st = awG P T l K r k st' := by rw [h]
@[congr] theorem xaj{l : List Oper}{K : St -> Prop}{r : List Gent}{js : List (Nat × Nat)}{st st' : St}(h : st = st'): pw P T l K r js st = pw P T l K r js st' := by rw [h]
@[congr] theorem awGk_cg{l : List Oper}{K : St -> Prop}{r : List Gent}{k : Nat}: awGk P T l K r k = awGk P T l K r k := rfl
theorem fj{c:Code}{st st':St}{Q:AX->St->Prop}(k:Kp)(hk:cb k st=some st')(h:aw P T c st' Q):aw P T c st Q:=jsk (fun _ _ _ _ _ _ _ S=>jdl hk S) h
theorem tz{α:Type}{l:List Oper}{K:St->Prop}{t:List Gent}{st:St}(good:α->Prop)(k:Kp)(S:α->St)(hc:∀st st',cb k st=some st'->K st'->K st)(h:∀x,good x->K (S x)) 
  (hm:∀K':St->Prop,(∀st x,good x->cb k st=some (S x)->K' st)->awG P T l K' t 0 st):awG P T l K t 0 st:=hm K fun st x hg hk=>hc st _ hk (h x hg)
def mid(k:Kp)(φ:Prop)(S:St)(Q:AX->St->Prop):AX->St->Prop
 |.nm,st=>φ/\cb k st=some S
 |e,st=>Q e st
theorem qz5(k:Kp)(φ:Prop)(S:St)(Q:AX->St->Prop)(st:St):mid k φ S Q .rt st=Q .rt st:=rfl
theorem xab{x y:Code}{st:St}{Q:AX->St->Prop}(k:Kp)(φ:Prop)(S:St)(h1:aw P T x st (mid k φ S Q))(h2:φ->aw P T y S Q):aw P T (.seq x y) st Q:=qcj (jo6 h1 fun e st' h=>by
 cases e with
 |nm=>exact fj k h.2 (h2 h.1)
 |ex id=>exact h
 |rt=>exact h)
theorem midK {k : Kp} {φ : Prop} {S : St} {Q : AX -> St -> Prop} {st : St} (h : φ) (hk : cb k st = some S := by
      first
      |rfl
      |(simp only[cb,ew,jx,nl,nk,ay,dk,Nat.reduceEqDiff,↓reduceIte,cv,qi,qo,Nat.reduceBEq,List.all_nil,qe,qb,xb3,xb8,xb1,okK,List.all_cons,ew,xam,xby,cond_true,xbr,Nat.reduceLT];rfl)):mid k φ S Q .nm st:=⟨h,hk⟩
theorem rg {α : Type} {good : α -> Prop} {k : Kp} {S : α -> St} {K' : St -> Prop} {st : St} (hK : ∀ st x,good x -> cb k st = some (S x) -> K' st) (x : α) (hx : good x) (hk : cb k st = some (S x) := by
      first
      |rfl
      |(simp only[cb,ew,jx,nl,nk,ay,dk,Nat.reduceEqDiff,↓reduceIte,cv,qi,qo,Nat.reduceBEq,List.all_nil,qe,qb,xb3,xb8,xb1,okK,List.all_cons,ew,xam,xby,cond_true,xbr,Nat.reduceLT];rfl)):K' st:=hK st x hx hk
abbrev tt:Bool:=true
abbrev ff:Bool:=false
theorem runG {p q r:Prop} (hr:r) (h:q) (e:r->q->p:=by
    intro hr h
    (simp (config := {maxSteps := 1000000,implicitDefEqProofs := false}) (disch := (first | omega | (simp only [vr,List.length_cons,List.length_nil,xw,xq,vm]; omega))) only [↓qzp,↓qzo,↓gd_ld,↓gd_a1,↓gd_a2,↓gd_a3,↓gd_a4,↓gd_a5,↓qwp,↓qyi,↓qyg,↓xac,frzL,frzO,frzX,↓qyj,↓qul,↓qyh,↓quj,↓qq3,quk,fb,nrmT,xg,and_true,↓jo5,jq2,↓joa,jq6,↓jo8,jq4,jct,↓joc,jq8,effD,jfm,↓oh,↓tl,dp,mz,qz,gdV,movK,putK,retK,retD,retM,evK,jo4,jo9,jo7,job,jq1,
          jaj,jn0,jp6,jn2,jp5,jmz,jp3,jp4,jkl,jn1,bw,jrw,jrv,jrx,nu_v,nu_p,nu_m,nu_s,jg,jpw,jpv,jpg,jpu,jpt,jps,jpr,jcl,rh,re,σ_mk,nt,sf,sx,jry,sy,js0,jrz,jmx,je5,sg,jr,qe,jol,jnu,qb,jmk,jmd,jip,ji4,qo,qi,cv,ra,appK,appL,appS,appX,
          ay,dk,seth,ba,ldK,ldO,stO,dh,sc,jly,joj,jmj,jos,jou,jot,vN_v,vN_p,vN_m,jn9,jna,jnb,jr0,jqz,dj,jm4,jpj,jpk,jpl,jnr,jns,mapN,jr2,jok,jqb,plc,pid,pof,mpc,bg,setb,lk,bk,ep,remK,fo,Blk.wn,Blk.nm,nam,Nat.reduceDiv,Nat.reduceMod,Nat.reduceEqDiff,Nat.reduceBEq,Nat.reduceBNe,↓reduceIte,Nat.reduceAdd,Nat.reduceMul,Nat.reduceLT,Nat.reduceLeDiff,Nat.reduceSub,jsl,xb8,xb3,xam,xav,xc7,xar,yz,xau,Option.isSome_none,yw,reduceCtorEq,
          jql,jqm,jqk,js4,js5,js3,jrl,jrk,jo1,jmi,
          evq,evb,behind,memV,ml,ov,cy,jre,js6,jqp,jqo,jd7,bytB,mkK,jrp,jro,jq9,jqj,jpz,jr5,jr4,jqh,jr1,jom,jmm,jqd,jof,jlp,jrr,jrg,mapE,gm,eqC,nilK,jnh,jni,jp9,jpa,jpb,jn7,jpc,jpd,Option.getD_none,Option.getD_some,jl8,jmh,jlw,jnl,
          idxV,bytV,minV,binV,jqq,jd2,jcs,eqOp,jfz,capV,ki,lenV,jcb,optV,vsOf,mu,bsV,pq,oneV,V.one,V.cells,jsa,frzR,frzC,frz1,frzB,
          xbz,xas,List.take_succ_cons,List.take_zero,List.length_cons,List.length_nil,List.nil_append,List.cons_append,xd,Option.map_some,Option.map_none,Option.bind_some,Option.bind_none,vk,Option.isSome_some,
          List.getElem?_cons_zero,List.getElem?_cons_succ,xe,vm,jqy,jkb,b_ft,b_tf,nn_t,jnk,joq,jor,jp8,jn6,jp7,jn4,jmn,jow,jov,jqi,xbt,eq_self,xy,xf,Int.reduceToNat,Int.reduceLE,Int.reduceLT,Int.reduceEq,Int.reduceNeg,xbp,Nat.one_mul,xl,Nat.add_zero,joo,jnv,jnw,jnx,jny,jnz,jo0,xbr,xc8,xbs,xcw,cond_true,cond_false,xb1,hr])
    first|done|exact h):p:=e hr h
theorem ax {p q r:Prop} (hr:r) (h:q) (e:r->q->p:=by
  intro hr g
  repeat (first
   |with_reducible refine jaw ?_
   |with_reducible refine jax ?_
   |refine runC ?_
   |refine qv rfl ?_
   |refine runR ?_
   |refine runG hr ?_)
  exact g):p:=e hr h
end Go.Ab
namespace Go.Ab
open Go.RowKit
variable {P : Program}{T : Lay}
abbrev qe4(st:St)(i:Nat):St:=⟨st.n,(i,.v (.val (.slice none 0 0)))::st.t,st.h,delo i st.o⟩
abbrev qe2(st:St)(i d r cap:Nat)(e:TypeId)(size:Nat):St:=⟨st.n,(i,.v (.val (.slice (some ⟨r,0,none⟩) 0 cap)))::st.t,(d,.var [] (some r) (some (e,size,cap)))::st.h,delo i st.o⟩
theorem qmk{M:Nat->Prop}{F0 F:Frz}{w0 w:World}{ρ:Nat->Nat}{st:St}{a:Act}(S:SimS P T M F0 w0 F ρ st a w){i d size:Nat}{e:TypeId} 
  (h1:look i st.t=some (.v (.slice size []))) (ho:cv i st.o=some e) (hz:P.cellsOf e=size) (hd:d<st.n) (hdh:look d st.h=none):
  SimS P T M F0 w0 F ρ (qe4 st i) a w\/∃r cap,(∀id k q,look id st.h=some k->k.nm=some q->q≠r)/\cap<=maxLen/\SimS P T M F0 w0 F (fun j=>if j=d then r else ρ j) (qe2 st i d r cap e size) a w:=by
 obtain⟨x,hx,hrep⟩:=S.tm i _ h1;obtain⟨j,c,hj,hic⟩:=ru ho
 have hil:i<st.n:=by
  have:=(asi.1 hx).1;rw[<- S.n];exact this
 have hheld:held a w ρ i=some x:=by
  rw[kx (by have:=S.nn;have:=S.n;omega)];exact hx
 obtain⟨-,⟨m,ys,hrow,hfz⟩,hloc⟩:=S.oval hj hic hheld
 have hown:∀(j':Nat) e' c',(delo i st.o)[j']?=some (e',c')->∀i'∈c',∀u g,held a w ρ i'=some u->x.ownBlock=some g->u.ownBlock≠some g:=fun j' e' c' hj' i' hi' u g hu hg=>by
  obtain⟨g1,g2⟩:=jet j' e' c' hj' hi'
  have hne:j≠j':=fun he=>by
   subst he;rw[hj] at g1;cases g1;exact g2 hic
  exact S.od j j' e c e' c' hne hj g1 i hic i' hi' x u g hheld hu hg
 have S1:Sim P T M F0 w0 F ρ st.n st.σ st.h (delo i st.o) a w:=Sim.delo S i;rcases hrow.2 with⟨hv,-⟩|⟨g,cap,cur,hv,-,⟨fz,hfz0,hg⟩,-,hcm,hsz,-⟩
 .left;subst hv;refine { S1 with tm:=fun k tv e'=>?_,wf:=fun k tv e'=>?_ }
  .have e2:look k ((i,TV.v (.val (.slice none 0 0)))::st.t)=some tv:=e';rw[ae] at e2;split at e2
   .rename_i hk;subst hk;cases e2;exact⟨_,hx,Rep.val _⟩
   exact S1.tm k tv e2
  have e2:look k ((i,TV.v (.val (.slice none 0 0)))::st.t)=some tv:=e';rw[ae] at e2;split at e2
  .cases e2;trivial
  exact S1.wf k tv e2
 right;subst hv
 have hm:m=0:=by
  obtain⟨a0,c0,he⟩:=ja0 hrep;cases he;rfl
 subst hm;have hM:=(hfz g rfl).1;refine⟨g,cap,fun id k q hk hq he=>?_,hcm,?_⟩
 .have:=S.nb id k q hk hq;subst he;exact hloc id k hk (by rw[this];rfl)
 have hlt:g<w.heap.size:=(asi.1 hg).1
 have S2:=Sim.bind S1 (d:=d) (b:=g) (k:=.var [] (some g) (some (e,size,cap))) hd hdh
  ⟨cur,⟨(e,fz),rfl,by rw[hsz,hz],hcm,hfz0⟩,hg,vj _,(fun _ h=>nomatch h),(fun _ _ _ h=>by simp at h),fun p v hp hpb=>by have:=(hfz g rfl).2 p v hp hpb;omega⟩
  hM hlt (fun id k' hk' he=>hloc id k' hk' (by rw[he];rfl)) (fun j' e' c' hj' i' hi' u hu=>hown j' e' c' hj' i' hi' u g hu rfl) (fun q hq=>by cases hq;rfl)
 refine { S2 with tm:=fun k tv e'=>?_,wf:=fun k tv e'=>?_ }
 .have e2:look k ((i,TV.v (.val (.slice (some ⟨g,0,none⟩) 0 cap)))::st.t)=some tv:=e';rw[ae] at e2;split at e2
  .rename_i hk;subst hk;cases e2;exact⟨_,hx,Rep.val _⟩
  exact S2.tm k tv e2
 have e2:look k ((i,TV.v (.val (.slice (some ⟨g,0,none⟩) 0 cap)))::st.t)=some tv:=e';rw[ae] at e2;split at e2
 .cases e2;trivial
 exact S2.wf k tv e2
abbrev fcSt(st:St)(k id j n size:Nat)(ds cs:List V)(nm:Option Nat)(kk:Option (TypeId×Nat×Nat)):St:=⟨st.n,st.t,seth id (.var (ba cs j [.slice size (be 0 n size ds)]) nm kk) (frz1 k (seth k (.var ds) st.h)),st.o⟩
theorem jeu{M:Nat->Prop}{F0 F:Frz}{w0 w:World}{ρ:Nat->Nat}{st:St}{a:Act}(S:SimS P T M F0 w0 F ρ st a w){k id j n cap size b:Nat}{ds cs:List V}{nm:Option Nat}{kk kk':Option (TypeId×Nat×Nat)} 
  (h1:look k st.h=some (.var ds (some b) kk')) (h2:look id st.h=some (.var cs nm kk)) (hne:id≠k) (h3:cs[j]?=some (.val (.slice (some ⟨b,0,none⟩) n cap))) (h4:n<=cap) (h5:cap<=maxLen) (h6:n*size<=ds.length):
  ∃F',SimS P T M F0 w0 F' ρ (fcSt st k id j n size ds cs nm kk) a w:=by
 have hρ:=S.nb k _ b h1 rfl;have S0:=Sim.unname S h1;have hb0:look k (seth k (.var ds) st.h)=some (.var ds):=by rw[sb,ve rfl,h1];rfl
 obtain⟨F',S1⟩:=jds S0 k;have hcon:look k (frz1 k (seth k (.var ds) st.h))=some (.con ds):=by rw[im,ve rfl,hb0];rfl
 have hid:look id (frz1 k (seth k (.var ds) st.h))=some (.var cs nm kk):=by rw[im,vd hne,sb,vd hne];exact h2
 refine⟨F',?_⟩;obtain⟨⟨g,q1,q2,q3⟩,_⟩:=S1.hp k _ hcon;have hrep:=jed (b:=ρ k) (off:=0) (n:=n) (size:=size) (cap:=cap) q1 q2 q3 omq h4 h5;rw[hρ] at hrep;obtain⟨⟨xs,ty,p1,p2,p3,p4,p5⟩,hM,hlt⟩:=S1.hp id _ hid;have hlc:=(gsi.1 h3).1;have hfit:j+[V.slice size (be 0 n size ds)].length<=cs.length:=by simp;omega
 have hlx:j<xs.size:=omq;have hx:=al (p4 _ _ _ h3 (xu hlx))
 exact Sim.know S1 hid (k:=.var (ba cs j [.slice size (be 0 n size ds)]) nm kk) ⟨xs,ty,p1,by rw[rj hfit];exact p2,fun c hc=>by
  obtain⟨i,hi⟩:=xm hc;rw[dy hfit] at hi;split at hi
  .have:=vp hi;exact zde
  .exact p3 c (vp hi),fun i c y e1 e2=>by
  rw[dy hfit] at e1;split at e1
  .rename_i hin;simp at hin;have hj0:i=j:=omq;subst hj0;simp at e1;subst e1;rw[xu hlx] at e2;cases e2;rw[hx];exact hrep
  .exact p4 i c y e1 e2,p5⟩ rfl
section rows
variable {α : Type}{cs : α -> List V}{z : Nat}
theorem ct(hz:∀x,(cs x).length=z):∀l:List α,((l.map cs).flatten).length=l.length*z
 |[]=>by simp
 |x::l=>by
  have:=ct hz l;rw[vy,List.flatten_cons,vr,this,hz,List.length_cons,Nat.succ_mul,xbm]
theorem jwe{l:List α}{k:Nat}{x:α}(h:l[k]?=some x)(y:α):l=l.take k++x::l.drop (k+1)/\l.set k y=l.take k++y::l.drop (k+1):=by
 obtain⟨hlt,rfl⟩:=gsi.1 h;exact⟨by rw[List.getElem_cons_drop,xc2],xd3.trans (ve hlt)⟩
theorem qcu(hz:∀x,(cs x).length=z){l:List α}{k:Nat}{x:α}(h:l[k]?=some x):∃A B,(l.map cs).flatten=A++(cs x++B)/\A.length=k*z/\∀y:α,((l.set k y).map cs).flatten=A++(cs y++B):=by
 obtain⟨hlt,-⟩:=gsi.1 h;refine⟨((l.take k).map cs).flatten,((l.drop (k+1)).map cs).flatten,?_,?_,fun y=>?_⟩
 .have h1:=(jwe h x).1
  conv=>lhs;rw[h1]
  rw[xz,xd1,vy,List.flatten_cons]
 .rw[ct hz,xq,xaw omq]
 rw[(jwe h y).2,xz,xd1,vy,List.flatten_cons]
theorem jyh(hz:∀x,(cs x).length=z):∀(l:List α) (i:Nat),((l.map cs).flatten).drop (i*z)=((l.drop i).map cs).flatten
 |l,0=>by rw[xcs];rfl
 |[],i+1=>by simp
 |p::l,i+1=>by
  have ih:=jyh hz l i;rw[vy,List.flatten_cons,xbz,<- ih,show (i+1)*z=(cs p).length+i*z by rw[hz,Nat.succ_mul,xbm],xbv]
theorem il(hz:∀x,(cs x).length=z)(l:List α):be 0 l.length z ((l.map cs).flatten)=l.map cs:=by
 apply xc6;intro i;simp only[be,xe,xl];by_cases h:i<l.length
 .rw[List.getElem?_range h,gge h];simp only[Option.map_some];rw[jyh hz,xat h,vy,List.flatten_cons,List.take_left' (hz _)]
 rw[xay zfk,xay omq];rfl
end rows
end Go.Ab
namespace Go.Ab
open Go.RowKit
variable {P : Program}{T : Lay}
variable {es:List (List V)}{e:TypeId}{args:List V}{f:FuncId}{off:Nat}{α:Type}{st:St}{fn:Func}{c:Code}
def qbm(rs:List ResultVar)(es:List (List V))(e:TypeId)(off:Nat):AX->St->Prop
 |.ex _,_=>False
 |_,st=>match rs with
  |[.tmp t]=>∃id cs size,st.σ t=some (.s id 0 es.length size)/\look id st.h=some (.var (es.flatten++cs))/\cv (plc id off) st.o=some e/\off<1000000000
  |_=>False
theorem qg5{es:List (List V)}{e:TypeId}{off:Nat}(_hm:P.follows .mixedOrders=true)(hE:Enters P f)(hf:P.funcs[f]?=some fn)(hb:fn.body=some c)(n:Nat)(hn:n=max fn.ntmps args.length) 
  (h:aw P T c { n:=n,t:=nt 0 args,h:=[],o:=[] } (qbm fn.results.toList es e off)) (hnn:n<=999000:=by decide):jdc P T f args es e off:=by
 refine⟨hE,fun w F xs hF hT ha=>?_⟩;refine ja2 hf hb (jah c (sim0 hF hT ha n hn hnn) h) ?_ (fun id st hq=>hq);intro en F1 ρ1 st1 a w' S1 hd hq he
 have aux:(∃F' ρ st,SimS P T (fun g=>w.heap.size<=g) F w F' ρ st a w'/\match fn.results.toList with
  |[.tmp t]=>∃id cs size,st.σ t=some (.s id 0 es.length size)/\look id st.h=some (.var (es.flatten++cs))/\cv (plc id off) st.o=some e/\off<1000000000
  |_=>False)->∃v,(results fn a.tmps).run P w'= .ok v w'/\∃y F',Ending.returned v=.returned y/\Ext F w F' w'/\NewO P F' w' w.heap.size es e off y:=by
  rintro⟨F',ρ,st,S,ho⟩;split at ho
  .rename_i t hl;have hrl:fn.results= #[.tmp t]:=by apply yj;simpa using hl
   have hy:(results fn a.tmps).run P w'= .ok (a.eval (.tmp t)) w':=by
    unfold results;rw[hrl];simp;simp only[Act.eval,xce]
   refine⟨_,hy,_,F',rfl,jbx S,?_⟩;obtain⟨id,cs,size,h1,h2,h3,h4⟩:=ho;obtain⟨cap,q1,q2,q3,hv⟩:=show ∃cap,es.length<=cap/\cap<=maxLen/\0<es.length/\a.eval (.tmp t)=_ from S.opr (.tmp t) _ h1
   obtain⟨r1,r2,r3⟩:=S.hp id _ h2;obtain⟨j,c0,g1,g2⟩:=ru h3;obtain⟨v,k1,⟨m,ys,k2,k3⟩,k4⟩:=S.ow j e c0 g1;have k5:=k1 _ g2;rw[dz (by have:=ss id off;omega),gl h4,qj h4] at k5;exact⟨ρ id,cap,hv,q1,q2,yn.1 q3,r2,r3,r1.pre,v,k5,⟨m,ys,k2,k3⟩,k4 id _ h2⟩
  exact ho.elim
 cases en with
 |nm=>exact aux ⟨F1,ρ1,st1,S1,hq⟩
 |rt=>exact aux ⟨F1,ρ1,st1,S1,hq⟩
 |ex id=>exact absurd rfl (he id)
theorem finNO{t id size:Nat}(cs:List V)(h:st.σ t=some (.s id 0 es.length size))(h2:look id st.h=some (.var (es.flatten++cs)))(h3:cv (plc id off) st.o=some e)(h4:off<1000000000):qbm [.tmp t] es e off .rt st:=⟨id,cs,size,h,h2,h3,h4⟩
theorem jdc.toN(size:Nat)(h:jdc P T f args es e off):DenN P T f args size es:=
 ⟨h.1,fun w F xs h1 h0 h2=>(h.2 w F xs h1 h0 h2).mono fun _ _ ⟨y,F',e1,e2,b,cap,q1,q2,q3,q4,q5,q6,q7,_⟩=>⟨y,F',e1,e2,.inr ⟨b,cap,q1,q2,q3,q4,q5,q6,q7⟩⟩⟩
def lpv(k:α->Kp)(R:α->Prop)(m:α->Nat)(S:α->St)(y:α):St->Prop:=fun st'=>∃z,R z/\m z<m y/\cb (k z) st'=some (S z)
theorem qe7{x:Code}{Q:AX->St->Prop}(k:α->Kp)(R:α->Prop)(m:α->Nat)(S:α->St)(x0:α)(hR:R x0)(h0:cb (k x0) st=some (S x0)) 
  (hr:∀y,R y->aw P T x (S y) (sq (lpv k R m S y) Q)):aw P T (.loop x) st Q:=by
 refine qq1 ⟨fun n st=>∃y,R y/\m y=n/\st=S y,m x0,⟨k x0,S x0,h0,x0,hR,rfl,rfl⟩,?_⟩;rintro n st ⟨y,hy,rfl,rfl⟩;refine jo6 (hr y hy) fun e st' hq=>?_;cases e with
 |nm=>
  obtain⟨z,hz,hlt,hk⟩:=hq;exact⟨k z,m z,S z,hlt,hk,z,hz,rfl,rfl⟩
 |rt=>exact hq
 |ex id=>exact hq
theorem jfb{k:α->Kp}{R:α->Prop}{m:α->Nat}{S:α->St}{y:α}(z:α)(hR:R z)(hm:m z<m y)(hk:cb (k z) st=some (S z)):lpv k R m S y st:=⟨z,hR,hm,hk⟩
theorem jz2{ts hs:List Nat}{n p:Nat}{t T':List (Nat×TV)}{h H':List (Nat×Blk)}{e:TypeId}{c:List Nat}{o:List (TypeId×List Nat)}(hc:c.contains p=true)(hp:hs.contains (pid p)=true)(ht:jx hs ts t=some T':=by rfl)(hh:nl hs h=some H':=by rfl):
  cb ⟨ts,hs,[p],[]⟩ ⟨n,t,h,(e,c)::o⟩=some ⟨n,T',H',[(e,[p])]⟩:=by
 simp only[cb,ew,ht,hh,nk,cv,hc,xf,List.all_nil,okK,List.all_cons,hp,xb8,xby,cond_true]
def qzq(P:Program)(rs:List ResultVar)(Post:Option Blk->V->Prop):AX->St->Prop
 |.ex _,_=>False
 |_,st=>∃r r',resS P st rs=some r'/\Wk r' r/\(Post none r\/∃id k b,look id st.h=some k/\k.nm=some b/\Post (some k) r)
theorem jp{Post:Option Blk->V->Prop}(_hm:P.follows .mixedOrders=true)(hE:Enters P f)(hf:P.funcs[f]?=some fn)(hb:fn.body=some c)(n:Nat)(hn:n=max fn.ntmps args.length) 
  (h:aw P T c { n:=n,t:=nt 0 args,h:=[],o:=[] } (qzq P fn.results.toList Post)) (hnn:n<=999000:=by decide):DenU P T f args Post:=by
 refine⟨hE,fun w F xs hF hT ha=>?_⟩;refine ja2 hf hb (jah c (sim0 hF hT ha n hn hnn) h) ?_ (fun id st hq=>hq);intro en F1 ρ1 st1 a w' S1 hd hq he
 have aux:(∃F' ρ st,SimS P T (fun g=>w.heap.size<=g) F w F' ρ st a w'/\∃r r',resS P st fn.results.toList=some r'/\Wk r' r/\(Post none r\/∃id k b,look id st.h=some k/\k.nm=some b/\Post (some k) r))->
   ∃v,(results fn a.tmps).run P w'= .ok v w'/\∃y F' r,Ending.returned v=.returned y/\Ext F w F' w'/\Rep F' r y/\(Post none r\/∃b k,w.heap.size<=b/\b<w'.heap.size/\RepB F' w' b k/\k.nm=some b/\Post (some k) r):=by
  rintro⟨F',ρ,st,S,r,r',hr',hwk,hP⟩;obtain⟨v,h1,h2⟩:=jbh S hr';refine⟨v,h1,v,F',r,rfl,jbx S,qr hwk h2,?_⟩;rcases hP with hP|⟨id,k,b,hk,hb,hP⟩
  .exact .inl hP
  obtain⟨r1,r2,r3⟩:=S.hp id k hk;rw[S.nb id k b hk hb] at r1 r2 r3;exact .inr ⟨b,k,r2,r3,r1,hb,hP⟩
 cases en with
 |nm=>exact aux ⟨F1,ρ1,st1,S1,hq⟩
 |rt=>exact aux ⟨F1,ρ1,st1,S1,hq⟩
 |ex id=>exact absurd rfl (he id)
end Go.Ab
namespace Go.Ab
open Go.RowKit
variable {P : Program}{T : Lay}{rd : Option Nat}
def qcw:Op->Bool
 |.load _ _=>true
 |.fieldAddr _ _ _=>true
 |.move _=>true
 |.assign _=>true
 |.field _ _ _=>true
 |.binOp _ _ _ _ _=>true
 |.nilCheck _=>true
 |_=>false
structure YF (P:Program) (σ:Sto) (h:List (Nat×Blk)) (o:Oper) (tv:TV):Prop where
 gd:o.guard=none
 pl:qcw o.op=true
 ev:evq P (opv σ) h o.op=some tv
theorem YF.one{σ:Sto}{h:List (Nat×Blk)}{o:Oper}{tu tv:TV}(a:YF P σ h o tu)(b:YF P σ h o tv):tu=tv:=by
 have:=a.ev;rw[b.ev] at this;exact(vk _ _▸this).symm
theorem YF.g{σ:Sto}{h:List (Nat×Blk)}{o:Oper}{tv:TV}(l:List Oper)(a:YF P σ h o tv):dg P T l σ h o tv:=.inl ⟨by unfold gdV;rw[a.gd],.inl a.ev⟩
theorem YF.wf{σ:Sto}{h:List (Nat×Blk)}{o:Oper}{tv:TV}(a:YF P σ h o tv)(hw:WfS h σ):wfT h tv:=jci hw.opr a.ev
theorem qrg{ops:Array Oper}{σ:Sto}{o:Oper}{d:Option Tmp}{v:TV}(hd:∀d',d=some d'->d' ∉ o.looksAt ops):∀x∈o.op.operands,opv (upd σ d v) x=opv σ x:=fun x hx=>qb1 fun d' e1 e2=>hd d' e1 (by
 subst e2
 exact xd6 _ (List.mem_filterMap.2 ⟨.tmp d',by simpa using hx,rfl⟩))
theorem YF.upd{ops:Array Oper}{σ:Sto}{h:List (Nat×Blk)}{o:Oper}{tv:TV}{d:Option Tmp}{v:TV}(hd:∀d',d=some d'->d' ∉ o.looksAt ops):YF P (upd σ d v) h o tv↔YF P σ h o tv:=by
 have:=jxb (P:=P) (h:=h) o.op (qrg (σ:=σ) (v:=v) hd);constructor
 .exact fun a=>⟨a.gd,a.pl,by rw[<- this];exact a.ev⟩
 exact fun a=>⟨a.gd,a.pl,by rw[this];exact a.ev⟩
structure EffN (P:Program) (T:Lay) (n:Nat) (op:Oper) (x:HL) (σ:Sto) (R:TV->HL->Prop):Prop where
 gd:op.guard=none
 step:∀(t:List (Nat×TV)) (K:St->Prop),(∀z∈op.op.operands,opv (fun i=>look i t) z=opv σ z)->(∀tv y,R tv y->∀st',st'.n=n->st'.σ=upd (fun i=>look i t) op.dst tv->st'.h=y.1->st'.o=y.2->K st')->dp P T op ⟨n,t,x.1,x.2⟩ K
 gr:∀tv y,R tv y->∀id,look id x.1≠none->look id x.1=look id y.1
 lg:∀tv y,R tv y->Lg op.dst x.2 y.2
 wf:∀tv y,R tv y->wfT y.1 tv
 ne:∃tv y,R tv y
variable {ops : Array Oper}{m n : Nat}{md : Region.Mode}{D : List Nat}{Q : HL -> Sto -> Prop}
def StN(P:Program)(T:Lay)(n:Nat)(D:List Nat)(o:Oper)(y:HL)(σ:Sto)(K:HL->Sto->Prop):Prop:=
 (effD D o=false/\∃tv,YF P σ y.1 o tv/\K y (upd σ o.dst tv))\/(effD D o=true/\∃R,EffN P T n o y σ R/\∀tv y',R tv y'->K y' (upd σ o.dst tv))
theorem StN.some{o:Oper}{y:HL}{σ:Sto}{K:HL->Sto->Prop}(h:StN P T n D o y σ K):∃y' tv,K y' (upd σ o.dst tv):=by
 rcases h with⟨-,tv,-,hK⟩|⟨-,R,hR,hK⟩
 .exact⟨y,tv,hK⟩
 obtain⟨tv,y',hr⟩:=hR.ne;exact⟨y',tv,hK tv y' hr⟩
theorem StN.mono{o:Oper}{y:HL}{σ:Sto}{K K':HL->Sto->Prop}(hw:WfS y.1 σ)(h:StN P T n D o y σ K)(hk:∀y' σ',WfS y'.1 σ'->K y' σ'->K' y' σ'):StN P T n D o y σ K':=by
 rcases h with⟨he,tv,hy,hK⟩|⟨he,R,hR,hK⟩
 .exact .inl ⟨he,tv,hy,hk _ _ (hw.upd (hy.wf hw)) hK⟩
 exact .inr ⟨he,R,hR,fun tv y' hr=>hk _ _ ((hw.more fun id hid=>by rw[<- hR.gr tv y' hr id hid];exact hid).upd (hR.wf tv y' hr)) (hK tv y' hr)⟩
variable {w : World}{M : Nat -> Prop}{F0 F : Frz}{w0 : World}{ρ : Nat -> Nat}{σ : Sto}{a : Act}
def js2(P:Program)(o:Oper)(st:St)(K:St->Prop):Prop:=
 qcw o.op=true/\o.guard=none/\match evq P (opv st.σ) st.h o.op with
  |some tv=>K { st with t:=match o.dst with|none=>st.t|some d=>(d,tv)::st.t }
  |none=>False
def jsn(P:Program)(T:Lay)(g:FuncId)(vs:List V)(st:St)(d:Nat)(K:St->Prop):Prop:=
 (∃r,Den P T g vs r/\K { st with t:=(d,.v r)::st.t,o:=remo d st.o })\/(∃r e,DenO P T g vs e r/\K { st with t:=(d,.v r)::st.t,o:=(e,[d])::remo d st.o })\/
 ∃(q:Nat) (Post:Option Blk->V->Prop),DenU P T g vs Post/\q<st.n/\look q st.h=none/\(∀N,∃ro r,Post ro r/\∀b p,ro=some b->b.nm=some p->N<=p)/\
  (∀r,Post none r->K { st with t:=(d,.v r)::st.t,o:=remo d st.o })/\
  ∀b r,Post (some b) r->(∀id k p p',look id st.h=some k->k.nm=some p->b.nm=some p'->p≠p')->K { st with t:=(d,.v r)::st.t,h:=(q,b)::st.h,o:=remo d st.o }
def js1(P:Program)(T:Lay)(op:Oper)(st:St)(K:St->Prop):Prop:=
 match op.op with
 |.call c=>match c.callee with
  |.value f=>match vOf (opv st.σ f),vsOf (opv st.σ) c.args.toList,op.dst with
   |some (.func g cap),some vs,some d=>op.guard=none/\d<st.n/\jsn P T g (vs++cap) st d K
   |_,_,_=>False
  |_=>False
 |_=>False
def awU(P:Program)(T:Lay)(D:List Nat):List Oper->St->(St->Prop)->Prop
 |[],st,K=>K st
 |o::rest,st,K=>if effD D o=true then js1 P T o st fun st'=>awU P T D rest st' K else js2 P o st fun st'=>awU P T D rest st' K
def awUk(P:Program)(T:Lay)(D:List Nat)(rest:List Oper)(K:St->Prop):St->Prop:=fun st'=>awU P T D rest st' K
@[congr] theorem awU_cg{D : List Nat}{l : List Oper}{st st' : St}{K : St -> Prop}(h : st = st'): awU P T D l st K = awU P T D l st' K := by rw [h]
@[congr] theorem awUk_cg{D : List Nat}{l : List Oper}{K : St -> Prop}: awUk P T D l K = awUk P T D l K := rfl
@[congr] theorem xal{g : FuncId}{vs : List V}{st : St}{d : Nat}{K : St -> Prop}: jsn P T g vs st d K = jsn P T g vs st d K := rfl
@[congr] theorem xag{op : Oper}{st st' : St}{K : St -> Prop}(h : st = st'): js1 P T op st K = js1 P T op st' K := by rw [h]
@[congr] theorem xah{op : Oper}{st st' : St}{K : St -> Prop}(h : st = st'): js2 P op st K = js2 P op st' K := by rw [h]
abbrev pnSt(st:St)(i k b off:Nat):St:=⟨st.n,(i,.v (.val (.pointer (some ⟨b,off,none⟩))))::st.t,nam k b st.h,remo i st.o⟩
theorem qrc{M:Nat->Prop}{F0 F:Frz}{w0 w:World}{ρ:Nat->Nat}{st:St}{a:Act}(S:SimS P T M F0 w0 F ρ st a w){i k off:Nat}(h1:look i st.t=some (.p k off)):SimS P T M F0 w0 F ρ (pnSt st i k (ρ k) off) a w:=by
 have S1:=Sim.nam S k;obtain⟨x,g1,g2⟩:=S.tm i _ h1;have g2:x=.pointer (some ⟨ρ k,off,none⟩):=g2;subst g2;have hT:RepT F ρ (TV.v (.val (.pointer (some ⟨ρ k,off,none⟩)))) (.pointer (some ⟨ρ k,off,none⟩)):=Rep.val _;have:=Sim.putr (d:=i) S1 hT trivial (by have:=(asi.1 g1).1;rw[<- S.n];exact this);rw[jhx g1] at this;unfold SimS;rw[σ_cons];exact this
def ptrP(Q:AX->St->Prop):AX->St->Prop
 |.rt,st=>∃t k off,look t st.t=some (.p k off)/\∀b,Q .rt (pnSt st t k b off)
 |e,st=>Q e st
theorem xaa{c:Code}{st:St}{Q:AX->St->Prop}(h:aw P T c st (ptrP Q)):aw P T c st Q:=mi h fun M F0 w0 F ρ st' a w e S hq=>by
 cases e with
 |nm=>exact⟨F,ρ,st',S,hq⟩
 |ex id=>exact⟨F,ρ,st',S,hq⟩
 |rt=>
  obtain⟨t,k,off,h1,hQ⟩:=hq;exact⟨F,ρ,_,qrc S h1,hQ _⟩
theorem bn{a b:Prop}: (a/\(b/\a))=(a/\b):=propext ⟨fun h=>⟨h.1,h.2.1⟩,fun h=>⟨h.1,h.2,h.1⟩⟩
theorem bq{a b c:Prop}: (a/\(b/\(a/\c)))=(a/\(b/\c)):=propext ⟨fun h=>⟨h.1,h.2.1,h.2.2.2⟩,fun h=>⟨h.1,h.2.1,h.1,h.2.2⟩⟩
end Go.Ab
namespace Go.Ab
open Go.RowKit
variable {P : Program}{T : Lay}
theorem viaA{p q:Prop}(f:q->p)(h:q):p:=f h
def rowE(P:Program)(Q:AX->St->Prop):AX->St->Prop
 |.rt,st=>Q .rt st\/∃(i d:Nat) (e:TypeId) (size:Nat),look i st.t=some (.v (.slice size []))/\cv i st.o=some e/\P.cellsOf e=size/\d<st.n/\look d st.h=none/\Q .rt (qe4 st i)/\∀r cap,cap<=maxLen->Q .rt (qe2 st i d r cap e size)
 |e,st=>Q e st
theorem qy2{c:Code}{st:St}{Q:AX->St->Prop}(h:aw P T c st (rowE P Q)):aw P T c st Q:=mi h fun M F0 w0 F ρ st' a w e S hq=>by
 cases e with
 |nm=>exact⟨F,ρ,st',S,hq⟩
 |ex id=>exact⟨F,ρ,st',S,hq⟩
 |rt=>
  rcases hq with hq|⟨i,d,e,size,h1,h2,h3,h4,h5,h6,h7⟩
  .exact⟨F,ρ,st',S,hq⟩
  rcases qmk S h1 h2 h3 h4 h5 with S'|⟨r,cap,g1,g2,S'⟩
  .exact⟨F,ρ,_,S',h6⟩
  exact⟨F,_,_,S',h7 r cap g2⟩
def lm(e:TypeId)(z:Nat)(es:List (List V))(ro:Option Blk)(v:V):Prop:=
 (ro=none/\es=[]/\v=.val (.slice none 0 0))\/∃r cap,ro=some (.var es.flatten (some r) (some (e,z,cap)))/\es.length<=cap/\cap<=maxLen/\v=.val (.slice (some ⟨r,0,none⟩) es.length cap)
theorem gu{α:Type}(i:Nat):∀(a b:List (Nat×α)),look i (a++b)=match look i a with|some x=>some x|none=>look i b
 |[],b=>by simp[look]
 |(j,x)::a,b=>by
  rw[List.cons_append,ae,ae,gu i a b];split<;>rfl
theorem jgu{α:Type}{i:Nat}{x:α}{a b:List (Nat×α)}(h:look i a=some x):look i (a++b)=some x:=by rw[gu,h]
theorem jut{α:Type}{i:Nat}{a b:List (Nat×α)}(h:look i a=none):look i (a++b)=look i b:=by rw[gu,h]
def okW(h:List (Nat×Blk))(t:List (Nat×TV)):Bool:=t.all fun x=>match refT x.2 with
 |none=>true
 |some id=>(look id h).isSome
theorem jcd{h:List (Nat×Blk)}{t:List (Nat×TV)}(hw:okW h t=true){i:Nat}{tv:TV}(e:look i t=some tv):wfT h tv:=by
 have:=xi.1 hw (i,tv) (ec e);cases tv with
 |v x=>trivial
 |u=>trivial
 |p id off=>simp only[refT] at this;show look id h≠none;intro e;rw[e] at this;cases this
 |m id=>simp only[refT] at this;show look id h≠none;intro e;rw[e] at this;cases this
 |s id off n z=>simp only[refT] at this;show look id h≠none;intro e;rw[e] at this;cases this
theorem qv3{h hr:List (Nat×Blk)}{tv:TV}(hw:wfT h tv):wfT (h++hr) tv:=by
 have key:∀id,look id h≠none->look id (h++hr)≠none:=fun id e=>by
  obtain⟨x,hx⟩:=xan.1 e;rw[jgu hx];simp
 cases tv with
 |v x=>trivial
 |u=>trivial
 |p id off=>exact key id hw
 |m id=>exact key id hw
 |s id off n z=>exact key id hw
theorem DfOk.cut{M M':Nat->Prop}{w:World}: ∀ {ds:List Deferred},DfOk ds M w->(∀D,M D->w.heap[D]?=some (.deferred (some []))->M' D)->DfOk ds M' w
 |[],_,_=>trivial
 |_::_,⟨D,h1,h2,h3,h4,h5⟩,k=>⟨D,h1,k D h2 h3,h3,h4,h5.cut k⟩
theorem Own.cut{F:Frz}{w:World}{M M':Nat->Prop}{e:TypeId}{z:Nat}{y:Value}(h:Own F w M e z y)(k:∀g,y.ownBlock=some g->M g->M' g):Own F w M' e z y:=by
 obtain⟨n,xs,h1,h2⟩:=h;exact⟨n,xs,h1,fun g hg=>⟨k g hg (h2 g hg).1,(h2 g hg).2⟩⟩
theorem RepT.other{F:Frz}{ρ ρ':Nat->Nat}{h:List (Nat×Blk)}{tv:TV}{x:Value}(hr:RepT F ρ tv x)(hw:wfT h tv)(he:∀id,look id h≠none->ρ' id=ρ id):RepT F ρ' tv x:=by
 cases tv with
 |v x=>exact hr
 |u=>exact hr
 |p id off=>simp only[RepT] at hr ⊢;rw[he id hw];exact hr
 |m id=>simp only[RepT] at hr ⊢;rw[he id hw];exact hr
 |s id off n z=>simp only[RepT] at hr ⊢;rw[he id hw];exact hr
def jsb(M:Nat->Prop)(ρ:Nat->Nat)(hr:List (Nat×Blk)):Nat->Prop:=fun g=>M g/\∀id,look id hr≠none->ρ id≠g
section
variable {w0 w : World}{M : Nat -> Prop}{F0 F : Frz}{ρ : Nat -> Nat}{a : Act}{n : Nat}{t : List (Nat × TV)}{h1 hr : List (Nat × Blk)}
theorem qs1{ids:List Nat}(hv:∀id k,look id hr=some k->∃cs nm kk,k=.var cs nm kk)(hi:∀id,look id hr≠none->id∈ids)(h1n:∀id∈ids,look id h1=none)(hw:∀i tv,look i t=some tv->wfT h1 tv) 
  (S:SimS P T M F0 w0 F ρ ⟨n,t,h1++hr,[]⟩ a w):SimS P T (jsb M ρ hr) (jg3 F0 F) w F ρ ⟨n,t,h1,[]⟩ a w:=by
 have B:=jmu S;have old:∀ {id k},look id h1=some k->look id (h1++hr)=some k:=fun e=>jgu e
 have oldr:∀ {id k},look id hr=some k->look id (h1++hr)=some k:=fun {id k} e=>by
  rw[jut (h1n id (hi id zew))];exact e
 have ne:∀ {id k id'},look id h1=some k->look id' hr≠none->ρ id'≠ρ id:=fun {id k id'} e e' he=>by
  obtain⟨k',hk'⟩:=xan.1 e';have:=S.inj _ _ _ _ (oldr hk') (old e) he;subst this;rw[h1n _ (hi _ e')] at e;cases e
 exact {
  n:=B.n
  df:=B.df.cut fun D hD hd=>⟨hD,fun id hid he=>by
   obtain⟨k,hk⟩:=xan.1 hid;obtain⟨cs,nm,kk,rfl⟩:=hv id k hk;obtain⟨xs,ty,g1,-⟩:=(S.hp id _ (oldr hk)).1;rw[he,hd] at g1
   cases g1⟩
  sees:=B.sees
  lay:=⟨B.lay.1,fun g hg hm=>B.lay.2 g hg hm.1⟩
  le:=B.le
  new:=fun _ _ h=>.inl h
  newm:=fun _ _ h=>.inl h
  bel:=BelM.refl _ w
  hM:=fun j hj=>⟨B.hM j hj,fun id hid he=>by
   obtain⟨k,hk⟩:=xan.1 hid;have:=(S.hp id _ (oldr hk)).2.2
   omega⟩
  tm:=B.tm
  wf:=fun i tv e=>hw i tv e
  hp:=fun id k e=>⟨(S.hp id k (old e)).1,⟨(S.hp id k (old e)).2.1,fun id' hid'=>ne e hid'⟩,(S.hp id k (old e)).2.2⟩
  nn:=B.nn
  z:=fun id k h e=>S.z id k h (old e)
  nb:=fun id k b e hb=>S.nb id k b (old e) hb
  inj:=fun id id' k k' e e'=>S.inj id id' k k' (old e) (old e')
  ow:=fun j e c hj=>by simp at hj
  od:=fun j j' e c e' c' _ hj=>by simp at hj
  oc:=fun j e c hj=>by simp at hj }
theorem jm1{ids:List Nat}(hv:∀id k,look id hr=some k->∃cs nm kk,k=.var cs nm kk)(hi:∀id,look id hr≠none->id∈ids)(h1n:∀id∈ids,look id h1=none) 
  (S:SimS P T M F0 w0 F ρ ⟨n,t,h1++hr,[]⟩ a w) {F':Frz} {ρ':Nat->Nat} {st':St} {a':Act} {w':World} (hn:∀id∈ids,look id st'.h=none)
  (S':SimS P T (jsb M ρ hr) (jg3 F0 F) w F' ρ' st' a' w'):SimS P T M F0 w0 F' (fun id=>if(look id hr).isSome then ρ id else ρ' id) { st' with h:=st'.h++hr } a' w':=by
 have oldr:∀ {id k},look id hr=some k->look id (h1++hr)=some k:=fun {id k} e=>by
  rw[jut (h1n id (hi id zew))];exact e
 have hle:Le F F':=⟨S'.le.c,S'.le.m⟩
 have ro:∀id,look id st'.h≠none->(if(look id hr).isSome then ρ id else ρ' id)=ρ' id:=fun id e=>by
  cases hh:look id hr with
  |none=>rfl
  |some k=>exact absurd (hn id (hi id (by rw[hh];simp))) e
 have rr:∀ {id k},look id hr=some k->(if(look id hr).isSome then ρ id else ρ' id)=ρ id:=fun {id k} e=>by rw[e];rfl
 have cases':∀ {id k},look id (st'.h++hr)=some k->look id st'.h=some k\/look id hr=some k:=fun {id k} e=>by
  rw[gu] at e;split at e
  .rename_i x hx;cases e;exact .inl hx
  exact .inr e
 have keep:∀ {id k},look id hr=some k->w'.heap[ρ id]?=w.heap[ρ id]? := fun {id k} e=>S'.bel.block _ (S.hp id k (oldr e)).2.2 fun hm=>hm.2 id zew rfl
 have hh:∀(j:Nat) e c,st'.o[j]?=some (e,c)->∀i∈c,held a' w' (fun id=>if(look id hr).isSome then ρ id else ρ' id) i=held a' w' ρ' i:=fun j e c hj i hi'=>by
  unfold held;split
  .rfl
  rename_i hge
  show w'.cell? ⟨if(look (pid i) hr).isSome then ρ (pid i) else ρ' (pid i),pof i,none⟩=_
  rw[ro _ (S'.oc j e c hj i hi' omq)]
 exact {
  n:=S'.n
  df:=S'.df.cut fun D hD _=>hD.1
  sees:=S'.sees
  lay:=S.lay
  le:=S.le.trans hle
  new:=fun p v h=>(S'.new p v h).elim (S.new p v) fun hm=>.inr hm.1
  newm:=fun p v h=>(S'.newm p v h).elim (S.newm p v) fun hm=>.inr hm.1
  bel:=S.bel.trans ⟨S'.bel.os,S'.bel.tape,S'.bel.output,S'.bel.size,fun q hq hm=>S'.bel.block q hq fun h=>hm h.1⟩
  hM:=S.hM
  tm:=fun i tv e=>by
   obtain⟨x,g1,g2⟩:=S'.tm i tv e;exact⟨x,g1,g2.other (S'.wf i tv e) ro⟩
  wf:=fun i tv e=>qv3 (S'.wf i tv e)
  hp:=fun id k e=>by
   rcases cases' e with e|e
   .have:=S'.hp id k e;rw[ro id zew];exact⟨this.1,this.2.1.1,this.2.2⟩
   rw[rr e];obtain⟨q1,q2,q3⟩:=S.hp id k (oldr e);refine⟨?_,q2,xao q3 S'.bel.size⟩;obtain⟨cs,nm,kk,rfl⟩:=hv id k e;obtain⟨xs,ty,g1,g2,g3,g4,g5⟩:=q1;refine⟨xs,ty,(keep e).trans g1,g2,g3,fun j c x e1 e2=>(g4 j c x e1 e2).mono hle,fun p v hp=>?_⟩;rcases S'.new p v hp with h|h
   .exact g5 p v h
   exact fun he=>h.2 id zew he.symm
  nn:=S'.nn
  z:=fun id k hz e=>by
   rcases cases' e with e|e
   .rw[ro id zew];exact S'.z id k hz e
   rw[rr e];exact S.z id k hz (oldr e)
  nb:=fun id k b e hb=>by
   rcases cases' e with e|e
   .rw[ro id zew];exact S'.nb id k b e hb
   rw[rr e];exact S.nb id k b (oldr e) hb
  inj:=fun id id' k k' e e' he=>by
   rcases cases' e with e|e<;>rcases cases' e' with e'|e'
   .rw[ro id zew,ro id' (by rw[e'];simp)] at he;exact S'.inj id id' k k' e e' he
   .rw[ro id zew,rr e'] at he;exact absurd he.symm ((S'.hp id k e).2.1.2 id' (by rw[e'];simp))
   .rw[rr e,ro id' (by rw[e'];simp)] at he;exact absurd he ((S'.hp id' k' e').2.1.2 id zew)
   rw[rr e,rr e'] at he;exact S.inj id id' k k' (oldr e) (oldr e') he
  ow:=fun j e c hj=>by
   obtain⟨v,g1,g2,g3⟩:=S'.ow j e c hj;refine⟨v,fun i hi'=>(hh j e c hj i hi').trans (g1 i hi'),g2.cut fun g _ hm=>hm.1,fun id k ek=>?_⟩;rcases cases' ek with ek|ek
   .rw[ro id (by rw[ek];simp)];exact g3 id k ek
   rw[rr ek];intro hv';obtain⟨m,xs,-,h2⟩:=g2;exact(h2 _ hv').1.2 id (by rw[ek];simp) rfl
  od:=Sim.od_of S' hh
  oc:=fun j e c hj i hi' hge=>by
   obtain⟨x,hx⟩:=xan.1 (S'.oc j e c hj i hi' hge)
   rw[jgu hx];simp }
end
theorem qub{c:Code}{n:Nat}{t:List (Nat×TV)}{h1 hr:List (Nat×Blk)}{Q:AX->St->Prop}(ids:List Nat) 
  (hv:∀id k,look id hr=some k->∃cs nm kk,k=.var cs nm kk) (hi:∀id,look id hr≠none->id∈ids)
  (h:aw P T c ⟨n,t,h1,[]⟩ (fun e st'=>(ids.all fun i=>(look i st'.h).isNone)=true/\Q e { st' with h:=st'.h++hr }))
  (h1n:(ids.all fun i=>(look i h1).isNone)=true:=by rfl) (hw:okW h1 t=true:=by rfl):aw P T c ⟨n,t,h1++hr,[]⟩ Q:=by
 have no:∀ {l:List (Nat×Blk)},(ids.all fun i=>(look i l).isNone)=true->∀id∈ids,look id l=none:=fun hl id hid=>by
  have:=xi.1 hl id hid;exact Option.isNone_iff_eq_none.1 this
 unfold aw at h ⊢;intro rd M F0 w0 F ρ a w hR S;have S1:=qs1 hv hi (no h1n) (fun i tv e=>jcd hw e) S;refine wpIn_mono (h rd (jsb M ρ hr) (jg3 F0 F) w F ρ a w (fun l hl=>?_) S1) ?_
 .obtain⟨g1,x,g2⟩:=hR l hl;exact⟨fun hm=>g1 hm.1,x,(S.bel.block l (qn g2) g1).trans g2⟩
 intro e a' w' hh;cases e with
 |normal=>obtain⟨F',ρ',st',S',hn,hK⟩:=hh;exact⟨F',_,_,jm1 hv hi (no h1n) S (no hn) S',hK⟩
 |exit id=>obtain⟨F',ρ',st',S',hn,hK⟩:=hh;exact⟨F',_,_,jm1 hv hi (no h1n) S (no hn) S',hK⟩
 |ret=>obtain⟨F',ρ',st',S',hn,hK⟩:=hh;exact⟨F',_,_,jm1 hv hi (no h1n) S (no hn) S',hK⟩
 |goto l=>exact hh
 |panic c=>exact hh
 |outgrown=>exact hh
end Go.Ab
namespace Go.Ab
open Go.RowKit
variable {P : Program}{T : Lay}
variable {Q:AX->St->Prop}{t:List (Nat×TV)}{h:List (Nat×Blk)}{st:St}{e:TypeId}{s:Option (Nat×Nat)}{c:Code}{M:Nat->Prop}{ρ:Nat->Nat}{n:Nat}{l:List Nat}{row:List V}{h1:List (Nat×Blk)}{a:Act}{ids:List Nat}{w:World}{hr:List (Nat×Blk)}{m:List Nat}{h':List (Nat×Blk)}{α:Type}{z:Nat}{w0:World}{F:Frz}{b:List (Nat×Blk)}{F0:Frz}{id:Nat}{q:Nat}{B:List (Nat×Blk)}{A:List (Nat×Blk)}{X:List (Nat×Blk)}{R:List (Nat×Blk)}{c1:List V}{c2:List V}{S:St}
def slO(n:Nat):Option (Nat×Nat)->Value
 |none=>.slice none 0 0
 |some x=>.slice (some ⟨x.1,0,none⟩) n x.2
abbrev sOpt(n:Nat)(s:Option (Nat×Nat)):V:=.val (slO n s)
def rowB(q:Nat)(row:List V)(e:TypeId)(z:Nat):Option (Nat×Nat)->List (Nat×Blk)
 |none=>[]
 |some x=>[(q,.var row (some x.1) (some (e,z,x.2)))]
def okB(n:Nat):Option (Nat×Nat)->Prop
 |none=>n=0
 |some x=>n<=x.2/\x.2<=maxLen
theorem qvb(n:Nat)(s:Option (Nat×Nat)):(slO n s).oneCell'=true:=by cases s<;>rfl
theorem qc{i:Nat}(hi:i≠q):look i (rowB q row e z s++h)=look i h:=by
 cases s with
 |none=>rfl
 |some x=>rw[rowB,List.cons_append,List.nil_append,ae,vd hi]
theorem qmg{i:Nat}{b:Blk}(hi:i≠q):seth i b (rowB q row e z s++h)=rowB q row e z s++seth i b h:=by
 cases s with
 |none=>rfl
 |some x=>rw[rowB,List.cons_append,List.nil_append,seth,vd hi];rfl
theorem ac:(∀n s,(slO n s).oneCell'=true)/\(∀i q row e z s h,i≠q->look i (rowB q row e z s++h)=look i h)/\∀i q b row e z s h,i≠q->seth i b (rowB q row e z s++h)=rowB q row e z s++seth i b h:=
 ⟨qvb,fun _ _ _ _ _ _ _ h=>qc h,fun _ _ _ _ _ _ _ _ h=>qmg h⟩
def AllS(n:Nat)(B:Option (Nat×Nat)->Prop):Prop:=∀s,okB n s->B s
theorem jai{B C:Option (Nat×Nat)->Prop}: (AllS n B/\AllS n C)=AllS n fun s=>B s/\C s:=by
 apply propext;exact⟨fun h s hs=>⟨h.1 s hs,h.2 s hs⟩,fun h=>⟨fun s hs=>(h s hs).1,fun s hs=>(h s hs).2⟩⟩
theorem callR{g:FuncId}{vs:List V}{d:Option Tmp}{K:St->Prop}{k:V->Option TypeId->Prop}{kn:Nat->List (List V)->Prop}{es:List (List V)}(q n:Nat)(hl:es.length=n)(h:DenU P T g vs (lm e z es))(hq:q<st.n)(hn:look q st.h=none) 
  (hk:AllS n fun s=>retM d K { st with h:=rowB q es.flatten e z s++st.h } (.v (sOpt n s))):Call P T g vs k kn (CallX P T g vs [] st d K):=by
 subst hl
 exact fg (jda q (by rw[xd];exact h) (fun r hr=>by
  rcases hr with⟨-,h2,rfl⟩|⟨r',cap',h1,-⟩
  .have:=hk none (by subst h2;rfl);exact this
  .cases h1) (fun b r hr _=>by
  rcases hr with⟨h1,-⟩|⟨r',cap',h1,h2,h3,rfl⟩
  .cases h1
  .cases h1
   exact hk (some (r',cap')) ⟨h2,h3⟩) hq hn)
def Sub(P:Program)(T:Lay)(S st:St):Prop:=∀(M:Nat->Prop) (F0:Frz) (w0:World) (F:Frz) (ρ:Nat->Nat) (a:Act) (w:World),SimS P T M F0 w0 F ρ st a w->SimS P T M F0 w0 F ρ S a w
theorem bu(hs ts:List Nat)(hn:S.n=st.n)(ht:jx hs ts st.t=some S.t)(ho:S.o=[])(hh:∀id k,look id S.h=some k->look id st.h=some k)(hw:okW S.h S.t=true):Sub P T S st:=fun M F0 w0 F ρ a w X=>by
 unfold SimS at X ⊢;rw[ho,hn]
 exact {
  n:=X.n,df:=X.df,sees:=X.sees,lay:=X.lay,le:=X.le,new:=X.new,newm:=X.newm,bel:=X.bel,hM:=X.hM,nn:=X.nn
  tm:=fun i tv e=>X.tm i tv (ja7 ht i tv e).1
  wf:=fun i tv e=>jcd hw e
  hp:=fun id k e=>X.hp id k (hh id k e)
  z:=fun id k h e=>X.z id k h (hh id k e)
  nb:=fun id k b e hb=>X.nb id k b (hh id k e) hb
  inj:=fun id id' k k' e e'=>X.inj id id' k k' (hh id k e) (hh id' k' e')
  ow:=fun j e c hj=>by simp at hj
  od:=fun j j' e c e' c' _ hj=>by simp at hj
  oc:=fun j e c hj=>by simp at hj }
theorem xa7(hs:Sub P T S st)(h:aw P T c S Q):aw P T c st Q:=jsk hs h
def Ids(h:List (Nat×Blk))(l:List Nat):Prop:=∀id k,look id h=some k->id∈l/\∃cs nm kk,k=.var cs nm kk
theorem qwk:Ids [] []:=fun _ _ h=>by cases h
theorem cf(s:Option (Nat×Nat)):Ids (rowB q row e z s) [q]:=fun id k h=>by
 cases s with
 |none=>cases h
 |some x=>
  simp only[rowB,ae] at h;split at h
  .rename_i he;cases h;subst he;exact⟨.head _,_,_,_,rfl⟩
  cases h
theorem ez{a:List (Nat×Blk)}(ha:Ids a l)(hb:Ids b m):Ids (a++b) (l++m):=fun id k h=>by
 rw[gu] at h;split at h
 .rename_i x hx;cases h;exact⟨xd6 _ (ha id _ hx).1,(ha id _ hx).2⟩
 exact⟨xdf _ (hb id _ h).1,(hb id _ h).2⟩
theorem Ids.v(hi:Ids h l):∀id k,look id h=some k->∃cs nm kk,k=.var cs nm kk:=fun id k e=>(hi id k e).2
theorem Ids.i(hi:Ids h l):∀id,look id h≠none->id∈l:=fun id e=>by
 obtain⟨k,hk⟩:=xan.1 e;exact(hi id k hk).1
theorem Ids.dsj(hi:Ids h l)(hi':Ids h' m)(hd:(l.all fun i=> !m.contains i)=true:=by rfl):∀id,look id h≠none->look id h'=none:=fun id e=>by
 cases hk:look id h' with
 |none=>rfl
 |some k=>
  have h1:=xi.1 hd id (hi.i id e);have h2:=(hi' id k hk).1;rw[List.contains_iff_mem.2 h2] at h1;cases h1
theorem jhd{a:List (Nat×Blk)}(hd:∀id,look id a≠none->look id b=none)(id:Nat):look id (a++b)=look id (b++a):=by
 rw[gu,gu];cases ha:look id a with
 |none=>cases look id b<;>rfl
 |some x=>rw[hd id (by rw[ha];simp)]
theorem qjf{x:List (Nat×Blk)}{a:List (Nat×Blk)}(h:∀id,look id a=look id b)(id:Nat):look id (x++a)=look id (x++b):=by rw[gu,gu,h]
def frQ(ids:List Nat)(hr:List (Nat×Blk))(Q:AX->St->Prop):AX->St->Prop:=fun e st'=>(ids.all fun i=>(look i st'.h).isNone)=true/\Q e { st' with h:=st'.h++hr }
theorem aw_fr(hi:Ids hr ids)(h:aw P T c ⟨n,t,h1,[]⟩ (frQ ids hr Q)) 
  (h1n:(ids.all fun i=>(look i h1).isNone)=true:=by rfl) (hw:okW h1 t=true:=by rfl):aw P T c ⟨n,t,h1++hr,[]⟩ Q:=qub ids hi.v hi.i h h1n hw
theorem qr7{w0 w:World}{M:Nat->Prop}{F0 F:Frz}{ρ:Nat->Nat}{a:Act}{n:Nat}{t:List (Nat×TV)}{hr:List (Nat×Blk)}{id q j m z:Nat}{cs row:List V}{e:TypeId}{s:Option (Nat×Nat)}{ids:List Nat} 
  (S:SimS P T M F0 w0 F ρ ⟨n,t,(id,.var cs)::(rowB q row e z s++hr),[]⟩ a w) (hs:okB m s) (hj:cs[j]?=some (sOpt m s)) (hrow:m*z<=row.length) (hids:Ids hr ids) (hq:ids.contains q=false:=by rfl) (hid:ids.contains id=false:=by rfl) (hne:id≠q:=by decide)
  (hw:okW [(id,.var [])] t=true:=by rfl):∃F',SimS P T M F0 w0 F' ρ ⟨n,t,(id,.var (ba cs j [.slice z (be 0 m z row)]))::hr,[]⟩ a w:=by
 have hlc:=(gsi.1 hj).1
 have hw':∀cs',okW ((id,Blk.var cs')::hr) t=true:=fun cs'=>by
  refine xi.2 fun x hx=>?_;have:=xi.1 hw x hx;split
  .rfl
  rename_i i hi;rw[hi] at this;simp only[ae] at this ⊢;split
  .rfl
  rename_i hne';rw[vd hne'] at this;cases this
 have hn0:∀i,ids.contains i=false->look i hr=none:=fun i hc=>by
  cases hk:look i hr with
  |none=>rfl
  |some k=>
   have:=List.contains_iff_mem.2 (hids i k hk).1;rw[hc] at this;cases this
 have keepAll:jx [id] (t.map (·.1)) t=some t->True:=fun _=>trivial
 have less:∀ {F:Frz} {h h':List (Nat×Blk)}, SimS P T M F0 w0 F ρ ⟨n,t,h,[]⟩ a w->(∀i k,look i h'=some k->look i h=some k)->okW h' t=true->SimS P T M F0 w0 F ρ ⟨n,t,h', []⟩ a w:=fun {F h h'} X hh hw=> {
  n:=X.n,df:=X.df,sees:=X.sees,lay:=X.lay,le:=X.le,new:=X.new,newm:=X.newm,bel:=X.bel,hM:=X.hM,nn:=X.nn,tm:=X.tm
  wf:=fun i tv e=>jcd hw e
  hp:=fun id k e=>X.hp id k (hh id k e)
  z:=fun id k h e=>X.z id k h (hh id k e)
  nb:=fun id k b e hb=>X.nb id k b (hh id k e) hb
  inj:=fun id id' k k' e e'=>X.inj id id' k k' (hh id k e) (hh id' k' e')
  ow:=fun j e c hj=>by simp at hj
  od:=fun j j' e c e' c' _ hj=>by simp at hj
  oc:=fun j e c hj=>by simp at hj }
 cases s with
 |none=>
  have hm:m=0:=hs;subst hm;refine⟨F,?_⟩;have hk0:look id ((id,Blk.var cs)::hr)=some (.var cs):=er _ _ _;have S:SimS P T M F0 w0 F ρ ⟨n,t,(id,.var cs)::hr,[]⟩ a w:=S;obtain⟨⟨xs,ty,p1,p2,p3,p4,p5⟩,hM,hlt⟩:=S.hp id _ hk0;have hfit:j+[V.slice z (be 0 0 z row)].length<=cs.length:=by simp;omega
  have hlx:j<xs.size:=omq;have hx:=al (p4 _ _ _ hj (xu hlx))
  have:=Sim.know S hk0 (k:=.var (ba cs j [.slice z (be 0 0 z row)])) ⟨xs,ty,p1,by rw[rj hfit];exact p2,fun c hc=>by
   obtain⟨i,hi⟩:=xm hc;rw[dy hfit] at hi;split at hi
   .have:=vp hi;exact zde
   .exact p3 c (vp hi),fun i c y e1 e2=>by
   rw[dy hfit] at e1;split at e1
   .rename_i hin;simp at hin;have hj0:i=j:=omq;subst hj0;simp at e1;subst e1;rw[xu hlx] at e2;cases e2;rw[hx];exact .snil
   .exact p4 i c y e1 e2,p5⟩ rfl
  have e:seth id (.var (ba cs j [.slice z (be 0 0 z row)])) ((id,Blk.var cs)::hr)=(id,.var (ba cs j [.slice z (be 0 0 z row)]))::hr:=by rw[seth,ve rfl]
  simp only[e] at this;exact this
 |some x=>
  obtain⟨b,cap⟩:=x;have hs:m<=cap/\cap<=maxLen:=hs
  have h1:look q ((id,Blk.var cs)::(rowB q row e z (some (b,cap))++hr))=some (.var row (some b) (some (e,z,cap))):=by
   rw[ae,vd (fun e=>hne e.symm)];exact er _ _ _
  obtain⟨F',S'⟩:=jeu S h1 (er _ _ _) hne hj hs.1 hs.2 hrow;refine⟨F',less S' (fun i k e=>?_) (hw' _)⟩;rw[ae] at e
  show look i (seth id _ (frz1 q (seth q _ _)))=some k
  rw[sb];split at e
  .rename_i hi;subst hi;rw[ve rfl,im,vd hne,sb,vd hne,er];exact e
  rename_i hi;rw[vd (fun e=>hi e)]
  have hiq:i≠q:=fun he=>by
   subst he;rw[hn0 i hq] at e;cases e
  rw[im,vd hiq,sb,vd hiq,ae,vd hi,qc hiq];exact e
def endX(P:Program)(T:Lay)(e0:AX)(φ:α->Prop)(S:α->St):AX->St->Prop:=fun e st=>e=e0/\∃x,φ x/\Sub P T (S x) st
theorem jpn{e0:AX}{φ:α->Prop}{S:α->St}(x:α)(hx:φ x)(hs:Sub P T (S x) st):endX P T e0 φ S e0 st:=⟨rfl,x,hx,hs⟩
theorem ug(e0:AX)(φ:α->Prop)(S:α->St)(h:∀E:AX->St->Prop,(∀x st,φ x->Sub P T (S x) st->E e0 st)->aw P T c st E):aw P T c st (endX P T e0 φ S):=h _ fun x _ hx hs=>jpn x hx hs
theorem lj(e0:AX)(φ:α->Prop)(S:α->St)(h:∀E:AX->St->Prop,(∀x st,φ x->Sub P T (S x) st->E e0 st)->aw P T c st E)(hS:∀x,φ x->Q e0 (S x)):aw P T c st Q:=
 mi (h (endX P T e0 φ S) fun x _ hx hs=>jpn x hx hs) fun _ _ _ F ρ _ _ _ _ X ⟨he,x,hx,hs⟩=>⟨F,ρ,S x,hs _ _ _ _ _ _ _ X,he▸hS x hx⟩
theorem jj5{Q:AX->St->Prop}(e0:AX)(φ:α->Prop)(S:α->St)(hi:Ids hr ids)(h:∀E:AX->St->Prop,(∀x st,φ x->Sub P T (S x) st->E e0 st)->aw P T c ⟨n,t,h1,[]⟩ E) 
  (hS:∀x,φ x->Q e0 { S x with h:=(S x).h++hr }) (hn:∀x,(ids.all fun i=>(look i (S x).h).isNone)=true) (h1n:(ids.all fun i=>(look i h1).isNone)=true) (hw:okW h1 t=true:=by rfl):aw P T c ⟨n,t,h1++hr,[]⟩ Q:=
 aw_fr hi (mi (h (endX P T e0 φ S) fun x _ hx hs=>jpn x hx hs) fun _ _ _ F ρ _ _ _ _ X ⟨he,x,hx,hs⟩=>⟨F,ρ,S x,hs _ _ _ _ _ _ _ X,he▸⟨hn x,hS x hx⟩⟩) h1n hw
theorem jrm{o:List (TypeId×List Nat)}(e:h=h')(k:aw P T c ⟨n,t,h',o⟩ Q):aw P T c ⟨n,t,h,o⟩ Q:=e▸k
theorem qr3(X:SimS P T M F0 w0 F ρ ⟨n,t,h,[]⟩ a w)(hh:∀i k,look i h'=some k->look i h=some k)(hw:okW h' t=true):SimS P T M F0 w0 F ρ ⟨n,t,h',[]⟩ a w:=
  { n:=X.n,df:=X.df,sees:=X.sees,lay:=X.lay,le:=X.le,new:=X.new,newm:=X.newm,bel:=X.bel,hM:=X.hM,nn:=X.nn,tm:=X.tm
    wf:=fun i tv e=>jcd hw e
    hp:=fun id k e=>X.hp id k (hh id k e)
    z:=fun id k h e=>X.z id k h (hh id k e)
    nb:=fun id k b e hb=>X.nb id k b (hh id k e) hb
    inj:=fun id id' k k' e e'=>X.inj id id' k k' (hh id k e) (hh id' k' e')
    ow:=fun j e c hj=>by simp at hj
    od:=fun j j' e c e' c' _ hj=>by simp at hj
    oc:=fun j e c hj=>by simp at hj }
theorem qvt{h2:List (Nat×Blk)}(h:okW h1 t=true):okW (h1++h2) t=true:=xi.2 fun x hx=>by
 have:=xi.1 h x hx;split
 .rfl
 rename_i i hi;rw[hi] at this;simp only at this;obtain⟨k,hk⟩:=xbe.1 this;rw[jgu hk];rfl
theorem qaq(S:SimS P T M F0 w0 F ρ ⟨n,t,h1++(X++R),[]⟩ a w)(hx:Ids X l)(hr:Ids R m)(hd:(l.all fun i=> !m.contains i)=true:=by rfl)(hw:okW h1 t=true:=by rfl):
  SimS P T M F0 w0 F ρ ⟨n,t,h1++(R++X),[]⟩ a w:=qr3 S (fun i k e=>by rw[<- e];exact qjf (jhd (hx.dsj hr hd)) i) (qvt hw)
theorem xa8(hx:Ids X l)(hr:Ids R m)(h:aw P T c ⟨n,t,h1++(R++X),[]⟩ Q)(hd:(l.all fun i=> !m.contains i)=true:=by rfl)(hw:okW h1 t=true:=by rfl):aw P T c ⟨n,t,h1++(X++R),[]⟩ Q:=
 jsk (fun _ _ _ _ _ _ _ S=>qaq S hx hr hd hw) h
theorem jgt{C:List (Nat×Blk)}{n:List Nat}(hA:Ids A l)(hB:Ids B m)(hC:Ids C n)(id:Nat)(k:Blk)(e:look id ((1,Blk.var c1)::(2,Blk.var c2)::(A++(B++C)))=some k) 
  (d0:(([1]++[2]).all fun i=> !(l++(m++n)).contains i)=true:=by rfl) (d1:(l.all fun i=> !(m++n).contains i)=true:=by rfl) (d2:(m.all fun i=> !n.contains i)=true:=by rfl):look id (C++(B++(A++[(1,Blk.var c1),(2,Blk.var c2)])))=some k:=by
 have hD:Ids [(1,Blk.var c1),(2,Blk.var c2)] ([1]++[2]):=fun id k h=>by
  rw[ae,ae] at h;split at h
  .rename_i h1;cases h;subst h1;exact⟨dcq,_,_,_,rfl⟩
  split at h
  .rename_i h1;cases h;subst h1;exact⟨dcq,_,_,_,rfl⟩
  cases h
 have e1:=jhd (hD.dsj (ez hA (ez hB hC)) d0) id;have e2:=jhd (hA.dsj (ez hB hC) d1);have e3:=jhd (hB.dsj hC d2);have e:look id ([(1,Blk.var c1),(2,Blk.var c2)]++(A++(B++C)))=some k:=e;rw[e1] at e;rw[<- e]
 have f1:∀i,look i (A++(B++C))=look i (C++(B++A)):=fun i=>by
  rw[e2,gu,gu,gu,gu];have:=e3 i;rw[gu,gu] at this;rw[this];cases look i C<;>rfl
 have:look id (C++(B++(A++[(1,Blk.var c1),(2,Blk.var c2)])))=look id ((C++(B++A))++[(1,Blk.var c1),(2,Blk.var c2)]):=by rw[xb,xb]
 rw[this,gu,<- f1,<- gu]
theorem qj1(hA:Ids A l)(hB:Ids B m)(id:Nat)(k:Blk)(e:look id ((1,Blk.var c1)::(2,Blk.var c2)::(A++B))=some k) 
  (d0:(([1]++[2]).all fun i=> !(l++(m++[])).contains i)=true:=by rfl) (d1:(l.all fun i=> !(m++[]).contains i)=true:=by rfl):look id (B++(A++[(1,Blk.var c1),(2,Blk.var c2)]))=some k:=by
 have:=jgt (c1:=c1) (c2:=c2) hA hB qwk id k (by rw[xd];exact e) d0 d1 (xi.2 fun _ _=>rfl);exact this
theorem qje{i:Nat}(hi:i≠q):look i (rowB q row e z s)=none:=by
 cases s with
 |none=>rfl
 |some x=>rw[rowB,ae,vd hi];rfl
theorem qmz{i:Nat}{b k:Blk}(h1:look i h=none)(e:look id h=some k):look id ((i,b)::h)=some k:=by
 rw[ae,vd]
 .exact e
 intro he;subst he;rw[h1] at e;cases e
theorem gi {p q r:Prop} (hr:r) (h:q) (e:r->q->p:=by
  intro hr h;refine runG hr ?_
  exact h):p:=e hr h
def jj7(_:Nat):Prop:=True
theorem qy6(t:Nat)(h:aw P T c (ig t st) Q):aw P T c st Q:=by
 unfold aw at h ⊢;intro rd M F0 w0 F ρ a w hR S;obtain⟨F',S'⟩:=jtj S t;exact h rd M F0 w0 F' ρ a w hR S'
theorem qcr(n:Nat):jj7 n:=trivial
theorem qy3{ops:Array Oper}{l:List Oper}(_hs:jj7 n)(_hn:Nat.beq id n=false)(hl:ops.toList=l)(h:awO P T l l st (Q .nm)):aw P T (.region id ops false) st Q:=qv hl h
theorem qdz {p q r:Prop} {n:Nat} (hs:jj7 n) (hr:r) (h:q) (e:jj7 n->r->q->p:=by
  intro hs hr g
  repeat (first
   |with_reducible refine jaw ?_
   |with_reducible refine jax ?_
   |refine runC ?_
   |refine qy3 hs rfq rfl ?_
   |refine runR ?_
   |refine runS hr ?_)
  exact g):p:=e hs hr h
abbrev coSt(st:St)(k id j n size:Nat)(e:TypeId)(ds cs:List V)(nm:Option Nat)(kk:Option (TypeId×Nat×Nat)):St:=⟨st.n,st.t,seth id (.var (ba cs j [.slice size (be 0 n size ds)]) nm kk) (unH k st.h),[(e,[plc id j])]⟩
theorem jyj{F':Frz}{w':World}{b:Nat}{k:Blk}(h:RepB F w b k)(hb:w'.heap[b]?=w.heap[b]?)(hle:Le F F')(hn:∀p v,F' p=some v->p.block=b->F p=some v)(hm:∀xs,F'.m b=some xs->F.m b=some xs):RepB F' w' b k:=by
 cases k with
 |var cs _ _=>
  exact zbt
 |con cs=>
  exact zcs
 |itr es c _=>exact RepB.itr_mono h hb hle
 |map es _=>
  obtain⟨xs,ck,h1,h0,h2,h3⟩:=h;refine⟨xs,ck,hb.trans h1,?_,h2,fun j k v x e1 e2=>⟨((h3 j k v x e1 e2).1).mono hle,((h3 j k v x e1 e2).2).mono hle⟩⟩;cases e:F'.m b with
  |none=>rfl
  |some ys=>rw[h0] at hm;exact absurd (hm ys e) smq
theorem jxz(S:SimS P T M F0 w0 F ρ st a w){id j:Nat}{cs:List V}{nm:Option Nat}{kk:Option (TypeId×Nat×Nat)}{y:Value}{v:V} 
  (h2:look id st.h=some (.var cs nm kk)) (hj:cs[j]?=some (.val y)) (hr:Rep F v y) (h1:v.one=true):SimS P T M F0 w0 F ρ { st with h:=seth id (.var (ba cs j [v]) nm kk) st.h } a w:=by
 obtain⟨⟨xs,ty,p1,p2,p3,p4,p5⟩,-,-⟩:=S.hp id _ h2;have hlc:=(gsi.1 hj).1;have hfit:j+[v].length<=cs.length:=by simp;omega
 have hlx:j<xs.size:=omq;have hx:=al (p4 _ _ _ hj (xu hlx))
 exact Sim.know S h2 (k:=.var (ba cs j [v]) nm kk) ⟨xs,ty,p1,by rw[rj hfit];exact p2,fun c hc=>by
  obtain⟨i,hi⟩:=xm hc;rw[dy hfit] at hi;split at hi
  .have:=vp hi;simp at this;subst this;exact h1
  .exact p3 c (vp hi),fun i c z e1 e2=>by
  rw[dy hfit] at e1;split at e1
  .rename_i hin;simp at hin;have hj0:i=j:=omq;subst hj0;simp at e1;subst e1;rw[xu hlx] at e2;cases e2;rw[hx];exact hr
  .exact p4 i c z e1 e2,p5⟩ rfl
theorem qu2(S:SimS P T M F0 w0 F ρ st a w){k id j n cap size b:Nat}{ds cs:List V}{nm:Option Nat}{kk:Option (TypeId×Nat×Nat)}{e:TypeId} 
  (h1:look k st.h=some (.var ds (some b) (some (e,size,cap)))) (h2:look id st.h=some (.var cs nm kk)) (hne:id≠k) (h3:cs[j]?=some (.val (.slice (some ⟨b,0,none⟩) n cap))) (h4:n<=cap) (h6:ds.length=n*size) (hz:P.cellsOf e=size)
  (hj:j<1000000000) (_:st.o=[]) (ht:∀i tv,look i st.t=some tv->wfT (unH k st.h) tv):∃F',SimS P T M F0 w0 F' ρ (coSt st k id j n size e ds cs nm kk) a w:=by
 have hρ:=S.nb k _ b h1 rfl;obtain⟨⟨xs,⟨ty,hty⟩,b1,b2,b3,b4,b5⟩,hB,hlt⟩:=S.hp k _ h1;obtain⟨hte,hxs,hcm,hfz⟩:=hty;simp only at b1;subst hte;have hcell:∀q,w.cell? ⟨ρ k,q,none⟩=xs[q]? := fun q=>by simp[World.cell?,b1]
 have hcase:∀p v,gn F (ρ k) (n*size) xs p=some v->(p.block=ρ k/\p.spot=none/\p.off<n*size/\xs[p.off]?=some v)\/F p=some v:=fun p v e=>by
  rw[ry] at e;split at e
  .rename_i hc;exact .inl ⟨hc.1,hc.2.1,hc.2.2,e⟩
  exact .inr e
 have hle:Le F (gn F (ρ k) (n*size) xs):=⟨fun p v e=>by
  show (if p.block=ρ k/\p.spot=none/\p.off<n*size then xs[p.off]? else F p)=some v
  rw[vd (fun hc=>b5 p v e hc.1)];exact e,fun _ _ e=>e⟩
 have hin:∀j c,ds[j]?=some c->gn F (ρ k) (n*size) xs ⟨ρ k,j,none⟩=some (xs.getD j undef):=fun j c hj=>by
  have hjl:=(gsi.1 hj).1;have hjx:j<xs.size:=xao hjl b2;rw[ry,ve ⟨rfl,rfl,(show j<n*size by omega)⟩];simp[hjx]
 have hid:look id (unH k st.h)=some (.var cs nm kk):=by rw[jq,vd hne];exact h2
 have hun:∀i b',look i (unH k st.h)=some b'->i≠k/\look i st.h=some b':=fun i b' e=>by
  rw[jq] at e;split at e
  .cases e
  rename_i hi;exact⟨hi,e⟩
 have hinj:∀i b',look i (unH k st.h)=some b'->ρ i≠ρ k:=fun i b' e he=>(hun i b' e).1 (S.inj i k b' _ (hun i b' e).2 h1 he)
 have hc2:w.cell? ⟨ρ id,j,none⟩=some (.slice (some ⟨b,0,none⟩) n cap):=by
  obtain⟨⟨ys,ty',p1,p2,p3,p4,p5⟩,-,-⟩:=S.hp id _ h2;have hlc:=(gsi.1 h3).1;have hlx:j<ys.size:=omq;exact zdp
 have S1:SimS P T M F0 w0 (gn F (ρ k) (n*size) xs) ρ ⟨st.n,st.t,unH k st.h,[(ty.1,[plc id j])]⟩ a w:=by
  refine { n:=S.n,df:=S.df,sees:=⟨fun p v e=>?_,S.sees.m⟩,lay:=S.lay,le:=S.le.trans hle,new:=fun p v e=>?_,newm:=S.newm,bel:=S.bel,hM:=S.hM,tm:=fun i tv e'=>?_,wf:=fun i tv e'=>ht i tv e',hp:=fun i b' e'=>?_,nn:=S.nn,z:=fun i b' hi e'=>S.z i b' hi (hun i b' e').2,nb:=fun i b' q e'=>S.nb i b' q (hun i b' e').2,inj:=fun i i' b1 b2 e1 e2=>S.inj i i' b1 b2 (hun i b1 e1).2 (hun i' b2 e2).2,ow:= ?_,od:= ?_,oc:= ?_ }
  .rcases hcase p v e with⟨h1,h2,h3,h4⟩|h
   .have:p=⟨ρ k,p.off,none⟩:=by cases p;simp only at h1 h2;subst h1 h2;rfl
    rw[this,hcell];exact h4
   exact S.sees p v h
  .rcases hcase p v e with⟨h1,-⟩|h
   .exact .inr (by rw[h1];exact hB)
   exact S.new p v h
  .obtain⟨x,g1,g2⟩:=S.tm i tv e';exact⟨x,g1,g2.mono hle⟩
  .obtain⟨g1,g2,g3⟩:=S.hp i b' (hun i b' e').2;refine⟨jyj g1 rfl hle (fun p v hp hpb=>?_) (fun _ h=>h),g2,g3⟩;rcases hcase p v hp with⟨h1,-⟩|h
   .exact absurd (hpb.symm.trans h1) (hinj i b' e')
   exact h
  .intro j' e' c hj';have hj':[(ty.1,[plc id j])][j']?=some (e',c):=hj'
   match j',hj' with
   |0,hj'=>
    simp only[List.getElem?_cons_zero,vk,xo] at hj';obtain⟨rfl,rfl⟩:=hj';refine⟨.slice (some ⟨b,0,none⟩) n cap,fun i hi=>?_,⟨n,xs.toList.take (n*size),⟨?_,.inr ⟨b,cap,xs,rfl,vj _,⟨ty.2,hfz,?_⟩,h4,hcm,by rw[hz];exact hxs,by rw[hz]⟩⟩,fun g hg=>?_⟩,fun i b' e'=>?_⟩
    .exact zcz
    .rw[xq,Array.length_toList,hxs,hz,xaw (xb2 _ h4)]
    .rw[<- hρ];exact b1
    .simp only[Value.ownBlock,vk] at hg;subst hg;refine⟨by rw[<- hρ];exact hB,fun p v hp hpg=>?_⟩;rw[hz];rcases hcase p v hp with⟨-,-,h3,-⟩|h
     .exact h3
     exact absurd (by rw[hpg,<- hρ]) (b5 p v h)
    simp only[Value.ownBlock,ne_eq,vk];rw[<- hρ];exact yp (hinj i b' e')
   |j'+1,hj'=>simp at hj'
  .intro j j' e1 c e2 c' hne hj hj';have hj:[(ty.1,[plc id _])][j]?=some (e1,c):=hj;have hj':[(ty.1,[plc id _])][j']?=some (e2,c'):=hj'
   match j,j',hj,hj' with
   |0,0,_,_=>exact absurd rfl hne
   |0,k+1,_,hj'=>simp at hj'
   |k+1,_,hj,_=>simp at hj
  intro j' e1 c hj' i hi hge;have hj':[(ty.1,[plc id j])][j']?=some (e1,c):=hj'
  match j',hj' with
  |0,hj'=>
   simp only[List.getElem?_cons_zero,vk,xo] at hj';obtain⟨rfl,rfl⟩:=hj';simp only[xn] at hi;subst hi;rw[gl hj,show (St.mk st.n st.t (unH k st.h) [(ty.1,[plc id j])]).h=unH k st.h from rfl,hid];exact fun h=>nomatch h
  |j'+1,hj'=>simp at hj'
 have hrep:=jed (F:=gn F (ρ k) (n*size) xs) (b:=ρ k) (g:=fun j=>xs.getD j undef) (cs:=ds) b3 hin (fun j c hj=>by
  have hjl:=(gsi.1 hj).1;have hjx:j<xs.size:=xao hjl b2;refine(b4 j c _ hj ?_).mono hle
  simp[hjx]) (off:=0) (n:=n) (size:=size) (cap:=cap) omq h4 hcm
 rw[hρ] at hrep S1;exact⟨_,jxz S1 hid h3 hrep rfl⟩
theorem qcg{c:Code}{st:St}{Q:AX->St->Prop}(k id j n cap size b:Nat)(e:TypeId)(ds cs:List V)(nm:Option Nat)(kk:Option (TypeId×Nat×Nat)) 
  (h1:look k st.h=some (.var ds (some b) (some (e,size,cap)))) (h2:look id st.h=some (.var cs nm kk)) (hne:id≠k) (h3:cs[j]?=some (.val (.slice (some ⟨b,0,none⟩) n cap))) (h4:n<=cap) (h6:ds.length=n*size) (hz:P.cellsOf e=size)
  (hj:j<1000000000) (ho:st.o=[]) (ht:∀i tv,look i st.t=some tv->wfT (unH k st.h) tv) (h:aw P T c (coSt st k id j n size e ds cs nm kk) Q):aw P T c st Q:=by
 unfold aw at h ⊢;intro rd M F0 w0 F ρ a w hR S;obtain⟨F',S'⟩:=qu2 S h1 h2 hne h3 h4 h6 hz hj ho ht;exact h rd M F0 w0 F' ρ a w hR S'
theorem qps(S:SimS P T M F0 w0 F ρ st a w){id j size:Nat}{cs:List V}{nm:Option Nat}{kk:Option (TypeId×Nat×Nat)}{e:TypeId} 
    (h2:look id st.h=some (.var cs nm kk)) (h3:cs[j]?=some (.val (.slice none 0 0))) (hj:j<1000000000) (_:st.o=[]):SimS P T M F0 w0 F ρ ⟨st.n,st.t,seth id (.var (ba cs j [.slice size []]) nm kk) st.h,[(e,[plc id j])]⟩ a w:=by
  have hc2:w.cell? ⟨ρ id,j,none⟩=some (.slice none 0 0):=by
    obtain⟨⟨ys,ty',p1,p2,p3,p4,p5⟩,-,-⟩:=S.hp id _ h2;have hlc:=(gsi.1 h3).1;have hlx:j<ys.size:=omq;exact zdp
  have S1:SimS P T M F0 w0 F ρ ⟨st.n,st.t,st.h,[(e,[plc id j])]⟩ a w:= { S with
    ow:=fun j' e' c hj'=>by
      match j',hj' with
      | 0,hj'=>
        simp only[List.getElem?_cons_zero,vk,xo] at hj';obtain⟨rfl,rfl⟩:=hj';refine⟨.slice none 0 0,fun i hi=>?_,⟨0,[],co.nil _ _ _ _,fun g hg'=>by simp[Value.ownBlock] at hg'⟩,fun id k' _=>by simp[Value.ownBlock]⟩;exact zcz
      |j'+1,hj'=>simp at hj'
    od:=fun j j' e1 c e2 c' hne hj hj'=>by
      match j,j',hj,hj' with
      |0,0,_,_=>exact absurd rfl hne
      |0,k+1,_,hj'=>simp at hj'
      |k+1,_,hj,_=>simp at hj
    oc:=fun j' e1 c hj' i hi hge=>by
      match j',hj' with
      | 0,hj'=>
        simp only[List.getElem?_cons_zero,vk,xo] at hj';obtain⟨rfl,rfl⟩:=hj';simp only[xn] at hi;subst hi;rw[gl hj,show (St.mk st.n st.t st.h [(e,[plc id j])]).h=st.h from rfl,h2];exact fun h=>nomatch h
      |j'+1,hj'=>simp at hj' }
  exact jxz S1 h2 h3 .snil rfl
theorem qaa{c:Code}{st:St}{Q:AX->St->Prop}(id j size:Nat)(e:TypeId)(cs:List V)(nm:Option Nat)(kk:Option (TypeId×Nat×Nat)) 
  (h2:look id st.h=some (.var cs nm kk)) (h3:cs[j]?=some (.val (.slice none 0 0))) (hj:j<1000000000) (ho:st.o=[]) (h:aw P T c ⟨st.n,st.t,seth id (.var (ba cs j [.slice size []]) nm kk) st.h,[(e,[plc id j])]⟩ Q):aw P T c st Q:=by
 unfold aw at h ⊢;intro rd M F0 w0 F ρ a w hR S;exact h rd M F0 w0 F ρ a w hR (qps S h2 h3 hj ho)
end Go.Ab
namespace Go.Arc
open Go.Ab Go.RowKit
def fltC(lo hi:Nat):List Nat->List Nat
 |[]=>[]
 |i::c=>if lo<=i then(if i<hi then fltC lo hi c else i::fltC lo hi c) else i::fltC lo hi c
theorem qbp(lo hi:Nat):∀c:List Nat,c.filter (fun i=> !(Nat.ble lo i && Nat.blt i hi))=fltC lo hi c
 |[]=>rfl
 |i::c=>by
  have ih:=qbp lo hi c;unfold fltC;by_cases h1:lo<=i
  .by_cases h2:i<hi
   .rw[ve h1,ve h2,<- ih,xdb];rw[xcv h1,show Nat.blt i hi=true from xcv h2];decide
   rw[ve h1,vd h2,<- ih,xco];rw[show Nat.blt i hi=false from xbg.2 fun e=>h2 (xb9 e),yz];rfl
  rw[vd h1,<- ih,xco];rw[show Nat.ble lo i=false from xbg.2 fun e=>h1 (xb9 e)];rfl
theorem am:(∀id off n,remC id off n []=[])/\(∀id off n e c o,remC id off n ((e,c)::o)=(e,fltC (plc id off) (plc id off+n) c)::remC id off n o)/\(∀lo hi,fltC lo hi []=[])/\(∀lo hi i c,fltC lo hi (i::c)=if lo<=i then(if i<hi then fltC lo hi c else i::fltC lo hi c) else i::fltC lo hi c):=
 ⟨fun _ _ _=>rfl,fun id off n e c o=>by unfold remC;rw[vy];simp only[qbp],fun _ _=>rfl,fun _ _ _ _=>rfl⟩
def fltB(d:Nat):List Nat->List Nat
 |[]=>[]
 |i::c=>if 1000000000<=i then(if pid i=d then fltB d c else i::fltB d c) else i::fltB d c
theorem qbq(d:Nat):∀c:List Nat,c.filter (fun i=> !(Nat.ble 1000000000 i && Nat.beq (pid i) d))=fltB d c
 |[]=>rfl
 |i::c=>by
  have ih:=qbq d c;unfold fltB;by_cases h1:1000000000<=i
  .by_cases h2:pid i=d
   .rw[ve h1,ve h2,<- ih,xdb];rw[xcv h1,h2,Nat.beq_refl];decide
   rw[ve h1,vd h2,<- ih,xco];rw[show Nat.beq (pid i) d=false from xbg.2 fun e=>h2 (xc3 e),yz];rfl
  rw[vd h1,<- ih,xco];rw[show Nat.ble 1000000000 i=false from xbg.2 fun e=>h1 (xb9 e)];rfl
theorem ao:(∀d,remB d []=[])/\(∀d e c o,remB d ((e,c)::o)=(e,fltB d c)::remB d o)/\(∀d,fltB d []=[])/\(∀d i c,fltB d (i::c)=if 1000000000<=i then(if pid i=d then fltB d c else i::fltB d c) else i::fltB d c)/\∀a n c,(Value.slice a n c).oneCell'=true:=
 ⟨fun _=>rfl,fun d e c o=>by unfold remB;rw[vy];simp only[qbq],fun _=>rfl,fun _ _ _=>rfl,fun _ _ _=>rfl⟩
end Go.Arc
namespace Go.Ab
open Go.RowKit
variable {P : Program}{T : Lay}{rd : Option Nat}
variable {w w' w'' : World}{M N K : Nat -> Prop}{F0 F F' F'' : Frz}{w0 : World}{ρ : Nat -> Nat}{a : Act}{st : St}
structure Mv (T:Lay) (N:Nat->Prop) (F:Frz) (w:World) (F':Frz) (w':World):Prop where
 le:Le F F'
 sees:Sees F' w'
 lay:Laid T F' w'
 os:w'.os=w.os
 tape:w'.tape=w.tape
 output:w'.output=w.output
 size:w.heap.size<=w'.heap.size
 block:∀q,N q->w'.heap[q]?=w.heap[q]?
 new:∀p v,F' p=some v->F p=some v\/¬N p.block
 newm:∀b xs,F'.m b=some xs->F.m b=some xs\/¬N b
theorem Mv.refl(hs:Sees F w)(hl:Laid T F w):Mv T N F w F w:=⟨Le.refl F,hs,hl,rfl,rfl,rfl,vo _,fun _ _=>rfl,fun _ _ h=>.inl h,fun _ _ h=>.inl h⟩
theorem Mv.trans(h:Mv T N F w F' w')(k:Mv T N F' w' F'' w''):Mv T N F w F'' w'':=
  ⟨h.le.trans k.le,k.sees,k.lay,k.os.trans h.os,k.tape.trans h.tape,k.output.trans h.output,xc h.size k.size,fun q hq=>(k.block q hq).trans (h.block q hq),
   fun p v e=>(k.new p v e).elim (h.new p v) .inr,fun b xs e=>(k.newm b xs e).elim (h.newm b xs) .inr⟩
theorem Mv.mono{N':Nat->Prop}(h:Mv T N F w F' w')(hn:∀q,N' q->N q):Mv T N' F w F' w':=
  { h with
    block:=fun q hq=>h.block q (hn q hq)
    new:=fun p v e=>(h.new p v e).imp id fun hh hq=>hh (hn _ hq)
    newm:=fun b xs e=>(h.newm b xs e).imp id fun hh hq=>hh (hn _ hq) }
theorem qjl{g:Nat}{xs:Array Value}(hl:Laid T F w)(e:T.r g=some xs):∃ys ty fz,w.heap[g]?=some (.cells ys ty fz):=by
 obtain⟨⟨ty,fz,h⟩,_⟩:=hl.2 g xs e;exact⟨_,ty,fz,h⟩
theorem Mv.alloc(hs:Sees F w)(hl:Laid T F w)(o:Obj)(hN:∀q,N q->q<w.heap.size):Mv T N F w F (w.alloc o):=by
 have hk:∀q,q<w.heap.size->(w.alloc o).heap[q]?=w.heap[q]? := fun q hq=>Below.heap_alloc w o q hq;refine⟨Le.refl F,⟨fun p v e=>?_,fun b xs e=>?_⟩,⟨hl.1,fun g xs e=>?_⟩,rfl,rfl,rfl,smq,fun q hq=>hk q (hN q hq),fun _ _ e=>.inl e,fun _ _ e=>.inl e⟩
 .rw[World.cell?_of_block (w:=w) (hk _ (jf hs e))];exact hs p v e
 .obtain⟨ck,hb⟩:=hs.m b xs e;exact⟨ck,(hk b (ju hs e)).trans hb⟩
 obtain⟨⟨ty,fz,h1⟩,h2⟩:=hl.2 g xs e;exact⟨⟨ty,fz,(hk g (qn h1)).trans h1⟩,h2⟩
theorem Sim.mv(S:SimS P T M F0 w0 F ρ st a w)(hK:∀q,K q->¬M q):Mv T K F0 w0 F w:=
  have hlt:∀q,K q->q<w0.heap.size:=fun q hq=>Nat.lt_of_not_le fun h=>hK q hq (S.hM q h)
  ⟨S.le,S.sees,Sim.laid S,S.bel.os,S.bel.tape,S.bel.output,S.bel.size,fun q hq=>S.bel.block q (hlt q hq) (hK q hq),
   fun p v e=>(S.new p v e).imp id fun h hq=>hK _ hq h,fun b xs e=>(S.newm b xs e).imp id fun h hq=>hK _ hq h⟩
def cutF(F0 F:Frz):Frz:= { c:=F.c,m:=F.m,z:=F0.z }
theorem qxs(F0 F:Frz):Le (cutF F0 F) F:=⟨fun _ _ e=>e,fun _ _ e=>e⟩
theorem qph{F0 F:Frz}(h:Laid T F w):Laid T (cutF F0 F) w:=⟨⟨h.1.c,h.1.m⟩,h.2⟩
theorem RepB.move{b:Nat}{k:Blk}(h:RepB F w b k)(hb:w'.heap[b]?=w.heap[b]?)(hle:Le F F')(hn:∀p v,F' p=some v->p.block=b->F p=some v)(hm:∀xs,F'.m b=some xs->F.m b=some xs):RepB F' w' b k:=by
 cases k with
 |var cs _ _=>
  exact zbt
 |con cs=>
  exact zcs
 |itr es c _=>exact RepB.itr_mono h hb hle
 |map es _=>
  obtain⟨xs,ck,h1,h0,h2,h3⟩:=h;refine⟨xs,ck,hb.trans h1,?_,h2,fun j k v x e1 e2=>⟨((h3 j k v x e1 e2).1).mono hle,((h3 j k v x e1 e2).2).mono hle⟩⟩;cases e:F'.m b with
  |none=>rfl
  |some ys=>rw[h0] at hm;exact absurd (hm ys e) smq
def mvM(M E:Nat->Prop)(w w':World):Nat->Prop:=fun q=>(M q/\q<w.heap.size/\¬E q)\/w'.heap.size<=q
theorem DfOk.re{M':Nat->Prop}: ∀ {ds:List Deferred},DfOk ds M w->(∀D,mark D∈ds->M D->w.heap[D]?=some (.deferred (some []))->M' D/\w'.heap[D]?=some (.deferred (some [])))->DfOk ds M' w'
 |[],_,_=>trivial
 |d::ds,h,hb=>by
  obtain⟨D,h1,h2,h3,h4,h5⟩:=h;obtain⟨g1,g2⟩:=hb D (by rw[h1];exact yo) h2 h3;exact⟨D,h1,g1,g2,h4,h5.re fun D' hm=>hb D' (ym _ hm)⟩
theorem Sim.move(S:SimS P T M F0 w0 F ρ st a w){E:Nat->Prop}(hE:∀id k,look id st.h=some k->¬E (ρ id))(hEc:∀g,E g->∀xs t z,w.heap[g]? ≠ some (.cells xs t z))(ds:List Deferred)(hds:ds=[]\/(ds=a.defers/\∀D,mark D∈ds->¬E D)) 
  (h:Mv T N F w F' w') (hN:∀q,M q->q<w.heap.size->¬E q->N q):SimS P T (mvM M E w w') (cutF F0 F') w' F' ρ st { a with defers:=ds } w':=by
 have hkeep:∀q,M q->q<w.heap.size->¬E q->w'.heap[q]?=w.heap[q]? := fun q h1 h2 h3=>h.block q (hN q h1 h2 h3)
 have hh:∀(j:Nat) e c,st.o[j]?=some (e,c)->∀i∈c,held { a with defers:=ds } w' ρ i=held a w ρ i:=fun j e c hj i hi=>by
  rw[<- og S (w':=w') (fun g _ ⟨id,k,e,he⟩=>he▸hkeep _ (S.hp id k e).2.1 (S.hp id k e).2.2 (hE id k e)) j e c hj i hi];rfl
 have hlay:Laid T F w:=Sim.laid S
 exact {
  n:=S.n
  df:=by
   rcases hds with rfl|⟨rfl,hd⟩
   .trivial
   exact S.df.re fun D hm h1 h2=>⟨.inl ⟨h1,qn h2,hd D hm⟩,(hkeep D h1 (qn h2) (hd D hm)).trans h2⟩
  sees:=h.sees
  lay:=⟨qph h.lay,fun g hg=>by
   obtain⟨xs,hx⟩:=xan.1 hg;obtain⟨ys,ty,fz,h1⟩:=qjl h.lay hx;rintro (⟨h2,_⟩|h2)
   .exact S.lay.2 g hg h2
   have:=qn h1;omega⟩
  le:=qxs F0 F'
  new:=fun p v e=>.inl e
  newm:=fun b xs e=>.inl e
  bel:=BelM.refl _ _
  hM:=fun j hj=>.inr hj
  tm:=fun i tv e=>by obtain⟨x,h1,h2⟩:=S.tm i tv e;exact⟨x,h1,h2.mono h.le⟩
  wf:=S.wf
  hp:=fun id k e=>by
   obtain⟨h1,h2,h3⟩:=S.hp id k e;have hq:=hN _ h2 h3 (hE id k e);refine⟨h1.move (hkeep _ h2 h3 (hE id k e)) h.le (fun p v hp he=>(h.new p v hp).resolve_right (by rw[he];exact fun hn=>hn hq)) (fun xs hx=>(h.newm _ xs hx).resolve_right fun hn=>hn hq),.inl ⟨h2,h3,hE id k e⟩,xao h3 h.size⟩
  nn:=S.nn
  z:=fun id k hi e=>S.z id k hi e
  nb:=S.nb
  inj:=S.inj
  ow:=fun j e c hj=>by
   obtain⟨v,h1,⟨m,xs,h2,h3⟩,h4⟩:=S.ow j e c hj
   have hg:∀g,v.ownBlock=some g->M g/\g<w.heap.size/\¬E g:=fun g hg=>by
    refine⟨(h3 g hg).1,(h2.lt g hg).2,fun he=>?_⟩;rcases h2.2 with hnil|⟨g',cap,cur,r1,r2,⟨fz,rf,r3⟩,r4⟩
    .rw[hnil.1] at hg;cases hg
    rw[r1] at hg;have:g'=g:=by simpa [Value.ownBlock] using hg
    subst this;exact hEc _ he _ _ _ r3
   refine⟨v,fun i hi=>by rw[hh j e c hj i hi];exact h1 i hi,⟨m,xs,⟨h2.1,?_⟩,fun g hg'=>?_⟩,h4⟩
   .rcases h2.2 with hnil|⟨g',cap,cur,r1,r2,⟨fz,rf,r3⟩,r4⟩
    .exact .inl hnil
    obtain⟨q1,q2,q3⟩:=hg g' (by rw[r1];simp[Value.ownBlock]);exact .inr ⟨g',cap,cur,r1,r2,⟨fz,rf,(hkeep _ q1 q2 q3).trans r3⟩,r4⟩
   obtain⟨q1,q2,q3⟩:=hg g hg';exact⟨.inl ⟨q1,q2,q3⟩,fun p u hp hpg=>(h3 g hg').2 p u ((h.new p u hp).resolve_right (by rw[hpg];exact fun hn=>hn (hN _ q1 q2 q3))) hpg⟩
  od:=fun j j' e c e' c' hne hj hj' i hi i' hi' v v' g e1 e2=>S.od j j' e c e' c' hne hj hj' i hi i' hi' v v' g (by rw[<- hh j e c hj i hi];exact e1) (by rw[<- hh j' e' c' hj' i' hi'];exact e2)
  oc:=S.oc }
end Go.Ab
namespace Go.Ab
open Go.RowKit
variable {P : Program}{T : Lay}
variable {w w' w'' : World}{M N K : Nat -> Prop}{F0 F F' F'' : Frz}{w0 : World}{ρ : Nat -> Nat}{a : Act}{st : St}
abbrev Gst:=Nat->(Nat->Prop)->Frz->World->Prop
def Stab(T:Lay)(J:Gst):Prop:=∀i N F w N' F' w',J i N F w->Mv T (fun q=>q<w.heap.size/\¬N q) F w F' w'->(∀q,N' q->(N q\/w.heap.size<=q)/\q<w'.heap.size)->(∀q,N q->N' q)->J i N' F' w'
structure Itr (P:Program) (T:Lay) (l:Nat) (xs:List V) (k:Nat) (J:Gst):Prop where
 st:Stab T J
 rd:∀i x v N F w,xs[i]?=some x->i<k->Rep F x v->Sees F w->Laid T F w->(∀q,N q->q<w.heap.size)->J i N F w->
  YieldAt (fc none) 0 P l #[v] w fun e w'=>∃F',e=.returned (.bool (decide (i+1<k)))/\Mv T N F w F' w'/\J (i+1) N F' w'
structure Cx (T:Lay) (J:Gst) (K:Nat->Prop) (Fs:Frz) (ws:World) (i:Nat) (M N:Nat->Prop) (F0:Frz) (w0:World):Prop where
 j:J i N F0 w0
 mn:∀q,M q->q<w0.heap.size->N q
 nb:∀q,N q->q<w0.heap.size
 kn:∀q,K q->N q/\¬M q
 mv:Mv T K Fs ws F0 w0
def OkK(rd:Option Nat)(K:Nat->Prop)(ws:World):Prop:=∀l,rd=some l->K l/\∃x,ws.heap[l]?=some (.loop x)
variable {J : Gst}{Fs : Frz}{ws : World}{i : Nat}{rd : Option Nat}{l k : Nat}{xs : List V}
theorem Cx.ok(C:Cx T J K Fs ws i M N F0 w0)(h:OkK rd K ws):OkR rd M w0:=fun l e=>by
 obtain⟨h1,x,h2⟩:=h l e;exact⟨(C.kn l h1).2,x,(C.mv.block l h1).trans h2⟩
def PB(P:Program)(T:Lay)(J:Gst)(K:Nat->Prop)(Fs:Frz)(ws:World)(Q:AX->St->Nat->Prop)(e:AX)(a:Act)(w:World):Prop:=
 ∃i M N F0 w0 F ρ st,Cx T J K Fs ws i M N F0 w0/\SimS P T M F0 w0 F ρ st a w/\Q e st i
def PostI(P:Program)(T:Lay)(J:Gst)(K:Nat->Prop)(Fs:Frz)(ws:World)(Q:AX->St->Nat->Prop):Exit->Act->World->Prop
 |.normal,a,w=>PB P T J K Fs ws Q .nm a w
 |.exit id,a,w=>PB P T J K Fs ws Q (.ex id) a w
 |.ret,a,w=>PB P T J K Fs ws Q .rt a w
 |_,_,_=>False
def awI(P:Program)(T:Lay)(l:Nat)(xs:List V)(k:Nat)(rd:Option Nat)(c:Code)(st:St)(i:Nat)(Q:AX->St->Nat->Prop):Prop:=
 ∀(J:Gst),Itr P T l xs k J->∀(K:Nat->Prop) (Fs:Frz) (ws:World) (M N:Nat->Prop) (F0:Frz) (w0:World) (F:Frz) (ρ:Nat->Nat) (a:Act) (w:World),
  OkK rd K ws->Cx T J K Fs ws i M N F0 w0->SimS P T M F0 w0 F ρ st a w->wpG rd P c (PostI P T J K Fs ws Q) a w
variable {Q Q' : AX -> St -> Nat -> Prop}{x y c : Code}
def sqI(A:St->Nat->Prop)(Q:AX->St->Nat->Prop):AX->St->Nat->Prop
 |.nm,st,i=>A st i
 |e,st,i=>Q e st i
def blkI(id:Nat)(Q:AX->St->Nat->Prop):AX->St->Nat->Prop
 |.ex j,st,i=>if j=id then Q .nm st i else Q (.ex j) st i
 |e,st,i=>Q e st i
def quz:Option V->Option Nat
 |some (.val (.func (.yield l) first cap))=>bif first.toList.isEmpty && cap.toList.isEmpty then some l else none
 |_=>none
def yv(o:Oper)(st:St):Option (Nat×V):=
 match o.op with
 |.call c=>match c.callee with
  |.value f=>match quz (vOf (opv st.σ f)),vsOf (opv st.σ) c.args.toList with
   |some l,some [x]=>some (l,x)
   |_,_=>none
  |_=>none
 |_=>none
def YK(l:Nat)(xs:List V)(k:Nat)(st:St)(d:Option Tmp)(i l':Nat)(x:V)(K:St->Nat->Prop):Prop:=
 l'=l/\xs[i]?=some x/\i<k/\putK st d (.v (.val (.bool (decide (i+1<k))))) fun st'=>K st' (i+1)
def stepY(P:Program)(T:Lay)(l:Nat)(xs:List V)(k:Nat)(o:Oper)(st:St)(i:Nat)(K:St->Nat->Prop):Prop:=
 match yv o st with
 |some (l',x)=>YK l xs k st o.dst i l' x K
 |none=>dp P T o st fun st'=>K st' i
def awOI(P:Program)(T:Lay)(l:Nat)(xs:List V)(k:Nat)(ops:List Oper):List Oper->St->Nat->(St->Nat->Prop)->Prop
 |[],st,i,K=>K st i
 |o::rest,st,i,K=>match gdV ops o st.σ with
  |none=>False
  |some b=>gsel b (stepY P T l xs k o st i fun st' i'=>awOI P T l xs k ops rest st' i' K) (putK st o.dst .u fun st'=>awOI P T l xs k ops rest st' i K)
end Go.Ab
namespace Go.Ab
open Go.RowKit
variable {P : Program}{T : Lay}
variable {w w' w'' : World}{M N K E : Nat -> Prop}{F0 F F' F'' Fs : Frz}{w0 ws : World}{ρ : Nat -> Nat}{a aR : Act}{st : St}
variable {J : Gst}{i : Nat}{rd : Option Nat}{l k : Nat}{xs : List V}{rec : Nat -> Loop}{Sf : Nat -> St}{I : Nat -> Nat}
structure RJ (P:Program) (T:Lay) (J:Gst) (K:Nat->Prop) (Fs:Frz) (ws:World) (E:Nat->Prop) (l:Nat) (rec:Nat->Loop) (Sf:Nat->St) (I:Nat->Nat) (aR:Act) (j:Nat) (Nin:Nat->Prop) (F:Frz) (w:World):Prop where
 body:∃ ρ M N,SimS P T M F w F ρ (Sf j) aR w/\J (I j) N F w/\(∀q,M q->q<w.heap.size->N q/\¬Nin q)/\(∀q,N q->q<w.heap.size)/\(∀q,K q\/E q\/q=l->N q/\¬M q/\¬Nin q)/\∀q,Nin q->N q
 rc:w.heap[l]?=some (.loop (rec j))
 eo:∀q,E q->w.heap[q]?=some (.deferred (some []))
 mv:Mv T K Fs ws F w
end Go.Ab
namespace Go.Ab
open Go.RowKit
variable {P : Program}{T : Lay}{lo k i : Nat}{xs : List V}{rd : Option Nat}{st : St}{Q : AX -> St -> Nat -> Prop}
def qef(P:Program)(T:Lay)(lo:Nat)(xs:List V)(k:Nat)(l rest:List Oper)(K:St->Nat->Prop)(i:Nat):St->Prop:=fun st=>awOI P T lo xs k l rest st i K
def YKc(lo:Nat)(xs:List V)(k:Nat)(st:St)(d:Option Tmp)(i l':Nat)(x:V)(K:Nat->St->Prop):Prop:=
 l'=lo/\xs[i]?=some x/\i<k/\putK st d (.v (.val (.bool (decide (i+1<k))))) (K (i+1))
def sqkI(P:Program)(T:Lay)(lo:Nat)(xs:List V)(k:Nat)(rd:Option Nat)(y:Code)(Q:AX->St->Nat->Prop):AX->St->Nat->Prop
 |.nm,st,i=>awI P T lo xs k rd y st i Q
 |e,st,i=>Q e st i
@[congr] theorem awOI_cg{l rest : List Oper}{st st' : St}{K : St -> Nat -> Prop}(h : st = st'): awOI P T lo xs k l rest st i K = awOI P T lo xs k l rest st' i K := by rw [h]
@[congr] theorem awI_cg{c : Code}{st st' : St}(h : st = st'): awI P T lo xs k rd c st i Q = awI P T lo xs k rd c st' i Q := by rw [h]
@[congr] theorem xai{l rest : List Oper}{K : St -> Nat -> Prop}: qef P T lo xs k l rest K = qef P T lo xs k l rest K := rfl
@[congr] theorem sqkI_cg{y : Code}: sqkI P T lo xs k rd y Q = sqkI P T lo xs k rd y Q := rfl
@[congr] theorem sqI_cg{A : St -> Nat -> Prop}: sqI A Q = sqI A Q := rfl
@[congr] theorem blkI_cg{id : Nat}: blkI id Q = blkI id Q := rfl
def endI(k:Nat)(xs:List V):AX->St->Nat->Prop:=fun e _ i=>(∀id,e≠ .ex id)/\i=min k xs.length
def fpI(P:Program)(rs:List ResultVar)(r:V):AX->St->Nat->Prop:=fun e st _=>nq P rs r e st
def lpkI{α:Type}(kp:Kp)(R:α->Prop)(m:α->Nat)(Sf:α->St)(ix:α->Nat)(y:α):St->Nat->Prop:=fun st' i'=>∃z',R z'/\m z'<m y/\i'=ix z'/\cb kp st'=some (Sf z')
structure Rng where
 t0:List (Nat×TV)
 h:Nat->List (Nat×Blk)
 o:Nat->List (TypeId×List Nat)
 I:Nat->Nat
def rdI(g:Rng)(n kk:Nat)(cc:AX)(j:Nat):AX->St->Nat->Prop:=fun e st2 i2=>i2=g.I (j+1)/\(∃kp2 t2,cb kp2 st2=some ⟨n,t2,g.h (j+1),g.o (j+1)⟩)/\e=if j+1<kk then .nm else cc
def rbI(P:Program)(T:Lay)(lo:Nat)(xs:List V)(k lr:Nat)(body:Code)(g:Rng)(n kk:Nat)(cc:AX)(j:Nat):AX->St->Prop:=fun e st1=>e=.nm/\awI P T lo xs k (some lr) body st1 (g.I j) (rdI g n kk cc j)
@[congr] theorem rbI_cg{lr : Nat}{body : Code}{g : Rng}{n kk : Nat}{cc : AX}{j : Nat}{e : AX}: rbI P T lo xs k lr body g n kk cc j e st = rbI P T lo xs k lr body g n kk cc j e st := rfl
@[congr] theorem rdI_cg{g : Rng}{n kk : Nat}{cc : AX}{j : Nat}{e : AX}: rdI g n kk cc j e st i = rdI g n kk cc j e st i := rfl
@[congr] theorem lpkI_cg{α : Type}{kp : Kp}{R : α -> Prop}{m : α -> Nat}{Sf : α -> St}{ix : α -> Nat}{y : α}: lpkI kp R m Sf ix y st i = lpkI kp R m Sf ix y st i := rfl
@[congr] theorem YKc_cg{d : Option Tmp}{l' : Nat}{x : V}{K : Nat -> St -> Prop}: YKc lo xs k st d i l' x K = YKc lo xs k st d i l' x K := rfl
@[congr] theorem endI_cg{e : AX}: endI k xs e st i = endI k xs e st i := rfl
@[congr] theorem fpI_cg{rs : List ResultVar}{r : V}{e : AX}: fpI P rs r e st i = fpI P rs r e st i := rfl
end Go.Ab
namespace Go.Ab
open Go.RowKit
variable {P : Program}{T : Lay}
variable {args:List TV}{f:FuncId}{e:TypeId}{r:TV}{j:Nat}
structure BsR (bs bs' bs0 bs0':List (Nat×Blk)) (id R:Nat) (cs C:List V) (ro:Option Blk):Prop where
 hb:∀i,look i bs0=if i=R then ro else if i=id then some (.var cs) else look i bs
 hb':∀i,look i bs0'=if i=R then ro.map (fun _=>.con []) else look i bs'
 hid:look id bs=some (.var C)
 hR:look R bs=none
 hne:id≠R
 hk:∀i,look i bs'≠none->look i bs≠none/\i≠R
theorem DenS.own{bs bs' bs0 bs0':List (Nat×Blk)}{id R n cap z b:Nat}{cs ds:List V}(h:DenS P T f bs [(e,[plc id j])] args bs' [] r) 
  (hB:BsR bs bs' bs0 bs0' id R cs (ba cs j [.slice z (be 0 n z ds)]) (some (.var ds (some b) (some (e,z,cap))))) (h3:cs[j]?=some (.val (.slice (some ⟨b,0,none⟩) n cap))) (h4:n<=cap) (h6:ds.length=n*z) (hz:P.cellsOf e=z) (hj:j<1000000000):DenS P T f bs0 [] args bs0' [] r:=by
 refine⟨h.1,fun w F ρ X ys hF hT hL ha=>?_⟩;have hRl:look R bs0=some (.var ds (some b) (some (e,z,cap))):=by rw[hB.hb,ve rfl]
 have hil:look id bs0=some (.var cs):=by rw[hB.hb,vd hB.hne,ve rfl]
 have hρ:=hL.nb R _ b hRl rfl;obtain⟨⟨xs,⟨ty,hty⟩,b1,b2,b3,b4,b5⟩,hXb,hlt⟩:=hL.hp R _ hRl;obtain⟨hte,hxs,hcm,hfz⟩:=hty;simp only at b1;subst hte;have hcell:∀q,w.cell? ⟨ρ R,q,none⟩=xs[q]? := fun q=>by simp[World.cell?,b1]
 have hcase:∀p v,gn F (ρ R) (n*z) xs p=some v->(p.block=ρ R/\p.spot=none/\p.off<n*z/\xs[p.off]?=some v)\/F p=some v:=fun p v e=>by
  rw[ry] at e;split at e
  .rename_i hc;exact .inl ⟨hc.1,hc.2.1,hc.2.2,e⟩
  exact .inr e
 have hle:Le F (gn F (ρ R) (n*z) xs):=⟨fun p v e=>by
  show (if p.block=ρ R/\p.spot=none/\p.off<n*z then xs[p.off]? else F p)=some v
  rw[vd (fun hc=>b5 p v e hc.1)];exact e,fun _ _ e=>e⟩
 have hin:∀j c,ds[j]?=some c->gn F (ρ R) (n*z) xs ⟨ρ R,j,none⟩=some (xs.getD j undef):=fun j c hj=>by
  have hjl:=(gsi.1 hj).1;have hjx:j<xs.size:=xao hjl b2;rw[ry,ve ⟨rfl,rfl,(show j<n*z by omega)⟩];simp[hjx]
 have hrep:=jed (F:=gn F (ρ R) (n*z) xs) (b:=ρ R) (g:=fun j=>xs.getD j undef) (cs:=ds) b3 hin (fun j c hj=>by
  have hjl:=(gsi.1 hj).1;have hjx:j<xs.size:=xao hjl b2;refine(b4 j c _ hj ?_).mono hle
  simp[hjx]) (off:=0) (n:=n) (size:=z) (cap:=cap) omq h4 hcm
 have old:∀i k,look i bs=some k->i≠R/\∃k0,look i bs0=some k0/\(i≠id->k0=k):=fun i k e=>by
  have hiR:i≠R:=fun he=>by rw[he,hB.hR] at e;cases e
  refine⟨hiR,?_⟩;by_cases hi:i=id
  .exact⟨_,by rw[hi];exact hil,fun h=>absurd hi h⟩
  exact⟨k,by rw[hB.hb,vd hiR,vd hi];exact e,fun _=>rfl⟩
 have hneR:∀i k,look i bs=some k->ρ i≠ρ R:=fun i k e he=>by
  obtain⟨hiR,k0,hk0,-⟩:=old i k e;exact hiR (hL.inj i R k0 _ hk0 hRl he)
 have hmv:∀i k k0,look i bs=some k->look i bs0=some k0->RepB (gn F (ρ R) (n*z) xs) w (ρ i) k0:=fun i k k0 e e0=>
  jyj (hL.hp i k0 e0).1 rfl hle (fun p v hp hpb=>by
   rcases hcase p v hp with⟨h1,-⟩|h
   .exact absurd (hpb.symm.trans h1) (hneR i k e)
   .exact h) (fun _ h=>h)
 obtain⟨⟨us,uty,p1,p2,p3,p4,p5⟩,hXi,hlti⟩:=hL.hp id _ hil;have hlc:=(gsi.1 h3).1;have hlx:j<us.size:=omq;have hx:us[j]=_:=al (p4 _ _ _ h3 (xu hlx));have hc2:w.cell? ⟨ρ id,j,none⟩=some (.slice (some ⟨b,0,none⟩) n cap):=by simp[World.cell?,p1,hlx,hx]
 have hfit:j+[V.slice z (be 0 n z ds)].length<=cs.length:=by simp;omega
 have hL1:Lends P T (gn F (ρ R) (n*z) xs) w ρ X bs [(ty.1,[plc id j])]:=by
  refine { hp:=fun i k e=>?_,nb:=fun i k q e hq=>?_,inj:=fun i i' k k' e e' he=>?_,ow:=fun j' e' c hj'=>?_,od:=fun j' j2 e1 c e2 c' hne hj' hj2=>?_,oc:=fun j' e1 c hj' i hi=>?_,lay:=hL.lay }
  .obtain⟨hiR,k0,hk0,hkk⟩:=old i k e;by_cases hi:i=id
   .subst hi;rw[hB.hid] at e;cases e;rw[hil] at hk0;cases hk0;obtain⟨us',uty',q1,q2,q3,q4,q5⟩:=hmv i _ _ hB.hid hil;refine⟨⟨us',uty',q1,by rw[rj hfit];exact q2,fun c hc=>?_,fun i' c y e1 e2=>?_,q5⟩,hXi,hlti⟩
    .obtain⟨i',hi'⟩:=xm hc;rw[dy hfit] at hi';split at hi'
     .have:=vp hi';exact zde
     exact q3 c (vp hi')
    rw[dy hfit] at e1;split at e1
    .rename_i hin';simp at hin';have hj0:i'=j:=omq;subst hj0;simp at e1;subst e1;rw[p1] at q1;simp only[vk,Obj.cells.injEq] at q1;obtain⟨rfl,-⟩:=q1;rw[xu hlx] at e2;cases e2;rw[hx,<- hρ];exact hrep
    exact q4 i' c y e1 e2
   have:=hkk hi;subst this;exact⟨hmv i _ _ e hk0,(hL.hp i _ hk0).2⟩
  .obtain⟨hiR,k0,hk0,hkk⟩:=old i k e;by_cases hi:i=id
   .subst hi;rw[hB.hid] at e;cases e;cases hq
   have:=hkk hi;subst this;exact hL.nb i _ q hk0 hq
  .obtain⟨-,k0,hk0,-⟩:=old i k e;obtain⟨-,k1,hk1,-⟩:=old i' k' e';exact hL.inj i i' k0 k1 hk0 hk1 he
  .match j',hj' with
   |0,hj'=>
    simp only[List.getElem?_cons_zero,vk,xo] at hj';obtain⟨rfl,rfl⟩:=hj';refine⟨.slice (some ⟨b,0,none⟩) n cap,fun i hi=>?_,⟨n,xs.toList.take (n*z),⟨?_,.inr ⟨b,cap,xs,rfl,vj _,⟨ty.2,hfz,?_⟩,h4,hcm,by rw[hz];exact hxs,by rw[hz]⟩⟩,fun g hg=>?_⟩,fun i k e=>?_⟩
    .simp only[xn] at hi;subst hi;rw[gl hj,qj hj];exact hc2
    .rw[xq,Array.length_toList,hxs,hz,xaw (xb2 _ h4)]
    .rw[<- hρ];exact b1
    .simp only[Value.ownBlock,vk] at hg;subst hg;refine⟨by rw[<- hρ];exact hXb,fun p v hp hpg=>?_⟩;rw[hz];rcases hcase p v hp with⟨-,-,h3,-⟩|h
     .exact h3
     exact absurd (by rw[hpg,<- hρ]) (b5 p v h)
    simp only[Value.ownBlock,ne_eq,vk];rw[<- hρ];exact yp (hneR i k e)
   |j'+1,hj'=>simp at hj'
  .match j',j2,hj',hj2 with
   |0,0,_,_=>exact absurd rfl hne
   |0,k+1,_,hj2=>simp at hj2
   |k+1,_,hj',_=>simp at hj'
  match j',hj' with
  |0,hj'=>
   simp only[List.getElem?_cons_zero,vk,xo] at hj';obtain⟨rfl,rfl⟩:=hj';simp only[xn] at hi;subst hi;exact⟨ss id j,by rw[gl hj,hB.hid];exact fun h=>nomatch h⟩
  |j'+1,hj'=>simp at hj'
 have hs1:Sees (gn F (ρ R) (n*z) xs) w:=⟨fun p v e=>by
  rcases hcase p v e with⟨h1,h2,h3,h4⟩|h
  .have:p=⟨ρ R,p.off,none⟩:=by cases p;simp only at h1 h2;subst h1 h2;rfl
   rw[this,hcell];exact h4
  exact hF p v h,hF.m⟩
 have hT1:Laid T (gn F (ρ R) (n*z) xs) w:=⟨hT.1.trans hle,fun g xs' e=>by
  obtain⟨h1,o,v,h2⟩:=hT.2 g xs' e
  exact⟨h1,o,v,hle _ _ h2⟩⟩
 refine(h.2 w _ ρ X ys hs1 hT1 hL1 ⟨ha.1,fun j t x e1 e2=>(ha.2 j t x e1 e2).mono hle⟩).mono ?_;rintro en w' ⟨y,F',e1,E,L',hr⟩;refine⟨y,F',e1,?_,?_,hr⟩
 .exact { le:=hle.trans E.le,fr:=E.fr,new:=fun p v hp=>(E.new p v hp).elim (fun h=>(hcase p v h).elim (fun h=>.inr (.inl (by rw[h.1];exact hXb))) .inl) .inr,newm:=E.newm,os:=E.os,tape:=E.tape,output:=E.output,size:=E.size,block:=E.block }
 have old':∀i k,look i bs0'=some k->(i=R/\k=.con [])\/(i≠R/\look i bs'=some k):=fun i k e=>by
  rw[hB.hb'] at e;split at e
  .rename_i hi;simp only[Option.map_some,vk] at e;exact .inl ⟨hi,e.symm⟩
  rename_i hi;exact .inr ⟨hi,e⟩
 have hne':∀i k,look i bs'=some k->ρ i≠ρ R:=fun i k e=>by
  obtain⟨k1,hk1⟩:=xan.1 (hB.hk i (by rw[e];exact fun h=>nomatch h)).1;exact hneR i k1 hk1
 refine { hp:=fun i k e=>?_,nb:=fun i k q e hq=>?_,inj:=fun i i' k k' e e' he=>?_,ow:=fun j' e' c hj'=>by simp at hj',od:=fun j' j2 e1 c e2 c' hne hj' hj2=>by simp at hj',oc:=fun j' e1 c hj'=>by simp at hj',lay:=L'.lay }
 .rcases old' i k e with⟨rfl,rfl⟩|⟨-,h⟩
  .exact⟨⟨fun _=>undef,smq,smq,smq⟩,.inl hXb,xao hlt E.size⟩
  exact L'.hp i k h
 .rcases old' i k e with⟨rfl,rfl⟩|⟨-,h⟩
  .cases hq
  exact L'.nb i k q h hq
 rcases old' i k e with⟨rfl,rfl⟩|⟨h1,h⟩
 .rcases old' i' k' e' with⟨rfl,-⟩|⟨h2,h'⟩
  .rfl
  exact absurd he.symm (hne' i' k' h')
 rcases old' i' k' e' with⟨rfl,-⟩|⟨h2,h'⟩
 .exact absurd he (hne' i k h)
 exact L'.inj i i' k k' h h' he
theorem DenS.own0{bs bs' bs0:List (Nat×Blk)}{id z:Nat}{cs:List V}(h:DenS P T f bs [(e,[plc id j])] args bs' [] r) 
  (hb:∀i,look i bs0=if i=id then some (.var cs) else look i bs) (hid:look id bs=some (.var (ba cs j [.slice z []]))) (h3:cs[j]?=some (.val (.slice none 0 0))) (hj:j<1000000000):DenS P T f bs0 [] args bs' [] r:=by
 refine⟨h.1,fun w F ρ X ys hF hT hL ha=>?_⟩;have hil:look id bs0=some (.var cs):=by rw[hb,ve rfl]
 obtain⟨⟨us,uty,p1,p2,p3,p4,p5⟩,hXi,hlti⟩:=hL.hp id _ hil;have hlc:=(gsi.1 h3).1;have hlx:j<us.size:=omq;have hx:us[j]=_:=al (p4 _ _ _ h3 (xu hlx));have hc2:w.cell? ⟨ρ id,j,none⟩=some (.slice none 0 0):=by simp[World.cell?,p1,hlx,hx]
 have hfit:j+[V.slice z []].length<=cs.length:=by simp;omega
 have old:∀i k,look i bs=some k->∃k0,look i bs0=some k0/\(i≠id->k0=k):=fun i k e=>by
  by_cases hi:i=id
  .exact⟨_,by rw[hi];exact hil,fun h=>absurd hi h⟩
  exact⟨k,by rw[hb,vd hi];exact e,fun _=>rfl⟩
 have hL1:Lends P T F w ρ X bs [(e,[plc id j])]:=by
  refine { hp:=fun i k e=>?_,nb:=fun i k q e hq=>?_,inj:=fun i i' k k' e e' he=>?_,ow:=fun j' e' c hj'=>?_,od:=fun j' j2 e1 c e2 c' hne hj' hj2=>?_,oc:=fun j' e1 c hj' i hi=>?_,lay:=hL.lay }
  .obtain⟨k0,hk0,hkk⟩:=old i k e;by_cases hi:i=id
   .subst hi;rw[hid] at e;cases e;refine⟨⟨us,uty,p1,by rw[rj hfit];exact p2,fun c hc=>?_,fun i' c y e1 e2=>?_,p5⟩,hXi,hlti⟩
    .obtain⟨i',hi'⟩:=xm hc;rw[dy hfit] at hi';split at hi'
     .have:=vp hi';exact zde
     exact p3 c (vp hi')
    rw[dy hfit] at e1;split at e1
    .rename_i hin';simp at hin';have hj0:i'=j:=omq;subst hj0;simp at e1;subst e1;rw[xu hlx] at e2;cases e2;rw[hx];exact .snil
    exact p4 i' c y e1 e2
   have:=hkk hi;subst this;exact hL.hp i _ hk0
  .obtain⟨k0,hk0,hkk⟩:=old i k e;by_cases hi:i=id
   .subst hi;rw[hid] at e;cases e;cases hq
   have:=hkk hi;subst this;exact hL.nb i _ q hk0 hq
  .obtain⟨k0,hk0,-⟩:=old i k e;obtain⟨k1,hk1,-⟩:=old i' k' e';exact hL.inj i i' k0 k1 hk0 hk1 he
  .match j',hj' with
   |0,hj'=>
    simp only[List.getElem?_cons_zero,vk,xo] at hj';obtain⟨rfl,rfl⟩:=hj';refine⟨.slice none 0 0,fun i hi=>?_,⟨0,[],co.nil _ _ _ _,fun g hg'=>by simp[Value.ownBlock] at hg'⟩,fun id k' _=>by simp[Value.ownBlock]⟩;simp only[xn] at hi;subst hi;rw[gl hj,qj hj];exact hc2
   |j'+1,hj'=>simp at hj'
  .match j',j2,hj',hj2 with
   |0,0,_,_=>exact absurd rfl hne
   |0,k+1,_,hj2=>simp at hj2
   |k+1,_,hj',_=>simp at hj'
  match j',hj' with
  |0,hj'=>
   simp only[List.getElem?_cons_zero,vk,xo] at hj';obtain⟨rfl,rfl⟩:=hj';simp only[xn] at hi;subst hi;exact⟨ss id j,by rw[gl hj,hid];exact fun h=>nomatch h⟩
  |j'+1,hj'=>simp at hj'
 exact h.2 w F ρ X ys hF hT hL1 ha
end Go.Ab
