/- A part of this claim. -/
import Derived.Test.YtpaallejmocmaaaGreatDoorBaC
import Derived.Sort.Grow
import Derived.RangeFuncNested
namespace Go.Ab
open Go.RowKit
variable {P : Program}{T : Lay}
variable {rs:List ResultVar}{st:St}{r:TV}{r':TV}
theorem WkB.self(cs:List V)(nm:Option Nat)(kk:Option (TypeId×Nat×Nat)):WkB (.var cs nm kk) (.var cs nm kk):=by
 have:=WkB.var (cs0:=cs) (cs:=cs) (ex:=[]) (nm:=nm) (nm':=nm) (kk:=kk) (kk':=kk) (Wks.refl cs) (.inr rfl) (.inr rfl)
 rwa [vw] at this
theorem finS{bs':List (Nat×Blk)}(hB:∀x∈bs',∃b,look x.1 st.h=some b/\WkB b x.2)(h3:WkT r' r)(h2:resT P st rs=some r':=by rfl):ji8 P rs bs' [] r .rt st:=⟨hB,trivial,r',h2,h3⟩
theorem pt{i:Nat}{cs:List V}{nm:Option Nat}{kk:Option (TypeId×Nat×Nat)}(h3:WkT r' r)(hB:look i st.h=some (.var cs nm kk):=by rfl)(h2:resT P st rs=some r':=by rfl):ji8 P rs [(i,.var cs nm kk)] [] r .rt st:=
 finS (fun x hx=>by simp only[xy] at hx;subst hx;exact⟨_,hB,WkB.self cs nm kk⟩) h3 h2
end Go.Ab
namespace Go.Ab
open Go.RowKit Go.Proofs
variable {P : Program}{T : Lay}
variable {st:St}{id:Nat}
def noMk:List Oper->Bool
 |[]=>true
 |o::r=>(match o.op with
  |.makeFunc .. => false
  |_=>true) && noMk r
theorem qt0{ops:Array Oper}{l:List Oper}{Q:AX->St->Prop}(hl:ops.toList=l)(_hn:noMk l=true)(h:awO P T l l st (Q .nm)):aw P T (.region id ops false) st Q:=tw hl h
theorem jqz {p q r:Prop} (hr:r) (h:q) (e:r->q->p:=by
  intro hr g
  repeat (first
   |with_reducible refine tx ?_
   |with_reducible refine jce ?_
   |refine runC ?_
   |refine qt0 rfl rfl ?_
   |refine runR ?_
   |refine runS hr ?_)
  exact g):p:=e hr h
theorem qse{t r n cap size:Nat}{e:TypeId}{cs:List V}{nm:Option Nat}(h1:look t st.t=some (.v (.val (.slice (some ⟨r,0,none⟩) n cap))))(hf:dg r st.h=some id)(h2:look id st.h=some (.var cs nm (some (e,size,cap))))(h3:n<=cap)(h4:n*size<=cs.length):
  rb t st= { st with t:=(t,.v (.slice size (cw 0 n size cs)))::st.t,h:=frz1 id (seth id (.var cs) st.h),o:=remo t st.o } := by
 unfold rb;rw[h1];simp only;rw[hf];simp only;rw[h2];simp only;rw[um ⟨trivial,h3,h4⟩]
theorem qnh{α:Type}(f:α->V)(l:List α):cw 0 l.length 1 (l.map f)=l.map fun x=>[f x]:=by
 apply List.ext_getElem?;intro i;simp only[cw,vm,vx,qvi];by_cases h:i<l.length
 .rw[List.getElem?_range h,gge h];simp only[Option.map_some];rw[qvq (by simpa using h)];simp
 rw[yy (by simpa using h),yy omq];rfl
end Go.Ab
namespace Go.Ab
open Go.RowKit
variable {P : Program}{T : Lay}
inductive Otree where
 |done
 |one (i:Nat) (r:Otree)
 |alt (i:Nat) (r more:Otree)
 |nil
 |sort (r:Otree)
def qu(o:Oper):Bool:=o.guard.isNone && match o.op with
 |.fieldAddr .. => true
 |.move _=>true
 |.indexAddr .. => true
 |.binOp _ _ _ (.const (.int _ _)) _=>true
 |.call ⟨.builtin .max,_,_⟩=>true
 |.nilCheck _=>true
 |_=>false
def Otree.has(j:Nat):Otree->Bool
 |.alt i _ more=>i == j || more.has j
 |_=>false
def Otree.dep:Otree->Nat
 |.done=>0
 |.one _ r=>r.dep+1
 |.alt _ r more=>max (r.dep+1) more.dep
 |.nil=>0
 |.sort r=>r.dep
def okT(ops:Array Oper):Bool->Otree->Array Bool->Bool
 |b,.done,li=> !b && (Region.ready .any ops li).isEmpty
 |b,.one i r,li=> !b && (Region.ready .any ops li).contains i && Region.free .any ops li i && ((ops[i]?).map qu == some true) && okT ops false r (li.setIfInBounds i true)
 |b,.alt i r more,li=>(b || ((Region.ready .any ops li).contains i && (Region.ready .any ops li).all fun j=>j == i || more.has j)) && okT ops false r (li.setIfInBounds i true) && okT ops true more li
 |b,.nil,_=>b
 |b,.sort r,li=> !b && okT ops false r li
def jaf(ops:Array Oper):Bool:=ops.all fun o=>match o.op with
 |.defer _=>false
 |.select .. => false
 |_=>true
def qcd(ops:Array Oper)(t:Otree):Bool:=jaf ops && okT ops false t (Array.replicate ops.size false) && Nat.ble t.dep ops.size
def fi(P:Program)(T:Lay)(l:List Oper)(i:Nat)(st:St)(K:St->Prop):Prop:=match l[i]? with
 |none=>False
 |some o=>match gdV l o st.σ with
  |none=>False
  |some b=>gsel b (nr P T o st K) (putK st o.dst .u K)
def nrmT:List Oper->List (Nat×TV)->List (Nat×TV)
 |[],t=>t
 |o::l,t=>match o.dst with
  |none=>nrmT l t
  |some d=>match look d t with
   |some tv=>nrmT l ((d,tv)::remj d t)
   |none=>nrmT l t
def awT(P:Program)(T:Lay)(l:List Oper)(K:St->Prop):Otree->St->Prop
 |.done,st=>K { st with t:=nrmT l st.t }
 |.one i r,st=>fi P T l i st (awT P T l K r)
 |.alt i r more,st=>fi P T l i st (awT P T l K r)/\awT P T l K more st
 |.nil,_=>True
 |.sort r,st=>awT P T l K r { st with t:=nrmT l st.t }
theorem jjq{j i:Nat}: ∀ {l:List (Nat×TV)},i≠j->look i (remj j l)=look i l
 |[],_=>rfl
 |(k,x)::r,h=>by
  rw[jdo];split
  .rename_i hk;rw[jjq h,af,ul omq]
  rw[af,af,jjq h]
theorem jbl:∀(l:List Oper) (t:List (Nat×TV)) (i:Nat),look i (nrmT l t)=look i t
 |[],_,_=>rfl
 |o::l,t,i=>by
  unfold nrmT;split
  .exact jbl l t i
  rename_i d _;split
  .rename_i tv htv;rw[jbl l,af];split
   .rename_i e;rw[e,htv]
   rename_i e;rw[jjq e]
  exact jbl l t i
section
variable {ops : Array Oper}{rd : Option Nat}{w0 w : World}{M : Nat -> Prop}{F0 F : Frz}{ρ : Nat -> Nat}{a : Act}{st : St}{Q : Exit -> Act -> World -> Prop}
theorem qaa{oj:Oper}{d:Option Tmp}{v:Value}(hnd:∀c,oj.op≠ .defer c)(hsj:∀cs b,oj.op≠ .select cs b)(h1:∀d',d=some d'->d' ∉ oj.looksAt ops)(h2:∀d',d=some d'->oj.dst≠some d')(hQ:∀c a w,¬Q (.panic c) a w) 
  {I:Act->Prop} (hI:∀u,I (a.put oj.dst u)) (hI':∀dd,I ({ a with defers:=dd::a.defers }.put oj.dst undef)) {K:Act->World->Prop} (h:opG rd P oj (a.put d v) w K Q):opG rd P oj a w (fun a' w'=>I a'/\K (a'.put d v) w') Q:=by
 refine⟨fun _ _=>trivial,?_⟩;have h:=h.2;rw[Oper.semAt_eq _ _ _ hnd,execOp_put (ops:=ops) oj hsj a d v h1] at h;rw[Oper.semAt_eq _ _ _ hnd];generalize (execOp a.eval oj).run P w=r at *;cases r with
 |ok x w'=>
  cases x<;>simp only[Oper.uponIn] at h ⊢
  case value u=>exact⟨hI u,by rw[<- Act.put_comm a v u h2];exact h⟩
  case skip=>exact⟨hI _,by rw[<- Act.put_comm a v undef h2];exact h⟩
  case defer dd=>exact⟨hI' dd,by rw[<- Act.put_comm _ v undef h2,<- Act.put_defers];exact h⟩
  case enter f args=>
   refine⟨h.1,CallsIn.mono h.2 fun e w'' he=>?_⟩;cases e with
   |returned u=>exact⟨hI u,by rw[<- Act.put_comm a v u h2];exact he⟩
   |panicked c=>exact(hQ _ _ _ he).elim
   |outgrown=>exact he
  case row row args=>exact⟨h.1,RowsIn.mono h.2 fun u w'' he=>⟨hI u,by rw[<- Act.put_comm a v u h2];exact he⟩⟩
  case round l f tmps assign body=>
   refine⟨h.1,RoundIn.mono h.2 fun e w'' he=>?_⟩;cases e with
   |returned u=>exact⟨hI u,by rw[<- Act.put_comm a v u h2];exact he⟩
   |panicked c=>exact(hQ _ _ _ he).elim
   |outgrown=>exact he
 |halt x w'=>
  cases x<;>simp only[Oper.uponIn] at h ⊢
  case panic u=>exact(hQ _ _ _ h).elim
theorem jbh(h:jaf ops=true){j:Nat}{o:Oper}(ho:ops[j]?=some o):(∀c,o.op≠ .defer c)/\∀cs b,o.op≠ .select cs b:=by
 have:=Array.all_eq_true_iff_forall_mem.1 h o (Array.mem_of_getElem? ho);refine⟨fun c e=>?_,fun cs b e=>?_⟩
 .rw[e] at this;cases this
 rw[e] at this;cases this
theorem qo6{i:Nat}{oi:Oper}{v:Value}(hi:ops[i]?=some oi)(hg:oi.guard=none)(hpl:jaf ops=true)(hQ:∀c a w,¬Q (.panic c) a w):
  ∀(fuel:Nat) (li:Array Bool) (a:Act) (w:World),(∀j oj,ops[j]?=some oj->j≠i->li.getD j true=false->(∀e∈oj.after,Region.binds .any e=true->e.on≠i)->oi.apart ops oj=true)->
   i∈Region.ready .any ops li->(∀w,(execOp a.eval oi).run P w=.ok (.value v) w)->
   wpAnyIn (fc rd) 0 P .any ops Q fuel (li.setIfInBounds i true) (a.put oi.dst v) w->wpAnyIn (fc rd) 0 P .any ops Q (fuel+1) li a w:=by
 have self:∀ {K:Act->World->Prop} {a:Act} {w:World},(∀w,(execOp a.eval oi).run P w=.ok (.value v) w)->K (a.put oi.dst v) w->wpOpIn (fc rd) 0 P ops Q i K a w:=fun {K a w} hy hK=>by
  unfold wpOpIn;simp only[hi];have hw:Region.wanted oi (yielded ops a.tmps)=true:=by unfold Region.wanted;rw[hg]
  rw[hw,um rfl];exact cq (hy w) hK
 intro fuel
 induction fuel with
 |zero=>
  intro li a w _ hr hy H;refine⟨fun h=>zfk,fun j hj=>?_⟩;by_cases hji:j=i
  .subst hji;exact self hy H
  have:=ready_mono hj hji;rw[H.1] at this;cases this
 |succ fuel ih=>
  intro li a w hfree hr hy H;refine⟨fun h=>zfk,fun j hj=>?_⟩;by_cases hji:j=i
  .subst hji;exact self hy H
  have h1:=H.2 j (ready_mono hj hji);obtain⟨hjun,oj,hoj,hall⟩:=mem_ready.1 hj
  have hnot:∀e∈oj.after,Region.binds .any e=true->e.on≠i:=fun e he hb heq=>by
   have g1:=hall e he hb;have g0:=(mem_ready.1 hr).1;rw[heq] at g1;rcases vo i li.size with h'|h'
   .simp[h'] at g0 g1;rw[g0] at g1;cases g1
   simp[Array.getElem?_eq_none h'] at g1
  obtain⟨p1,p2,p3⟩:=Oper.apart_spec (hfree j oj hoj hji hjun hnot);obtain⟨q1,q2⟩:=jbh hpl hoj;have hsi:=(jbh hpl hi).2
  have hfree':∀k ok,ops[k]?=some ok->k≠i->(li.setIfInBounds j true).getD k true=false->(∀e∈ok.after,Region.binds .any e=true->e.on≠i)->oi.apart ops ok=true:=fun k ok hk hki hun hno=>by
   refine hfree k ok hk hki ?_ hno;by_cases hjk:j=k
   .subst hjk;exact hjun
   exact zej
  have next:∀a' w',((∀w,(execOp a'.eval oi).run P w=.ok (.value v) w)/\wpAnyIn (fc rd) 0 P .any ops Q fuel ((li.setIfInBounds i true).setIfInBounds j true) (a'.put oi.dst v) w')->wpAnyIn (fc rd) 0 P .any ops Q (fuel+1) (li.setIfInBounds j true) a' w':=fun a' w' h3=>
   ih (li.setIfInBounds j true) a' w' hfree' (ready_mono hr (ye hji)) h3.1 (by rw[Array.setIfInBounds_comm _ _ hji];exact h3.2)
  refine wpOpIn_mono next ?_;unfold wpOpIn at h1 ⊢;simp only[hoj] at h1 ⊢;rw[wanted_put (ops:=ops) oj a oi.dst v p1] at h1;split
  .rename_i hw;rw[um hw] at h1
   exact qaa (ops:=ops) q1 q2 p1 p2 hQ (I:=fun a'=>∀w,(execOp a'.eval oi).run P w=.ok (.value v) w) (fun u=>by rw[execOp_put (ops:=ops) oi hsi a oj.dst u p3];exact hy)
    (fun dd=>by rw[execOp_put (ops:=ops) oi hsi { a with defers:=dd::a.defers } oj.dst undef p3];exact hy) h1
  rename_i hw;rw[ul hw] at h1;refine⟨fun _ _=>trivial,?_,?_⟩
  .rw[execOp_put (ops:=ops) oi hsi a oj.dst undef p3];exact hy
  rw[<- Act.put_comm a v undef p2];exact h1.2
theorem qs8{h:List (Nat×Blk)}{ρa:Operand->Option TV}{ρc:Operand->Value}(G:Good F w ρ h ρa ρc){t:TypeId}{x i:Operand}{tv:TV}(e:evq P ρa h (.indexAddr t x i)=some tv):∃v,∀w',(Instr.indexAt t (ρc x) (ρc i)).run P w'= .ok v w':=by
 simp only[evq] at e;split at e
 .rename_i n e' size ha;split at e
  .rename_i id off iv h2 h3;simp only[msi] at e;obtain⟨q,h4,rfl⟩:=e;unfold idxS at h4;split at h4
   .rename_i k j;split at h4
    .rename_i hm;cases h4;have hi:=al (G.v h3);have hv:ρc x=.pointer (some ⟨ρ id,off,none⟩):=G.opr x _ h2;exact⟨_,fun w'=>by rw[hv,hi];exact jh4 ha k j _ hm.1 hm.2 w'⟩
    cases h4
   cases h4
  .rename_i cs iv h2 h3;simp only[msi] at e;obtain⟨q,h4,rfl⟩:=e;unfold idxS at h4;split at h4
   .rename_i k j;split at h4
    .rename_i hm;cases h4;have hi:=al (G.v h3);obtain⟨a,g,hv,hat⟩:=rp (show Rep F (.row cs) (ρc x) from G.opr x _ h2);exact⟨_,fun w'=>by rw[hv,hi];exact jh4 ha k j a hm.1 hm.2 w'⟩
    cases h4
   cases h4
  cases e
 split at e
 .rename_i e' n size es iv h1 h2 h3;split at e
  .rename_i hn;subst hn;simp only[msi] at e;obtain⟨cs,h4,rfl⟩:=e;unfold idxV at h4;split at h4
   .rename_i k m;split at h4
    .rename_i hm;have hi:=al (G.v h3);have hlt:=(gsi.1 h4).1;rcases qa (show Rep F (.slice n es) (ρc x) from G.opr x _ h2) with⟨_,h0⟩|⟨a,cap,g,hv,hc,hmx,hs,ho,hg,hr⟩
     .subst h0;simp at hlt
     exact⟨_,fun w'=>by rw[hv,hi];exact jbf h1 k m a es.length cap hm omq w'⟩
    cases h4
   cases h4
  cases e
 .rename_i e' n id off m size iv h1 h2 h3;split at e
  .rename_i hn;subst hn;simp only[msi] at e;obtain⟨q,h4,rfl⟩:=e;unfold idxS at h4;split at h4
   .rename_i k j;split at h4
    .rename_i hm;cases h4;have hi:=al (G.v h3);obtain⟨cap,hc1,hc2,hc3,hv⟩:=show ∃cap,m<=cap/\cap<=maxLen/\0<m/\ρc x=_ from G.opr x _ h2
     exact zeu
    cases h4
   cases h4
  cases e
 .rename_i e' n r off m cap iv h1 h2 h3;split at e
  .simp only[msi] at e;obtain⟨q,h4,rfl⟩:=e;unfold idxS at h4;split at h4
   .rename_i k j;split at h4
    .rename_i hm;cases h4;have hi:=al (G.v h3);have hv:=al (show Rep F (.val _) (ρc x) from G.opr x _ h2);exact zeu
    cases h4
   cases h4
  cases e
 cases e
theorem qss(S:SimS P T M F0 w0 F ρ st a w){o:Oper}{op:BinOp}{t ty:TypeId}{x:Operand}{k:IntKind}{n:Int}{tv:TV}(ho:o.op=.binOp op t x (.const (.int k n)) ty)(e:evq P (opv st.σ) st.h o.op=some tv):∃v,∀w',(execOp a.eval o).run P w'= .ok (.value v) w':=by
 have G:=Sim.good S;have hc:vOf (opv st.σ (.const (.int k n)))=some (.val (.int k n)):=rfl;cases hx:vOf (opv st.σ x) with
 |none=>exfalso;rw[ho] at e;simp only[evq,hx,hc] at e;cases e
 |some xv=>
  have key:∃z,binV P op t xv (.val (.int k n))=some (.val z):=by
   rw[ho] at e;simp only[evq,hx,hc] at e
   have e2:∃v,binV P op t xv (.val (.int k n))=some v:=by
    obtain⟨v,hv,-⟩:=msi.1 e;exact⟨v,hv⟩
   obtain⟨v,hv⟩:=e2;have hv0:=hv;unfold binV at hv;split at hv
   .rename_i h1;cases h1;split at hv
    .unfold shV at hv;split at hv
     .cases hv;exact⟨_,hv0⟩
     cases hv
    .unfold shV at hv;split at hv
     .cases hv;exact⟨_,hv0⟩
     cases hv
    split at hv
    .obtain⟨z,rfl,-⟩:=jw0 (P:=P) hv t w;exact⟨z,hv0⟩
    cases hv
   all_goals first|(rename_i h1;cases h1;done)|(rename_i h1 _;cases h1;done)|(cases hv;done)
  obtain⟨z,hz⟩:=key;refine⟨z,fun w'=>?_⟩;obtain⟨r,hr,hv,hg⟩:=jze (P:=P) (G.v hx) (G.v hc) hz w';obtain rfl:=al hv;unfold execOp;rw[ho];exact cb (by simp[hg x (.const (.int k n)),hr])
theorem qs1(S:SimS P T M F0 w0 F ρ st a w){o:Oper}{as:Array Operand}{ts:Array TypeId}{tv:TV}(ho:o.op=.call ⟨.builtin .max,as,ts⟩)(e:evq P (opv st.σ) st.h o.op=some tv):∃v,∀w',(execOp a.eval o).run P w'= .ok (.value v) w':=by
 have G:=Sim.good S;rw[ho] at e;simp only[evq] at e;split at e
 .rename_i x y h1;obtain⟨v,h3,-⟩:=msi.1 e;obtain⟨k,k',m,q,g1,g2,rfl⟩:=jku h3;have ha:as= #[x,y]:=by apply xl;simpa using h1
  have hx:=al (G.v g1);have hy:=al (G.v g2);refine⟨.int k (if m<q then q else m),fun w'=>?_⟩;simp[execOp,ho,resolve,ha,invoke,builtin,Builtin.max_,Builtin.max2,hx,hy]
 cases e
theorem jy0{o:Oper}{K:St->Prop}(S:SimS P T M F0 w0 F ρ st a w)(hp:qu o=true)(h:dq P T o st K):∃v,∀w,(execOp a.eval o).run P w=.ok (.value v) w:=by
 simp only[qu,uw] at hp;obtain⟨-,hp⟩:=hp;split at hp
 .rename_i s x f ho;have h':evK P o st K:=by unfold dq at h;rw[ho] at h;exact h
  unfold evK at h';rw[ho] at h';have G:=Sim.good S;cases hf:fldV P s f with
  |none=>
   exfalso;simp only[evq,hf,evb] at h'
  |some q=>
   obtain⟨off,ft⟩:=q
   have hx:∃ad,a.eval x=.pointer (some ad):=by
    cases hxv:opv st.σ x with
    |none=>exfalso;simp only[evq,hf,hxv,evb] at h'
    |some tv=>
     cases tv with
     |v y=>
      cases y with
      |row cs=>
       exact zc9
      |_=>exfalso;simp only[evq,hf,hxv,evb] at h'
     |p id o'=>exact⟨_,show a.eval x=_ from G.opr x _ hxv⟩
     |_=>exfalso;simp only[evq,hf,hxv,evb] at h'
   obtain⟨ad,had⟩:=hx;refine⟨.pointer (some (ad.add off)),fun w=>?_⟩;have:=jj6 (P:=P) hf ad w;unfold execOp;rw[ho];simp only[had];simp[this,Result.andThen]
 .rename_i x ho;exact⟨a.eval x,fun w=>by unfold execOp;rw[ho];rfl⟩
 .rename_i t x i ho;have h':evK P o st K:=by unfold dq at h;rw[ho] at h;exact h
  unfold evK at h';rw[ho] at h';have G:=Sim.good S;cases he:evq P (opv st.σ) st.h (.indexAddr t x i) with
  |none=>exfalso;rw[he] at h';simp only[evb] at h'
  |some tv=>
   obtain⟨v,hv⟩:=qs8 G he;exact⟨v,fun w=>by unfold execOp;rw[ho];exact cb (hv w)⟩
 .rename_i op t x k n ty ho;have hc:vOf (opv st.σ (.const (.int k n)))=some (.val (.int k n)):=rfl
  have h':evK P o st K:=by
   unfold dq at h;rw[ho] at h;simp only[hc] at h;split at h
   .rename_i h2;cases h2
   exact h
  unfold evK at h';rw[ho] at h';have G:=Sim.good S;cases he:evq P (opv st.σ) st.h (.binOp op t x (.const (.int k n)) ty) with
  |none=>exfalso;rw[he] at h';simp only[evb] at h'
  |some tv=>
   exact qss S ho (by rw[ho];exact he)
 .rename_i as ts ho;have h':evK P o st K:=by unfold dq at h;rw[ho] at h;exact h
  unfold evK at h';rw[ho] at h';have G:=Sim.good S;cases he:evq P (opv st.σ) st.h (.call ⟨.builtin .max,as,ts⟩) with
  |none=>exfalso;rw[he] at h';simp only[evb] at h'
  |some tv=>
   exact qs1 S ho (by rw[ho];exact he)
 .rename_i x ho;have h':evK P o st K:=by unfold dq at h;rw[ho] at h;exact h
  unfold evK at h';rw[ho] at h';have G:=Sim.good S
  have hx:∃ad,a.eval x=.pointer (some ad):=by
   cases hxv:opv st.σ x with
   |none=>exfalso;simp only[evq,hxv,evb] at h'
   |some tv=>
    cases tv with
    |v y=>
     cases y with
     |row cs=>
      exact zc9
     |_=>exfalso;simp only[evq,hxv,evb] at h'
    |p id o'=>exact⟨_,show a.eval x=_ from G.opr x _ hxv⟩
    |_=>exfalso;simp only[evq,hxv,evb] at h'
  obtain⟨ad,had⟩:=hx;exact⟨.pointer (some ad),fun w=>by unfold execOp;rw[ho];simp only[had];rfl⟩
 cases hp
theorem jdx{i:Nat}{li:Array Bool}(h:i∈Region.ready .any ops li):∃o,ops[i]?=some o:=by
 obtain⟨-,o,ho,-⟩:=mem_ready.1 h;exact⟨o,ho⟩
theorem jto{o:Oper}{st:St}{K:St->Prop}(h:qu o=true)(hk:nr P T o st K):dq P T o st K:=by
 unfold nr at hk;unfold qu at h;split at hk
 .rename_i ho;rw[ho] at h;simp at h
 exact hk
theorem jsj{i:Nat}{o:Oper}{K:St->Prop}{next:Act->World->Prop}(hi:ops[i]?=some o)(S:SimS P T M F0 w0 F ρ st a w)(h:fi P T ops.toList i st K) 
  (k:∀F' ρ' st' a' w',SimS P T M F0 w0 F' ρ' st' a' w'->K st'->next a' w'):wpOpIn (fc rd) 0 P ops Q i next a w:=by
 unfold fi at h;have hi':ops.toList[i]?=some o:=by simpa using hi
 rw[hi'] at h;simp only at h;cases hg:gdV ops.toList o st.σ with
 |none=>rw[hg] at h;exact h.elim
 |some b=>
  rw[hg] at h;unfold wpOpIn;simp only[hi];rw[Sim.wanted S hg];cases b with
  |true=>
   simp only[oe] at h;rw[um rfl];exact jiz S h k
  |false=>
   simp only[tb] at h;rw[ul smq];obtain⟨st',S',hK⟩:=nz (tv:=.u) (x:=undef) S rfl trivial h;exact⟨fun _ _=>trivial,k F ρ st' _ w S' hK⟩
theorem jd8{K:St->Prop}(hpl:jaf ops=true)(hQ:∀c a w,¬Q (.panic c) a w)(hK:∀F' ρ' st' a' w',SimS P T M F0 w0 F' ρ' st' a' w'->K st'->Q .normal a' w'):∀(t:Otree) (b:Bool) (li:Array Bool) (fuel:Nat) (F:Frz) (ρ:Nat->Nat) (st:St) (a:Act) (w:World),
  okT ops b t li=true->t.dep<=fuel->SimS P T M F0 w0 F ρ st a w->awT P T ops.toList K t st->
  (b=false->wpAnyIn (fc rd) 0 P .any ops Q fuel li a w)/\(∀i,t.has i=true->i∈Region.ready .any ops li->∀f',fuel=f'+1->wpOpIn (fc rd) 0 P ops Q i (wpAnyIn (fc rd) 0 P .any ops Q f' (li.setIfInBounds i true)) a w)
 |.done,b,li,fuel,F,ρ,st,a,w,ho,hd,S,h=>by
  simp only[okT,uw,qvu] at ho;have hr:Region.ready .any ops li=[]:=List.isEmpty_iff.1 ho.2;refine⟨fun _=>?_,fun i hi=>(by cases hi)⟩
  have hq:Q .normal a w:=hK F ρ { st with t:=nrmT ops.toList st.t } a w (by
   have e:(St.mk st.n (nrmT ops.toList st.t) st.h st.o).σ=st.σ:=funext fun i=>jbl _ _ _
   show Sim P T M F0 w0 F ρ st.n (St.mk st.n (nrmT ops.toList st.t) st.h st.o).σ st.h st.o a w
   rw[e];exact S) h
  cases fuel with
  |zero=>exact⟨hr,hq⟩
  |succ n=>exact⟨fun _=>hq,by rw[hr];simp⟩
 |.sort r,b,li,fuel,F,ρ,st,a,w,ho,hd,S,h=>by
  simp only[okT,uw,qvu] at ho
  have S':SimS P T M F0 w0 F ρ { st with t:=nrmT ops.toList st.t } a w:=by
   have e:(St.mk st.n (nrmT ops.toList st.t) st.h st.o).σ=st.σ:=funext fun i=>jbl _ _ _
   show Sim P T M F0 w0 F ρ st.n (St.mk st.n (nrmT ops.toList st.t) st.h st.o).σ st.h st.o a w
   rw[e];exact S
  exact⟨fun _=>(jd8 hpl hQ hK r false li fuel F ρ _ a w ho.2 hd S' h).1 rfl,fun i hi=>by cases hi⟩
 |.nil,b,li,fuel,F,ρ,st,a,w,ho,hd,S,h=>by
  simp only[okT] at ho;subst ho;exact⟨fun e=>(by cases e),fun i hi=>(by cases hi)⟩
 |.one i r,b,li,fuel,F,ρ,st,a,w,ho,hd,S,h=>by
  simp only[okT,uw,qvu] at ho;obtain⟨⟨⟨⟨h1,h2⟩,h3⟩,h4⟩,h5⟩:=ho;simp only[Otree.dep] at hd;refine⟨fun _=>?_,fun i hi=>(by cases hi)⟩;obtain⟨f',rfl⟩:∃f',fuel=f'+1:=⟨fuel-1,omq⟩;have hri:i∈Region.ready .any ops li:=by simpa using h2
  obtain⟨o,hoi⟩:=jdx hri;rw[hoi] at h4;have hp:qu o=true:=by simpa using h4
  have hg:o.guard=none:=by
   exact zek
  simp only[awT] at h
  have hs:dq P T o st (awT P T ops.toList K r):=by
   unfold fi at h;have hi':ops.toList[i]?=some o:=by simpa using hoi
   rw[hi'] at h;simp only[gdV,hg,oe] at h;exact jto hp h
  obtain⟨v,hv⟩:=jy0 S hp hs;refine qo6 (P:=P) hoi hg hpl hQ f' li a w (Region.free_spec hoi h3) hri hv ?_;have:=jfo (rd:=rd) (Q:=Q) (next:=wpAnyIn (fc rd) 0 P .any ops Q f' (li.setIfInBounds i true)) S hs fun F' ρ' st' a' w' S' hK'=>(jd8 hpl hQ hK r false _ f' F' ρ' st' a' w' h5 omq S' hK').1 rfl;have h6:=this.2;rw[Oper.semAt_eq _ _ _ (jbh hpl hoi).1,hv w] at h6;exact h6
 |.alt i r more,b,li,fuel,F,ρ,st,a,w,ho,hd,S,h=>by
  simp only[okT,uw] at ho;obtain⟨⟨h1,h2⟩,h3⟩:=ho;simp only[Otree.dep] at hd;simp only[awT] at h;obtain⟨hs,hm⟩:=h
  have key:∀j,(Otree.alt i r more).has j=true->j∈Region.ready .any ops li->∀f',fuel=f'+1->wpOpIn (fc rd) 0 P ops Q j (wpAnyIn (fc rd) 0 P .any ops Q f' (li.setIfInBounds j true)) a w:=fun j hj hr f' hf=>by
   simp only[Otree.has,qvt,qvc] at hj;rcases hj with rfl|hj
   .obtain⟨o,hoi⟩:=jdx hr;exact jsj hoi S hs fun F' ρ' st' a' w' S' hK'=>(jd8 hpl hQ hK r false _ f' F' ρ' st' a' w' h2 omq S' hK').1 rfl
   exact(jd8 hpl hQ hK more true li fuel F ρ st a w h3 omq S hm).2 j hj hr f' hf
  refine⟨fun hb=>?_,key⟩;subst hb;simp only[yb,uw,vj] at h1;obtain⟨h0,h1⟩:=h1;obtain⟨f',rfl⟩:∃f',fuel=f'+1:=⟨fuel-1,omq⟩;refine⟨fun h=>?_,fun j hj=>?_⟩
  .rw[h] at h0;cases h0
  exact key j (by
   have:=h1 j hj;simp only[qvt,qvc] at this;simp only[Otree.has,qvt,qvc]
   exact this.imp xq id) hj f' rfl
end
theorem jc7[hm:Mixed P]{id:Nat}{ops:Array Oper}{l:List Oper}{st:St}{Q:AX->St->Prop}(t:Otree)(k:awT P T l (Q .nm) t st)(hl:ops.toList=l:=by rfl)(hB:qcd ops t=true:=by kernel_rfl):aw P T (.region id ops true) st Q:=by
 subst hl;refine jp8 ?_;intro rd M F0 w0 F ρ a w Q' id S hQ;simp only[qcd,uw] at hB;obtain⟨⟨h1,h2⟩,h3⟩:=hB;have hx:Ext F w F w.drew:=(Ext.refl S.sees).drew;have:=(jd8 (rd:=rd) (Q:=fun e a w=>match e with|.normal=>∃F' ρ' st',SimS P T M F0 w0 F' ρ' st' a w/\Q .nm st'|_=>False) h1 (fun _ _ _ h=>h) (fun F' ρ' st' a' w' S' hK=>⟨F',ρ',st',S',hK⟩) t false _ ops.size F ρ st a w.drew h2 (qv8 h3) (Sim.ext S hx) k).1 rfl;refine wpIn_mono (wpIn_region_any hm.eq this) ?_;intro e a' w' hq;cases e with
 |normal=>obtain⟨F',ρ',st',S',hK⟩:=hq;exact hQ F' ρ' st' a' w' S' hK
 |_=>exact hq.elim
def awTk(P:Program)(T:Lay)(l:List Oper)(K:St->Prop)(r:Otree):St->Prop:=fun st=>awT P T l K r st
theorem qqz{l:List Oper}{K:St->Prop}{st:St}: awT P T l K .done st=K { st with t:=nrmT l st.t } := rfl
theorem qt6{l:List Oper}{K:St->Prop}{st:St}{i:Nat}{r:Otree}: awT P T l K (.one i r) st=fi P T l i st (awTk P T l K r):=rfl
theorem qt8{l:List Oper}{K:St->Prop}{st:St}{i:Nat}{r more:Otree}: awT P T l K (.alt i r more) st=(fi P T l i st (awTk P T l K r)/\awT P T l K more st):=rfl
theorem qqy{l:List Oper}{K:St->Prop}{st:St}{r:Otree}: awT P T l K (.sort r) st=awTk P T l K r { st with t:=nrmT l st.t } := rfl
theorem qt7{l:List Oper}{K:St->Prop}{st:St}: awT P T l K .nil st=True:=rfl
theorem qqx{l:List Oper}{K:St->Prop}{st:St}{r:Otree}: awTk P T l K r st=awT P T l K r st:=rfl
@[congr] theorem awT_cg{l : List Oper}{K : St -> Prop}{r : Otree}{st st' : St}(h : st = st'): awT P T l K r st = awT P T l K r st' := by rw [h]
@[congr] theorem awTk_cg{l : List Oper}{K : St -> Prop}{r : Otree}: awTk P T l K r = awTk P T l K r := rfl
theorem jby {p q r:Prop} (hr:r) (h:q) (e:r->q->p:=by
  intro hr g
  repeat (first
   |with_reducible refine tx ?_
   |with_reducible refine jce ?_
   |refine runC ?_
   |refine tw rfl ?_
   |refine runR ?_
   | (simp (config:= {maxSteps:=1000000,implicitDefEqProofs:=false}) (disch:=(first | omega | (simp only[ve,List.length_cons,List.length_nil,xo,vz,ut]; omega))) only[↓qqz,↓qt6,↓qt8,↓qqy,qt7,qqx,fi,nrmT,vf,and_true,↓jn9,jp7,↓jne,jpb,↓jnc,jp9,jck,↓jng,jpd,effD,jex,↓oe,↓tb,dq,nr,qw,gdV,movK,putK,retK,retD,retM,evK,jn8,jnd,jnb,jnf,jp3,
     jak,jly,jo6,jm0,jo5,jlx,jo3,jo4,jju,jlz,cd,jqo,jqn,jqp,nu_v,nu_p,nu_m,nu_s,jt,joz,joy,jok,jox,jow,jov,jou,jcd,rm,re,σ_mk,py,jec,jev,jqq,jew,jqs,jqr,jlw,jdo,jed,qh,qi,jnn,jmv,qd,jlm,jld,jhy,jhf,qq,qk,cu,qy,appK,appL,appS,appX,
     bb,ec,seth,cz,ldK,ldO,stO,eg,je3,jkx,jnl,jll,jnu,jnw,jnv,vN_v,vN_p,vN_m,jm6,jm7,jm8,jpz,jpy,dg,jl4,jon,joo,jop,jmj,jmk,mapN,jq1,jnm,jpf,plc,pid,pof,mpc,bo,setb,lk,bk,ej,remK,gb,Blk.wn,Blk.nm,nam,Nat.reduceDiv,Nat.reduceMod,Nat.reduceEqDiff,Nat.reduceBEq,Nat.reduceBNe,↓reduceIte,Nat.reduceAdd,Nat.reduceMul,Nat.reduceLT,Nat.reduceLeDiff,Nat.reduceSub,jrc,qv6,xx,yj,yb,qw2,yc,xm,qvg,Option.isSome_none,vq,reduceCtorEq,
     jpo,jpp,jpn,jqw,jqx,jqv,jqg,jqf,jn5,jlj,
     evq,evb,behind,memV,nf,pa,cn,jqa,jqy,jpr,jpq,jcs,bytB,mkK,jqk,jqj,jpe,jpm,jp1,jq3,jq2,jpj,jq0,jno,jlo,jph,jni,jkr,jql,jqb,mapE,gz,eqC,nilK,jmd,jme,jo9,joa,job,jm4,joc,jod,Option.getD_none,Option.getD_some,jkf,jli,jkv,jmh,
     idxV,bytV,minV,binV,jps,jcq,jcj,eqOp,jfa,capV,kz,lenV,jc9,optV,vsOf,nl,bsV,pu,oneV,V.one,V.cells,jr0,nj,kw,frzR,frzC,frz1,frzB,
     qwa,ym,List.take_succ_cons,List.take_zero,List.length_cons,List.length_nil,List.nil_append,List.cons_append,vw,Option.map_some,Option.map_none,Option.bind_some,Option.bind_none,uu,Option.isSome_some,
     List.getElem?_cons_zero,List.getElem?_cons_succ,vm,ut,jpx,jjj,b_ft,b_tf,nn_t,jmg,jns,jnt,jo8,jm3,jo7,jm2,jlp,jny,jnx,jpl,qvw,eq_self,va,uy,Int.reduceToNat,Int.reduceLE,Int.reduceLT,Int.reduceEq,Int.reduceNeg,qvi,Nat.one_mul,vx,Nat.add_zero,jnq,jmw,jmx,jmy,jmz,jn0,jn1,qv9,qw3,qw5,qvl,cond_true,cond_false,yt,hr]))
  exact g):p:=e hr h
end Go.Ab
namespace Go.Ab
open Go.RowKit
variable {P : Program}{T : Lay}
inductive Gnode where
 |fin
 |one (i k:Nat)
 |ld (i k:Nat)
 |alt (l:List (Nat×Nat))
 |nam (id k:Nat)
def isLd(o:Oper):Bool:=o.guard.isNone && match o.op with
 |.load _ _=>true
 |_=>false
def frzX(h:List (Nat×Blk)):Option TV->Prop
 |some (.v (.row _))=>True
 |some (.p id _)=>match look id h with
  |some (.con _)=>True
  |_=>False
 |_=>False
def frzO(op:Op)(st:St):Prop:=match op with
 |.load _ x=>frzX st.h (opv st.σ x)
 |_=>False
def frzL(l:List Oper)(i:Nat)(st:St):Prop:=match l[i]? with
 |some o=>frzO o.op st
 |none=>False
structure Gent where
 li:List Bool
 d:Nat
 g:Gnode
def awGs(P:Program)(T:Lay)(l:List Oper)(R:Nat->St->Prop):List (Nat×Nat)->St->Prop
 |[],_=>True
 |(i,k)::r,st=>fi P T l i st (R k)/\awGs P T l R r st
def awG(P:Program)(T:Lay)(l:List Oper)(K:St->Prop):List Gent->Nat->St->Prop
 |[],_,_=>False
 |_::r,k+1,st=>awG P T l K r k st
 |e::r,0,st=>match e.g with
  |.fin=>K { st with t:=nrmT l st.t }
  |.one i k=>fi P T l i { st with t:=nrmT l st.t } (awG P T l K r k)
  |.ld i k=>frzL l i { st with t:=nrmT l st.t } /\ fi P T l i { st with t:=nrmT l st.t } (awG P T l K r k)
  |.alt js=>awGs P T l (awG P T l K r) js { st with t:=nrmT l st.t }
  |.nam id k=>∀b,awG P T l K r k { st with h:=nam id b st.h }
def Gent.to(r:List Gent)(e:Gent)(i k:Nat):Bool:=match r[k]? with
 |some e'=>e'.li == e.li.set i true && Nat.blt e'.d e.d
 |none=>false
def okG(ops:Array Oper):List Gent->Bool
 |[]=>true
 |e::r=>okG ops r && match e.g with
  |.fin=>(Region.ready .any ops e.li.toArray).isEmpty
  |.one i k=>(Region.ready .any ops e.li.toArray).contains i && Region.free .any ops e.li.toArray i && ((ops[i]?).map qu == some true) && e.to r i k
  |.ld i k=>(Region.ready .any ops e.li.toArray).contains i && Region.free .any ops e.li.toArray i && ((ops[i]?).map isLd == some true) && e.to r i k
  |.nam _ k=>match r[k]? with
   |some e'=>e'.li == e.li && Nat.ble e'.d e.d
   |none=>false
  |.alt js=> !(Region.ready .any ops e.li.toArray).isEmpty && (Region.ready .any ops e.li.toArray).all (fun j=>js.any fun x=>x.1 == j) && js.all fun x=>e.to r x.1 x.2
def qac(ops:Array Oper)(t:List Gent):Bool:=jaf ops && okG ops t && match t with
 |e::_=>e.li == List.replicate ops.size false && Nat.ble e.d ops.size
 |[]=>false
theorem jzg{l:List Oper}{R:Nat->St->Prop}{st:St}{x:Nat×Nat}: ∀ {js:List (Nat×Nat)},awGs P T l R js st->x∈js->fi P T l x.1 st (R x.2)
 |y::r,h,hx=>by
  rcases vg.1 hx with rfl|hx
  .exact h.1
  exact jzg h.2 hx
theorem jhr{r:List Gent}{e:Gent}{i k:Nat}(h:e.to r i k=true):∃e',r[k]?=some e'/\e'.li=e.li.set i true/\e'.d<e.d:=by
 unfold Gent.to at h;split at h
 .rename_i e' he;simp only[uw] at h;exact⟨e',he,eq_of_beq h.1,qv8 h.2⟩
 cases h
section
variable {ops : Array Oper}{rd : Option Nat}{w0 w : World}{M : Nat -> Prop}{F0 F : Frz}{ρ : Nat -> Nat}{a : Act}{st : St}{Q : Exit -> Act -> World -> Prop}
theorem qrl{l:List Oper}(S:SimS P T M F0 w0 F ρ st a w):SimS P T M F0 w0 F ρ { st with t:=nrmT l st.t } a w:=by
 have e:(St.mk st.n (nrmT l st.t) st.h st.o).σ=st.σ:=funext fun i=>jbl _ _ _
 show Sim P T M F0 w0 F ρ st.n (St.mk st.n (nrmT l st.t) st.h st.o).σ st.h st.o a w
 rw[e];exact S
def jfd(F0 F:Frz):Frz:= { c:=F.c,m:=F.m,z:=F0.z }
theorem jlt(S:SimS P T M F0 w0 F ρ st a w):SimS P T M (jfd F0 F) w F ρ st a w:=
  { S with
    lay:=⟨⟨⟨(Sim.laid S).1.c,(Sim.laid S).1.m⟩,(Sim.laid S).2⟩,S.lay.2⟩
    le:=⟨fun _ _ h=>h,fun _ _ h=>h⟩
    new:=fun _ _ h=>.inl h
    newm:=fun _ _ h=>.inl h
    bel:=BelM.refl M w
    hM:=fun j hj=>S.hM j (xa S.bel.size hj) }
theorem jlu{F':Frz}{ρ':Nat->Nat}{st':St}{a':Act}{w':World}(S:SimS P T M F0 w0 F ρ st a w)(S':SimS P T M (jfd F0 F) w F' ρ' st' a' w'):SimS P T M F0 w0 F' ρ' st' a' w'/\Le F F':=
  have hle:Le F F':=⟨S'.le.c,S'.le.m⟩
  ⟨{ S' with
    lay:=S.lay
    le:=S.le.trans hle
    new:=fun p v h=>(S'.new p v h).elim (S.new p v) .inr
    newm:=fun p v h=>(S'.newm p v h).elim (S.newm p v) .inr
    bel:=S.bel.trans S'.bel
    hM:=S.hM },hle⟩
theorem qom{i:Nat}{o:Oper}{K:St->Prop}{next:Act->World->Prop}(hi:ops[i]?=some o)(S:SimS P T M F0 w0 F ρ st a w)(h:fi P T ops.toList i st K) 
  (k:∀F' ρ' st' a' w',SimS P T M F0 w0 F' ρ' st' a' w'->Le F F'->K st'->next a' w'):wpOpIn (fc rd) 0 P ops Q i next a w:=
 jsj hi (jlt S) h fun F' ρ' st' a' w' S' hK=>k F' ρ' st' a' w' (jlu S S').1 (jlu S S').2 hK
def ni(rd:Option Nat)(P:Program)(ops:Array Oper)(Q:Exit->Act->World->Prop):Nat->Frz->Array Bool->Act->World->Prop
 |0,_,li,a,w=>Region.ready .any ops li=[]/\Q .normal a w
 |fuel+1,F,li,a,w=>(Region.ready .any ops li=[]->Q .normal a w)/\∀i∈Region.ready .any ops li,wpOpIn (fc rd) 0 P ops Q i (fun a' w'=>∃F',Le F F'/\Sees F' w'/\ni rd P ops Q fuel F' (li.setIfInBounds i true) a' w') a w
theorem qc2:∀(fuel:Nat) (F:Frz) (li:Array Bool) (a:Act) (w:World),ni rd P ops Q fuel F li a w->wpAnyIn (fc rd) 0 P .any ops Q fuel li a w
 |0,_,_,_,_,h=>h
 |fuel+1,_,_,_,_,h=>⟨h.1,fun i hi=>wpOpIn_mono (fun a' w' ⟨F',_,_,h'⟩=>qc2 fuel F' _ a' w' h') (h.2 i hi)⟩
theorem qo7{F F':Frz}(h:Le F F'):∀ {fuel:Nat} {li:Array Bool} {a:Act} {w:World},ni rd P ops Q fuel F' li a w->ni rd P ops Q fuel F li a w
 |0,_,_,_,k=>k
 |_+1,_,_,_,k=>⟨k.1,fun i hi=>wpOpIn_mono (fun _ _ ⟨F2,h1,h2⟩=>⟨F2,h.trans h1,h2⟩) (k.2 i hi)⟩
theorem Sees.le{F F':Frz}{w:World}(h:Le F F')(h':Sees F' w):Sees F w:=⟨fun p v e=>h'.c p v (h.c p v e),fun b xs e=>h'.m b xs (h.m b xs e)⟩
theorem qk1{i:Nat}{oi:Oper}{v:Value}(hi:ops[i]?=some oi)(hg:oi.guard=none)(hpl:jaf ops=true)(hQ:∀c a w,¬Q (.panic c) a w):
  ∀(fuel:Nat) (F:Frz) (li:Array Bool) (a:Act) (w:World),Sees F w->(∀j oj,ops[j]?=some oj->j≠i->li.getD j true=false->(∀e∈oj.after,Region.binds .any e=true->e.on≠i)->oi.apart ops oj=true)->
   i∈Region.ready .any ops li->(∀w,Sees F w->(execOp a.eval oi).run P w=.ok (.value v) w)->
   ni rd P ops Q fuel F (li.setIfInBounds i true) (a.put oi.dst v) w->ni rd P ops Q (fuel+1) F li a w:=by
 have self:∀ {K:Act->World->Prop} {a:Act} {w:World} {F:Frz},Sees F w->(∀w,Sees F w->(execOp a.eval oi).run P w=.ok (.value v) w)->K (a.put oi.dst v) w->wpOpIn (fc rd) 0 P ops Q i K a w:=fun {K a w F} hs hy hK=>by
  unfold wpOpIn;simp only[hi];have hw:Region.wanted oi (yielded ops a.tmps)=true:=by unfold Region.wanted;rw[hg]
  rw[hw,um rfl];exact cq (hy w hs) hK
 intro fuel
 induction fuel with
 |zero=>
  intro F li a w hs _ hr hy H;refine⟨fun h=>zfk,fun j hj=>?_⟩;by_cases hji:j=i
  .subst hji;exact self hs hy ⟨F,Le.refl F,hs,H⟩
  have:=ready_mono hj hji;rw[H.1] at this;cases this
 |succ fuel ih=>
  intro F li a w hs hfree hr hy H;refine⟨fun h=>zfk,fun j hj=>?_⟩;by_cases hji:j=i
  .subst hji;exact self hs hy ⟨F,Le.refl F,hs,H⟩
  have h1:=H.2 j (ready_mono hj hji);obtain⟨hjun,oj,hoj,hall⟩:=mem_ready.1 hj
  have hnot:∀e∈oj.after,Region.binds .any e=true->e.on≠i:=fun e he hb heq=>by
   have g1:=hall e he hb;have g0:=(mem_ready.1 hr).1;rw[heq] at g1;rcases vo i li.size with h'|h'
   .simp[h'] at g0 g1;rw[g0] at g1;cases g1
   simp[Array.getElem?_eq_none h'] at g1
  obtain⟨p1,p2,p3⟩:=Oper.apart_spec (hfree j oj hoj hji hjun hnot);obtain⟨q1,q2⟩:=jbh hpl hoj;have hsi:=(jbh hpl hi).2
  have hfree':∀k ok,ops[k]?=some ok->k≠i->(li.setIfInBounds j true).getD k true=false->(∀e∈ok.after,Region.binds .any e=true->e.on≠i)->oi.apart ops ok=true:=fun k ok hk hki hun hno=>by
   refine hfree k ok hk hki ?_ hno;by_cases hjk:j=k
   .subst hjk;exact hjun
   exact zej
  have next:∀a' w',((∀w,Sees F w->(execOp a'.eval oi).run P w=.ok (.value v) w)/\∃F',Le F F'/\Sees F' w'/\ni rd P ops Q fuel F' ((li.setIfInBounds i true).setIfInBounds j true) (a'.put oi.dst v) w')->∃F',Le F F'/\Sees F' w'/\ni rd P ops Q (fuel+1) F' (li.setIfInBounds j true) a' w':=fun a' w' h3=>by
   obtain⟨h4,F',h5,h6,h7⟩:=h3;exact⟨F',h5,h6,ih F' (li.setIfInBounds j true) a' w' h6 hfree' (ready_mono hr (ye hji)) (fun w hw=>h4 w (Sees.le h5 hw)) (by rw[Array.setIfInBounds_comm _ _ hji];exact h7)⟩
  refine wpOpIn_mono next ?_;unfold wpOpIn at h1 ⊢;simp only[hoj] at h1 ⊢;rw[wanted_put (ops:=ops) oj a oi.dst v p1] at h1;split
  .rename_i hw;rw[um hw] at h1
   exact qaa (ops:=ops) q1 q2 p1 p2 hQ (I:=fun a'=>∀w,Sees F w->(execOp a'.eval oi).run P w=.ok (.value v) w) (fun u=>by rw[execOp_put (ops:=ops) oi hsi a oj.dst u p3];exact hy)
    (fun dd=>by rw[execOp_put (ops:=ops) oi hsi { a with defers:=dd::a.defers } oj.dst undef p3];exact hy) h1
  rename_i hw;rw[ul hw] at h1;refine⟨fun _ _=>trivial,?_,?_⟩
  .rw[execOp_put (ops:=ops) oi hsi a oj.dst undef p3];exact hy
  rw[<- Act.put_comm a v undef p2];exact h1.2
theorem qs2{t:TypeId}{ad:Addr}{cs:List V}{g:Nat->Value}{v:V}(h:At F ad cs g)(hl:ldV P t cs=some v):∃x,∀w',Sees F w'->(loadVar t ad).run P w'= .ok x w':=by
 unfold ldV at hl;cases hb:aggB P t with
 |none=>rw[hb] at hl;cases hl
 |some b=>
  rw[hb] at hl;cases b with
  |true=>
   simp only[msi] at hl;obtain⟨r,hr,rfl⟩:=hl;obtain⟨rfl,hn⟩:=ja1 hr
   have hi:∃i,P.info? t=some i:=by
    unfold aggB at hb;cases hu:P.underlying t with
    |none=>rw[hu] at hb;cases hb
    |some d=>exact jfe hu
   obtain⟨i,hi⟩:=hi;refine⟨.agg ((List.range (P.cellsOf t)).map g).toArray,fun w' hF=>?_⟩;have hrun:=run_loadCells (P:=P) w' ad (P.cellsOf t) g (fun j hj=>hF _ _ (h.at_ j cs[j] (gge omq)));simp[loadVar,ru hb,ja hi,hrun,Result.andThen]
  |false=>
   simp only[qwg] at hl;refine⟨g 0,fun w' hF=>?_⟩;have:=hF _ _ (h.at_ 0 v hl);have h0:ad.add 0=ad:=by simp[Addr.add]
   rw[h0] at this;simp[loadVar,ru hb,Result.andThen,this]
theorem qty{o:Oper}{K:St->Prop}(S:SimS P T M F0 w0 F ρ st a w)(hp:isLd o=true)(hz:frzO o.op st)(h:dq P T o st K):∃v,∀w',Sees F w'->(execOp a.eval o).run P w'= .ok (.value v) w':=by
 simp only[isLd,uw] at hp;obtain⟨-,hp⟩:=hp;split at hp
 .rename_i t x ho;have h':ldK P o t x st K:=by unfold dq at h;rw[ho] at h;exact h
  unfold ldK at h';rw[ho] at h' hz;have G:=Sim.good S;cases he:evq P (opv st.σ) st.h (.load t x) with
  |none=>exfalso;rw[he] at h';exact h'
  |some tv=>
   simp only[evq,yl,msi] at he;obtain⟨cs,h1,v,h2,rfl⟩:=he;simp only[frzO] at hz
   have key:∃ad g,a.eval x=.pointer (some ad)/\At F ad cs g:=by
    unfold frzX at hz;split at hz
    .rename_i cs' hx;rw[hx] at h1;cases h1;obtain⟨ad,g,e,hat⟩:=rp (show Rep F (.row _) (a.eval x) from G.opr x _ hx);exact⟨ad,g,e,hat⟩
    .rename_i id off hx;have e:=show a.eval x=_ from G.opr x _ hx
     rw[hx] at h1;split at hz
     .rename_i cs' hk;simp only[behind,memV,hk,uu] at h1;subst h1;obtain⟨g,g1,g2,g3⟩:=G.blk id _ hk;exact⟨_,fun j=>g (off+j),e,fun c hc=>g1 c (qvr hc),fun j c hc=>by rw[eu];exact g2 _ c ze2,fun j c hc=>g3 _ c ze2⟩
     exact hz.elim
    exact hz.elim
   obtain⟨ad,g,e,hat⟩:=key;obtain⟨y,hy⟩:=qs2 (P:=P) hat h2;refine⟨y,fun w' hw'=>?_⟩;unfold execOp;rw[ho];have:(Instr.loadAt t (a.eval x)).run P w'= .ok y w':=by simp[Instr.loadAt,e,Instr.sureAddr,hy w' hw']
   simp[this,Result.andThen]
 cases hp
theorem qoj{o:Oper}{st:St}{K:St->Prop}(h:isLd o=true)(hk:nr P T o st K):dq P T o st K:=by
 unfold nr at hk;unfold isLd at h;split at hk
 .rename_i ho;rw[ho] at h;simp at h
 exact hk
theorem jd3{K:St->Prop}(hpl:jaf ops=true)(hQ:∀c a w,¬Q (.panic c) a w)(hK:∀F' ρ' st' a' w',SimS P T M F0 w0 F' ρ' st' a' w'->K st'->Q .normal a' w'):∀(t:List Gent) (k:Nat) (e:Gent) (fuel:Nat) (F:Frz) (ρ:Nat->Nat) (st:St) (a:Act) (w:World),
  okG ops t=true->t[k]?=some e->e.d<=fuel->SimS P T M F0 w0 F ρ st a w->awG P T ops.toList K t k st->ni rd P ops Q fuel F e.li.toArray a w
 |[],k,e,fuel,F,ρ,st,a,w,ho,he,hd,S,h=>by cases he
 |x::r,k+1,e,fuel,F,ρ,st,a,w,ho,he,hd,S,h=>by
  simp only[okG,uw] at ho;exact jd3 hpl hQ hK r k e fuel F ρ st a w ho.1 (by simpa using he) hd S h
 |x::r,0,e,fuel,F,ρ,st,a,w,ho,he,hd,S,h=>by
  simp only[List.getElem?_cons_zero,uu] at he;subst he;simp only[okG,uw] at ho;obtain⟨ho,hx⟩:=ho;have S':=qrl (l:=ops.toList) S
  have first:∀ {i k:Nat} {e':Gent} {f':Nat} {o:Oper},ops[i]?=some o->o.guard=none->i∈Region.ready .any ops x.li.toArray->Region.free .any ops x.li.toArray i=true->r[k]?=some e'->e'.li=x.li.set i true->e'.d<=f'->
    (∃v,∀w',Sees F w'->(execOp a.eval o).run P w'= .ok (.value v) w')->dq P T o { st with t:=nrmT ops.toList st.t } (awG P T ops.toList K r k)->ni rd P ops Q (f'+1) F x.li.toArray a w:=fun {i k e' f' o} hoi hgd hri h3 he' hli hlt hv hs=>by
   obtain⟨v,hv⟩:=hv;refine qk1 (P:=P) hoi hgd hpl hQ f' F _ a w S.sees (Region.free_spec hoi h3) hri hv ?_
   have:=jfo (rd:=rd) (Q:=Q) (next:=fun a' w'=>∃F',Le F F'/\Sees F' w'/\ni rd P ops Q f' F' (x.li.toArray.setIfInBounds i true) a' w') (jlt S') hs fun F' ρ' st' a' w' S2 hK'=>by
    obtain⟨S3,hle⟩:=jlu S' S2;have:=jd3 hpl hQ hK r k e' f' F' ρ' st' a' w' ho he' hlt S3 hK';rw[hli,<- List.setIfInBounds_toArray] at this;exact⟨F',hle,S3.sees,this⟩
   have h6:=this.2;rw[Oper.semAt_eq _ _ _ (jbh hpl hoi).1,hv w S.sees] at h6;obtain⟨F',hle,-,h7⟩:∃F',Le F F'/\Sees F' w/\ni rd P ops Q f' F' (x.li.toArray.setIfInBounds i true) (a.put o.dst v) w:=h6;exact qo7 hle h7
  unfold awG at h;cases hg:x.g with
  |fin=>
   rw[hg] at hx h;have hr:Region.ready .any ops x.li.toArray=[]:=List.isEmpty_iff.1 hx;have hq:Q .normal a w:=hK F ρ _ a w S' h;cases fuel with
   |zero=>exact⟨hr,hq⟩
   |succ n=>exact⟨fun _=>hq,by rw[hr];simp⟩
  |one i k=>
   rw[hg] at hx h;simp only[uw] at hx;obtain⟨⟨⟨h2,h3⟩,h4⟩,h5⟩:=hx;obtain⟨e',he',hli,hlt⟩:=jhr h5;obtain⟨f',rfl⟩:∃f',fuel=f'+1:=⟨fuel-1,omq⟩;have hri:i∈Region.ready .any ops x.li.toArray:=by simpa using h2
   obtain⟨o,hoi⟩:=jdx hri;rw[hoi] at h4;have hp:qu o=true:=by simpa using h4
   have hgd:o.guard=none:=by
    exact zek
   have hs:dq P T o { st with t:=nrmT ops.toList st.t } (awG P T ops.toList K r k):=by
    simp only[fi] at h;have hi':ops.toList[i]?=some o:=by simpa using hoi
    rw[hi'] at h;simp only[gdV,hgd,oe] at h;exact jto hp h
   obtain⟨v,hv⟩:=jy0 S' hp hs;exact first hoi hgd hri h3 he' hli omq ⟨v,fun w' _=>hv w'⟩ hs
  |ld i k=>
   rw[hg] at hx h;simp only[uw] at hx;obtain⟨⟨⟨h2,h3⟩,h4⟩,h5⟩:=hx;obtain⟨e',he',hli,hlt⟩:=jhr h5;obtain⟨f',rfl⟩:∃f',fuel=f'+1:=⟨fuel-1,omq⟩;have hri:i∈Region.ready .any ops x.li.toArray:=by simpa using h2
   obtain⟨o,hoi⟩:=jdx hri;rw[hoi] at h4;have hp:isLd o=true:=by simpa using h4
   have hgd:o.guard=none:=by
    simp only[isLd,uw] at hp;exact Option.isNone_iff_eq_none.1 hp.1
   have hi':ops.toList[i]?=some o:=by simpa using hoi
   obtain⟨hz,h⟩:=h
   have hz':frzO o.op { st with t:=nrmT ops.toList st.t } := by
    simp only[frzL] at hz;rw[hi'] at hz;exact hz
   have hs:dq P T o { st with t:=nrmT ops.toList st.t } (awG P T ops.toList K r k):=by
    simp only[fi] at h;rw[hi'] at h;simp only[gdV,hgd,oe] at h;exact qoj hp h
   exact first hoi hgd hri h3 he' hli omq (qty S' hp hz' hs) hs
  |nam id k=>
   rw[hg] at hx h;simp only at hx h;split at hx
   .rename_i e' he';simp only[uw] at hx;have h3:e'.d<=x.d:=qv8 hx.2;have:=jd3 hpl hQ hK r k e' fuel F ρ _ a w ho he' omq (Sim.nam S id) (h (ρ id));rw[eq_of_beq hx.1] at this;exact this
   cases hx
  |alt js=>
   rw[hg] at hx h;simp only[uw,vj,qvu] at hx;obtain⟨⟨h0,h1⟩,h2⟩:=hx
   have hdp:x.d≠0:=fun e0=>by
    cases hr:Region.ready .any ops x.li.toArray with
    |nil=>rw[hr] at h0;cases h0
    |cons j l=>
     obtain⟨y,hy,-⟩:=vp.1 (h1 j (by rw[hr];exact .head _));obtain⟨e',-,-,hlt⟩:=jhr (h2 y hy);omega
   obtain⟨f',rfl⟩:∃f',fuel=f'+1:=⟨fuel-1,omq⟩;refine⟨fun hr=>?_,fun j hj=>?_⟩
   .rw[hr] at h0;cases h0
   obtain⟨y,hy,hyj⟩:=vp.1 (h1 j hj);have hyj:=eq_of_beq hyj;obtain⟨e',he',hli,hlt⟩:=jhr (h2 y hy);have hs:=jzg h hy;rw[hyj] at hs hli;obtain⟨o,hoi⟩:=jdx hj;refine qom hoi S' hs fun F' ρ' st' a' w' S2 hle hK'=>?_;have:=jd3 hpl hQ hK r y.2 e' f' F' ρ' st' a' w' ho he' omq S2 hK';rw[hli,<- List.setIfInBounds_toArray] at this;exact⟨F',hle,S2.sees,this⟩
end
theorem bt[hm:Mixed P]{id:Nat}{ops:Array Oper}{l:List Oper}{st:St}{Q:AX->St->Prop}(t:List Gent)(k:awG P T l (Q .nm) t 0 st)(hl:ops.toList=l:=by rfl)(hB:qac ops t=true:=by kernel_rfl):aw P T (.region id ops true) st Q:=by
 subst hl;refine jp8 ?_;intro rd M F0 w0 F ρ a w Q' id S hQ;simp only[qac,uw] at hB;obtain⟨⟨h1,h2⟩,h3⟩:=hB
 match t,h2,h3,k with
 |e::r,h2,h3,k=>
  simp only[uw] at h3;obtain⟨h3,h4⟩:=h3;have hx:Ext F w F w.drew:=(Ext.refl S.sees).drew;have:=jd3 (rd:=rd) (Q:=fun e a w=>match e with|.normal=>∃F' ρ' st',SimS P T M F0 w0 F' ρ' st' a w/\Q .nm st'|_=>False) h1 (fun _ _ _ h=>h) (fun F' ρ' st' a' w' S' hK=>⟨F',ρ',st',S',hK⟩) (e::r) 0 e ops.size F ρ st a w.drew h2 rfl (qv8 h4) (Sim.ext S hx) k;rw[eq_of_beq h3] at this;have hz:(List.replicate ops.size false).toArray=Array.replicate ops.size false:=by simp
  rw[hz] at this;refine wpIn_mono (wpIn_region_any hm.eq (qc2 _ _ _ _ _ this)) ?_;intro e a' w' hq;cases e with
  |normal=>obtain⟨F',ρ',st',S',hK⟩:=hq;exact hQ F' ρ' st' a' w' S' hK
  |_=>exact hq.elim
def awGk(P:Program)(T:Lay)(l:List Oper)(K:St->Prop)(r:List Gent)(k:Nat):St->Prop:=fun st=>awG P T l K r k st
theorem qr5{l:List Oper}{K:St->Prop}{st:St}{r:List Gent}{k:Nat}: awGk P T l K r k st=awG P T l K r k st:=rfl
theorem qte{l:List Oper}{K:St->Prop}{st:St}{li:List Bool}{d:Nat}{r:List Gent}: awG P T l K (⟨li,d,.fin⟩::r) 0 st=K { st with t:=nrmT l st.t } := rfl
theorem qtc{l:List Oper}{K:St->Prop}{st:St}{li:List Bool}{d:Nat}{r:List Gent}{i k:Nat}: awG P T l K (⟨li,d,.one i k⟩::r) 0 st=fi P T l i { st with t:=nrmT l st.t } (awGk P T l K r k):=rfl
theorem quv{l:List Oper}{K:St->Prop}{st:St}{li:List Bool}{d:Nat}{r:List Gent}{i k:Nat}: awG P T l K (⟨li,d,.ld i k⟩::r) 0 st=(frzL l i { st with t:=nrmT l st.t } /\ fi P T l i { st with t:=nrmT l st.t } (awGk P T l K r k)):=rfl
theorem qtd{l:List Oper}{K:St->Prop}{st:St}{li:List Bool}{d:Nat}{r:List Gent}{id k:Nat}: awG P T l K (⟨li,d,.nam id k⟩::r) 0 st=∀b,awG P T l K r k { st with h:=nam id b st.h } := rfl
theorem qr6{l:List Oper}{K:St->Prop}{st:St}{e:Gent}{r:List Gent}{k:Nat}: awG P T l K (e::r) (k+1) st=awG P T l K r k st:=rfl
def px(P:Program)(T:Lay)(l:List Oper)(K:St->Prop)(r:List Gent)(js:List (Nat×Nat)):St->Prop:=awGs P T l (awG P T l K r) js
theorem qtf{l:List Oper}{K:St->Prop}{st:St}{li:List Bool}{d:Nat}{r:List Gent}{js:List (Nat×Nat)}: awG P T l K (⟨li,d,.alt js⟩::r) 0 st=px P T l K r js { st with t:=nrmT l st.t } := rfl
theorem qr4{l:List Oper}{K:St->Prop}{st:St}{r:List Gent}: px P T l K r [] st=True:=rfl
theorem qo4{l:List Oper}{K:St->Prop}{st:St}{r:List Gent}{i k:Nat}{js:List (Nat×Nat)}: px P T l K r ((i,k)::js) st=(fi P T l i st (awGk P T l K r k)/\px P T l K r js st):=rfl
def bz(n k:Nat):List Bool:=(List.range n).map k.testBit
def prs:List Nat->List (Nat×Nat)
 |i::j::r=>(i,j)::prs r
 |_=>[]
def ge(n:Nat):List Nat->Gent
 |[k]=>⟨bz n k,((List.range n).filter fun i=> !k.testBit i).length,.fin⟩
 |[k,i,j]=>⟨bz n k,((List.range n).filter fun i=> !k.testBit i).length,.one i j⟩
 |[k,i,j,_]=>⟨bz n k,((List.range n).filter fun i=> !k.testBit i).length,.ld i j⟩
 |[k,i,j,_,_,_]=>⟨bz n k,((List.range n).filter fun i=> !k.testBit i).length,.alt [(i,j)]⟩
 |k::r=>⟨bz n k,((List.range n).filter fun i=> !k.testBit i).length,.alt (prs r)⟩
 |[]=>⟨[],0,.fin⟩
def gd(n:Nat)(l:List (List Nat)):List Gent:=l.map (ge n)
section
variable {l : List Oper}{K : St -> Prop}{st : St}{n k i j i1 j1 i2 j2 i3 j3 i4 j4 i5 j5 : Nat}{r : List (List Nat)}
theorem qud:awG P T l K (gd n ([k]::r)) 0 st=K { st with t:=nrmT l st.t } := rfl
theorem quc:awG P T l K (gd n ([k,i,j]::r)) 0 st=fi P T l i { st with t:=nrmT l st.t } (awGk P T l K (gd n r) j):=rfl
theorem gd_ld:awG P T l K (gd n ([k,i,j,i1]::r)) 0 st=(frzL l i { st with t:=nrmT l st.t } /\ fi P T l i { st with t:=nrmT l st.t } (awGk P T l K (gd n r) j)):=rfl
theorem gd_a1:awG P T l K (gd n ([k,i,j,i1,i2,i3]::r)) 0 st=px P T l K (gd n r) [(i,j)] { st with t:=nrmT l st.t } := rfl
theorem gd_a2:awG P T l K (gd n ([k,i1,j1,i2,j2]::r)) 0 st=px P T l K (gd n r) [(i1,j1),(i2,j2)] { st with t:=nrmT l st.t } := rfl
theorem gd_a3:awG P T l K (gd n ([k,i1,j1,i2,j2,i3,j3]::r)) 0 st=px P T l K (gd n r) [(i1,j1),(i2,j2),(i3,j3)] { st with t:=nrmT l st.t } := rfl
theorem gd_a4:awG P T l K (gd n ([k,i1,j1,i2,j2,i3,j3,i4,j4]::r)) 0 st=px P T l K (gd n r) [(i1,j1),(i2,j2),(i3,j3),(i4,j4)] { st with t:=nrmT l st.t } := rfl
theorem gd_a5:awG P T l K (gd n ([k,i1,j1,i2,j2,i3,j3,i4,j4,i5,j5]::r)) 0 st=px P T l K (gd n r) [(i1,j1),(i2,j2),(i3,j3),(i4,j4),(i5,j5)] { st with t:=nrmT l st.t } := rfl
theorem qsc{e:List Nat}: awG P T l K (gd n (e::r)) (k+1) st=awG P T l K (gd n r) k st:=rfl
end
@[congr] theorem awG_cg{l : List Oper}{K : St -> Prop}{r : List Gent}{k : Nat}{st st' : St}(h : st = st'): awG P T l K r k st = awG P T l K r k st' := by rw [h]
@[congr] theorem qv2{l : List Oper}{K : St -> Prop}{r : List Gent}{js : List (Nat × Nat)}{st st' : St}(h : st = st'): px P T l K r js st = px P T l K r js st' := by rw [h]
@[congr] theorem awGk_cg{l : List Oper}{K : St -> Prop}{r : List Gent}{k : Nat}: awGk P T l K r k = awGk P T l K r k := rfl
theorem ci{c:Code}{st st':St}{Q:AX->St->Prop}(k:Kp)(hk:br k st=some st')(h:aw P T c st' Q):aw P T c st Q:=jrb (fun _ _ _ _ _ _ _ S=>jd2 hk S) h
theorem il{α:Type}{l:List Oper}{K:St->Prop}{t:List Gent}{st:St}(good:α->Prop)(k:Kp)(S:α->St)(hc:∀st st',br k st=some st'->K st'->K st)(h:∀x,good x->K (S x)) 
  (hm:∀K':St->Prop,(∀st x,good x->br k st=some (S x)->K' st)->awG P T l K' t 0 st):awG P T l K t 0 st:=hm K fun st x hg hk=>hc st _ hk (h x hg)
def mid(k:Kp)(φ:Prop)(S:St)(Q:AX->St->Prop):AX->St->Prop
 |.nm,st=>φ/\br k st=some S
 |e,st=>Q e st
theorem qtw(k:Kp)(φ:Prop)(S:St)(Q:AX->St->Prop)(st:St):mid k φ S Q .rt st=Q .rt st:=rfl
theorem quu{x y:Code}{st:St}{Q:AX->St->Prop}(k:Kp)(φ:Prop)(S:St)(h1:aw P T x st (mid k φ S Q))(h2:φ->aw P T y S Q):aw P T (.seq x y) st Q:=qc0 (jna h1 fun e st' h=>by
 cases e with
 |nm=>exact ci k h.2 (h2 h.1)
 |ex id=>exact h
 |rt=>exact h)
theorem midK {k : Kp} {φ : Prop} {S : St} {Q : AX -> St -> Prop} {st : St} (h : φ) (hk : br k st = some S := by
      first
      |rfl
      |(simp only[br,fq,mh,po,pm,bb,ec,Nat.reduceEqDiff,↓reduceIte,cu,qk,qq,Nat.reduceBEq,List.all_nil,qi,qd,xx,qv6,yt,okK,List.all_cons,fq,yj,qw9,cond_true,qv9,Nat.reduceLT];rfl)):mid k φ S Q .nm st:=⟨h,hk⟩
theorem gk {α : Type} {good : α -> Prop} {k : Kp} {S : α -> St} {K' : St -> Prop} {st : St} (hK : ∀ st x,good x -> br k st = some (S x) -> K' st) (x : α) (hx : good x) (hk : br k st = some (S x) := by
      first
      |rfl
      |(simp only[br,fq,mh,po,pm,bb,ec,Nat.reduceEqDiff,↓reduceIte,cu,qk,qq,Nat.reduceBEq,List.all_nil,qi,qd,xx,qv6,yt,okK,List.all_cons,fq,yj,qw9,cond_true,qv9,Nat.reduceLT];rfl)):K' st:=hK st x hx hk
abbrev tt:Bool:=true
abbrev ff:Bool:=false
theorem runG {p q r:Prop} (hr:r) (h:q) (e:r->q->p:=by
    intro hr h
    (simp (config := {maxSteps := 1000000,implicitDefEqProofs := false}) (disch := (first | omega | (simp only [ve,List.length_cons,List.length_nil,xo,vz,ut]; omega))) only [↓qud,↓quc,↓gd_ld,↓gd_a1,↓gd_a2,↓gd_a3,↓gd_a4,↓gd_a5,↓qsc,↓qte,↓qtc,↓quv,frzL,frzO,frzX,↓qtf,↓qr6,↓qtd,↓qr4,↓qo4,qr5,fi,nrmT,vf,and_true,↓jn9,jp7,↓jne,jpb,↓jnc,jp9,jck,↓jng,jpd,effD,jex,↓oe,↓tb,dq,nr,qw,gdV,movK,putK,retK,retD,retM,evK,jn8,jnd,jnb,jnf,jp3,
          jak,jly,jo6,jm0,jo5,jlx,jo3,jo4,jju,jlz,cd,jqo,jqn,jqp,nu_v,nu_p,nu_m,nu_s,jt,joz,joy,jok,jox,jow,jov,jou,jcd,rm,re,σ_mk,py,jec,jev,jqq,jew,jqs,jqr,jlw,jdo,jed,qh,qi,jnn,jmv,qd,jlm,jld,jhy,jhf,qq,qk,cu,qy,appK,appL,appS,appX,
          bb,ec,seth,cz,ldK,ldO,stO,eg,je3,jkx,jnl,jll,jnu,jnw,jnv,vN_v,vN_p,vN_m,jm6,jm7,jm8,jpz,jpy,dg,jl4,jon,joo,jop,jmj,jmk,mapN,jq1,jnm,jpf,plc,pid,pof,mpc,bo,setb,lk,bk,ej,remK,gb,Blk.wn,Blk.nm,nam,Nat.reduceDiv,Nat.reduceMod,Nat.reduceEqDiff,Nat.reduceBEq,Nat.reduceBNe,↓reduceIte,Nat.reduceAdd,Nat.reduceMul,Nat.reduceLT,Nat.reduceLeDiff,Nat.reduceSub,jrc,qv6,xx,yj,yb,qw2,yc,xm,qvg,Option.isSome_none,vq,reduceCtorEq,
          jpo,jpp,jpn,jqw,jqx,jqv,jqg,jqf,jn5,jlj,
          evq,evb,behind,memV,nf,pa,cn,jqa,jqy,jpr,jpq,jcs,bytB,mkK,jqk,jqj,jpe,jpm,jp1,jq3,jq2,jpj,jq0,jno,jlo,jph,jni,jkr,jql,jqb,mapE,gz,eqC,nilK,jmd,jme,jo9,joa,job,jm4,joc,jod,Option.getD_none,Option.getD_some,jkf,jli,jkv,jmh,
          idxV,bytV,minV,binV,jps,jcq,jcj,eqOp,jfa,capV,kz,lenV,jc9,optV,vsOf,nl,bsV,pu,oneV,V.one,V.cells,jr0,frzR,frzC,frz1,frzB,
          qwa,ym,List.take_succ_cons,List.take_zero,List.length_cons,List.length_nil,List.nil_append,List.cons_append,vw,Option.map_some,Option.map_none,Option.bind_some,Option.bind_none,uu,Option.isSome_some,
          List.getElem?_cons_zero,List.getElem?_cons_succ,vm,ut,jpx,jjj,b_ft,b_tf,nn_t,jmg,jns,jnt,jo8,jm3,jo7,jm2,jlp,jny,jnx,jpl,qvw,eq_self,va,uy,Int.reduceToNat,Int.reduceLE,Int.reduceLT,Int.reduceEq,Int.reduceNeg,qvi,Nat.one_mul,vx,Nat.add_zero,jnq,jmw,jmx,jmy,jmz,jn0,jn1,qv9,qw3,qw5,qvl,cond_true,cond_false,yt,hr])
    first|done|exact h):p:=e hr h
theorem am {p q r:Prop} (hr:r) (h:q) (e:r->q->p:=by
  intro hr g
  repeat (first
   |with_reducible refine tx ?_
   |with_reducible refine jce ?_
   |refine runC ?_
   |refine tw rfl ?_
   |refine runR ?_
   |refine runG hr ?_)
  exact g):p:=e hr h
end Go.Ab
namespace Go.Ab
open Go.RowKit
variable {P : Program}{T : Lay}
abbrev qd6(st:St)(i:Nat):St:=⟨st.n,(i,.v (.val (.slice none 0 0)))::st.t,st.h,delo i st.o⟩
abbrev qd5(st:St)(i d r cap:Nat)(e:TypeId)(size:Nat):St:=⟨st.n,(i,.v (.val (.slice (some ⟨r,0,none⟩) 0 cap)))::st.t,(d,.var [] (some r) (some (e,size,cap)))::st.h,delo i st.o⟩
theorem qky{M:Nat->Prop}{F0 F:Frz}{w0 w:World}{ρ:Nat->Nat}{st:St}{a:Act}(S:SimS P T M F0 w0 F ρ st a w){i d size:Nat}{e:TypeId} 
  (h1:look i st.t=some (.v (.slice size []))) (ho:cu i st.o=some e) (hz:P.cellsOf e=size) (hd:d<st.n) (hdh:look d st.h=none):
  SimS P T M F0 w0 F ρ (qd6 st i) a w\/∃r cap,(∀id k q,look id st.h=some k->k.nm=some q->q≠r)/\cap<=maxLen/\SimS P T M F0 w0 F (fun j=>if j=d then r else ρ j) (qd5 st i d r cap e size) a w:=by
 obtain⟨x,hx,hrep⟩:=S.tm i _ h1;obtain⟨j,c,hj,hic⟩:=rq ho
 have hil:i<st.n:=by
  have:=(asi.1 hx).1;rw[<- S.n];exact this
 have hheld:held a w ρ i=some x:=by
  rw[lj (by have:=S.nn;have:=S.n;omega)];exact hx
 obtain⟨-,⟨m,ys,hrow,hfz⟩,hloc⟩:=S.oval hj hic hheld
 have hown:∀(j':Nat) e' c',(delo i st.o)[j']?=some (e',c')->∀i'∈c',∀u g,held a w ρ i'=some u->x.ownBlock=some g->u.ownBlock≠some g:=fun j' e' c' hj' i' hi' u g hu hg=>by
  obtain⟨g1,g2⟩:=jbv j' e' c' hj' hi'
  have hne:j≠j':=fun he=>by
   subst he;rw[hj] at g1;cases g1;exact g2 hic
  exact S.od j j' e c e' c' hne hj g1 i hic i' hi' x u g hheld hu hg
 have S1:Sim P T M F0 w0 F ρ st.n st.σ st.h (delo i st.o) a w:=Sim.delo S i;rcases hrow.2 with⟨hv,-⟩|⟨g,cap,cur,hv,-,⟨fz,hfz0,hg⟩,-,hcm,hsz,-⟩
 .left;subst hv;refine { S1 with tm:=fun k tv e'=>?_,wf:=fun k tv e'=>?_ }
  .have e2:look k ((i,TV.v (.val (.slice none 0 0)))::st.t)=some tv:=e';rw[af] at e2;split at e2
   .rename_i hk;subst hk;cases e2;exact⟨_,hx,Rep.val _⟩
   exact S1.tm k tv e2
  have e2:look k ((i,TV.v (.val (.slice none 0 0)))::st.t)=some tv:=e';rw[af] at e2;split at e2
  .cases e2;trivial
  exact S1.wf k tv e2
 right;subst hv
 have hm:m=0:=by
  obtain⟨a0,c0,he⟩:=su hrep;cases he;rfl
 subst hm;have hM:=(hfz g rfl).1;refine⟨g,cap,fun id k q hk hq he=>?_,hcm,?_⟩
 .have:=S.nb id k q hk hq;subst he;exact hloc id k hk (by rw[this];rfl)
 have hlt:g<w.heap.size:=(asi.1 hg).1
 have S2:=Sim.bind S1 (d:=d) (b:=g) (k:=.var [] (some g) (some (e,size,cap))) hd hdh
  ⟨cur,⟨(e,fz),rfl,by rw[hsz,hz],hcm,hfz0⟩,hg,uq _,(fun _ h=>nomatch h),(fun _ _ _ h=>by simp at h),fun p v hp hpb=>by have:=(hfz g rfl).2 p v hp hpb;omega⟩
  hM hlt (fun id k' hk' he=>hloc id k' hk' (by rw[he];rfl)) (fun j' e' c' hj' i' hi' u hu=>hown j' e' c' hj' i' hi' u g hu rfl) (fun q hq=>by cases hq;rfl)
 refine { S2 with tm:=fun k tv e'=>?_,wf:=fun k tv e'=>?_ }
 .have e2:look k ((i,TV.v (.val (.slice (some ⟨g,0,none⟩) 0 cap)))::st.t)=some tv:=e';rw[af] at e2;split at e2
  .rename_i hk;subst hk;cases e2;exact⟨_,hx,Rep.val _⟩
  exact S2.tm k tv e2
 have e2:look k ((i,TV.v (.val (.slice (some ⟨g,0,none⟩) 0 cap)))::st.t)=some tv:=e';rw[af] at e2;split at e2
 .cases e2;trivial
 exact S2.wf k tv e2
abbrev fcSt(st:St)(k id j n size:Nat)(ds cs:List V)(nm:Option Nat)(kk:Option (TypeId×Nat×Nat)):St:=⟨st.n,st.t,seth id (.var (cz cs j [.slice size (cw 0 n size ds)]) nm kk) (frz1 k (seth k (.var ds) st.h)),st.o⟩
theorem jn2{M:Nat->Prop}{F0 F:Frz}{w0 w:World}{ρ:Nat->Nat}{st:St}{a:Act}(S:SimS P T M F0 w0 F ρ st a w){k id j n cap size b:Nat}{ds cs:List V}{nm:Option Nat}{kk kk':Option (TypeId×Nat×Nat)} 
  (h1:look k st.h=some (.var ds (some b) kk')) (h2:look id st.h=some (.var cs nm kk)) (hne:id≠k) (h3:cs[j]?=some (.val (.slice (some ⟨b,0,none⟩) n cap))) (h4:n<=cap) (h5:cap<=maxLen) (h6:n*size<=ds.length):
  ∃F',SimS P T M F0 w0 F' ρ (fcSt st k id j n size ds cs nm kk) a w:=by
 have hρ:=S.nb k _ b h1 rfl;have S0:=Sim.unname S h1;have hb0:look k (seth k (.var ds) st.h)=some (.var ds):=by rw[og,um rfl,h1];rfl
 obtain⟨F',S1⟩:=jda S0 k;have hcon:look k (frz1 k (seth k (.var ds) st.h))=some (.con ds):=by rw[jd,um rfl,hb0];rfl
 have hid:look id (frz1 k (seth k (.var ds) st.h))=some (.var cs nm kk):=by rw[jd,ul hne,og,ul hne];exact h2
 refine⟨F',?_⟩;obtain⟨⟨g,q1,q2,q3⟩,_⟩:=S1.hp k _ hcon;have hrep:=jlh (b:=ρ k) (off:=0) (n:=n) (size:=size) (cap:=cap) q1 q2 q3 omq h4 h5;rw[hρ] at hrep;obtain⟨⟨xs,ty,p1,p2,p3,p4,p5⟩,hM,hlt⟩:=S1.hp id _ hid;have hlc:=(gsi.1 h3).1;have hfit:j+[V.slice size (cw 0 n size ds)].length<=cs.length:=by simp;omega
 have hlx:j<xs.size:=omq;have hx:=al (p4 _ _ _ h3 (xk hlx))
 exact Sim.know S1 hid (k:=.var (cz cs j [.slice size (cw 0 n size ds)]) nm kk) ⟨xs,ty,p1,by rw[jbb hfit];exact p2,fun c hc=>by
  obtain⟨i,hi⟩:=xc hc;rw[mu hfit] at hi;split at hi
  .have:=vc hi;simp at this;subst this;rfl
  .exact p3 c (vc hi),fun i c y e1 e2=>by
  rw[mu hfit] at e1;split at e1
  .rename_i hin;simp at hin;have hj0:i=j:=omq;subst hj0;simp at e1;subst e1;rw[xk hlx] at e2;cases e2;rw[hx];exact hrep
  .exact p4 i c y e1 e2,p5⟩ rfl
theorem qt5{c:Code}{st:St}{Q:AX->St->Prop}(k id j n cap size b:Nat)(ds cs:List V)(nm:Option Nat)(kk kk':Option (TypeId×Nat×Nat)) 
  (h1:look k st.h=some (.var ds (some b) kk')) (h2:look id st.h=some (.var cs nm kk)) (hne:id≠k) (h3:cs[j]?=some (.val (.slice (some ⟨b,0,none⟩) n cap))) (h4:n<=cap) (h5:cap<=maxLen) (h6:n*size<=ds.length)
  (h:aw P T c (fcSt st k id j n size ds cs nm kk) Q):aw P T c st Q:=by
 unfold aw at h ⊢;intro rd M F0 w0 F ρ a w hR S;obtain⟨F',S'⟩:=jn2 S h1 h2 hne h3 h4 h5 h6;exact h rd M F0 w0 F' ρ a w hR S'
theorem qqt{P:Program}{α:Type}{G:Prop}{c:Code}{Q:AX->St->Prop}(k:Kp)(φ:α->Prop)(S:α->St)(h:(∀st x,φ x->br k st=some (S x)->aw P T c st Q)->G)(h2:∀x,φ x->aw P T c (S x) Q):G:=h fun _ x hx hk=>ci k hk (h2 x hx)
section rows
variable {α : Type}{cs : α -> List V}{z : Nat}
theorem jq(hz:∀x,(cs x).length=z):∀l:List α,((l.map cs).flatten).length=l.length*z
 |[]=>by simp
 |x::l=>by
  have:=jq hz l;rw[vl,List.flatten_cons,ve,this,hz,List.length_cons,Nat.succ_mul,qvf]
theorem jvl{l:List α}{k:Nat}{x:α}(h:l[k]?=some x)(y:α):l=l.take k++x::l.drop (k+1)/\l.set k y=l.take k++y::l.drop (k+1):=by
 obtain⟨hlt,rfl⟩:=gsi.1 h;exact⟨by rw[List.getElem_cons_drop,qvv],List.set_eq_take_append_cons_drop.trans (um hlt)⟩
theorem qto(hz:∀x,(cs x).length=z){l:List α}{k:Nat}{x:α}(h:l[k]?=some x):∃A B,(l.map cs).flatten=A++(cs x++B)/\A.length=k*z/\∀y:α,((l.set k y).map cs).flatten=A++(cs y++B):=by
 obtain⟨hlt,-⟩:=gsi.1 h;refine⟨((l.take k).map cs).flatten,((l.drop (k+1)).map cs).flatten,?_,?_,fun y=>?_⟩
 .have h1:=(jvl h x).1
  conv=>lhs;rw[h1]
  rw[vy,qwk,vl,List.flatten_cons]
 .rw[jq hz,vz,yh omq]
 rw[(jvl h y).2,vy,qwk,vl,List.flatten_cons]
theorem jxx(hz:∀x,(cs x).length=z):∀(l:List α) (i:Nat),((l.map cs).flatten).drop (i*z)=((l.drop i).map cs).flatten
 |l,0=>by rw[Nat.zero_mul];rfl
 |[],i+1=>by simp
 |p::l,i+1=>by
  have ih:=jxx hz l i;rw[vl,List.flatten_cons,qwa,<- ih,show (i+1)*z=(cs p).length+i*z by rw[hz,Nat.succ_mul,qvf],List.drop_length_add_append]
theorem jkm(hz:∀x,(cs x).length=z)(l:List α):cw 0 l.length z ((l.map cs).flatten)=l.map cs:=by
 apply List.ext_getElem?;intro i;simp only[cw,vm,vx];by_cases h:i<l.length
 .rw[List.getElem?_range h,gge h];simp only[Option.map_some];rw[jxx hz,qvq h,vl,List.flatten_cons,List.take_left' (hz _)]
 rw[yy (by simpa using h),yy omq];rfl
end rows
end Go.Ab
namespace Go.Ab
open Go.RowKit
variable {P : Program}{T : Lay}
variable {α:Type}{st:St}
def lpv(k:α->Kp)(R:α->Prop)(m:α->Nat)(S:α->St)(y:α):St->Prop:=fun st'=>∃z,R z/\m z<m y/\br (k z) st'=some (S z)
theorem jr4{x:Code}{Q:AX->St->Prop}(k:α->Kp)(R:α->Prop)(m:α->Nat)(S:α->St)(x0:α)(hR:R x0)(h0:br (k x0) st=some (S x0)) 
  (hr:∀y,R y->aw P T x (S y) (sq (lpv k R m S y) Q)):aw P T (.loop x) st Q:=by
 refine qo2 ⟨fun n st=>∃y,R y/\m y=n/\st=S y,m x0,⟨k x0,S x0,h0,x0,hR,rfl,rfl⟩,?_⟩;rintro n st ⟨y,hy,rfl,rfl⟩;refine jna (hr y hy) fun e st' hq=>?_;cases e with
 |nm=>
  obtain⟨z,hz,hlt,hk⟩:=hq;exact⟨k z,m z,S z,hlt,hk,z,hz,rfl,rfl⟩
 |rt=>exact hq
 |ex id=>exact hq
theorem jca{k:α->Kp}{R:α->Prop}{m:α->Nat}{S:α->St}{y:α}(z:α)(hR:R z)(hm:m z<m y)(hk:br (k z) st=some (S z)):lpv k R m S y st:=⟨z,hR,hm,hk⟩
def que(P:Program)(rs:List ResultVar)(Post:Option Blk->V->Prop):AX->St->Prop
 |.ex _,_=>False
 |_,st=>∃r r',resS P st rs=some r'/\Wk r' r/\(Post none r\/∃id k b,look id st.h=some k/\k.nm=some b/\Post (some k) r)
theorem jz{f:FuncId}{fn:Func}{c:Code}{args:List V}{Post:Option Blk->V->Prop}(_hm:P.follows .mixedOrders=true)(hE:Enters P f)(hf:P.funcs[f]?=some fn)(hb:fn.body=some c)(n:Nat)(hn:n=max fn.ntmps args.length) 
  (h:aw P T c { n:=n,t:=py 0 args,h:=[],o:=[] } (que P fn.results.toList Post)) (hnn:n<=999000:=by decide):DenU P T f args Post:=by
 refine⟨hE,fun w F xs hF hT ha=>?_⟩;refine jbe hf hb (jbw c (sim0 hF hT ha n hn hnn) h) ?_ (fun id st hq=>hq);intro en F1 ρ1 st1 a w' S1 hd hq he
 have aux:(∃F' ρ st,SimS P T (fun g=>w.heap.size<=g) F w F' ρ st a w'/\∃r r',resS P st fn.results.toList=some r'/\Wk r' r/\(Post none r\/∃id k b,look id st.h=some k/\k.nm=some b/\Post (some k) r))->
   ∃v,(results fn a.tmps).run P w'= .ok v w'/\∃y F' r,Ending.returned v=.returned y/\Ext F w F' w'/\Rep F' r y/\(Post none r\/∃b k,w.heap.size<=b/\b<w'.heap.size/\RepB F' w' b k/\k.nm=some b/\Post (some k) r):=by
  rintro⟨F',ρ,st,S,r,r',hr',hwk,hP⟩;obtain⟨v,h1,h2⟩:=jbg S hr';refine⟨v,h1,v,F',r,rfl,jdz S,qr hwk h2,?_⟩;rcases hP with hP|⟨id,k,b,hk,hb,hP⟩
  .exact .inl hP
  obtain⟨r1,r2,r3⟩:=S.hp id k hk;rw[S.nb id k b hk hb] at r1 r2 r3;exact .inr ⟨b,k,r2,r3,r1,hb,hP⟩
 cases en with
 |nm=>exact aux ⟨F1,ρ1,st1,S1,hq⟩
 |rt=>exact aux ⟨F1,ρ1,st1,S1,hq⟩
 |ex id=>exact absurd rfl (he id)
end Go.Ab
namespace Go.Ab
open Go.RowKit
variable {P : Program}{T : Lay}{rd : Option Nat}
def qca:Op->Bool
 |.load _ _=>true
 |.fieldAddr _ _ _=>true
 |.move _=>true
 |.assign _=>true
 |.field _ _ _=>true
 |.binOp _ _ _ _ _=>true
 |.nilCheck _=>true
 |_=>false
structure YF (P:Program) (σ:Sto) (h:List (Nat×Blk)) (o:Oper) (tv:TV):Prop where
 gd:o.guard=none
 pl:qca o.op=true
 ev:evq P (opv σ) h o.op=some tv
theorem YF.one{σ:Sto}{h:List (Nat×Blk)}{o:Oper}{tu tv:TV}(a:YF P σ h o tu)(b:YF P σ h o tv):tu=tv:=by
 have:=a.ev;rw[b.ev] at this;exact(uu _ _▸this).symm
theorem YF.g{σ:Sto}{h:List (Nat×Blk)}{o:Oper}{tv:TV}(l:List Oper)(a:YF P σ h o tv):cy P T l σ h o tv:=.inl ⟨by unfold gdV;rw[a.gd],.inl a.ev⟩
theorem YF.wf{σ:Sto}{h:List (Nat×Blk)}{o:Oper}{tv:TV}(a:YF P σ h o tv)(hw:WfS h σ):wfT h tv:=jcc hw.opr a.ev
theorem qoy{ops:Array Oper}{σ:Sto}{o:Oper}{d:Option Tmp}{v:TV}(hd:∀d',d=some d'->d' ∉ o.looksAt ops):∀x∈o.op.operands,opv (upd σ d v) x=opv σ x:=fun x hx=>qa8 fun d' e1 e2=>hd d' e1 (by
 subst e2
 exact qwx _ (List.mem_filterMap.2 ⟨.tmp d',by simpa using hx,rfl⟩))
theorem YF.upd{ops:Array Oper}{σ:Sto}{h:List (Nat×Blk)}{o:Oper}{tv:TV}{d:Option Tmp}{v:TV}(hd:∀d',d=some d'->d' ∉ o.looksAt ops):YF P (upd σ d v) h o tv↔YF P σ h o tv:=by
 have:=jwi (P:=P) (h:=h) o.op (qoy (σ:=σ) (v:=v) hd);constructor
 .exact fun a=>⟨a.gd,a.pl,by rw[<- this];exact a.ev⟩
 exact fun a=>⟨a.gd,a.pl,by rw[this];exact a.ev⟩
structure EffN (P:Program) (T:Lay) (n:Nat) (op:Oper) (x:HL) (σ:Sto) (R:TV->HL->Prop):Prop where
 gd:op.guard=none
 step:∀(t:List (Nat×TV)) (K:St->Prop),(∀z∈op.op.operands,opv (fun i=>look i t) z=opv σ z)->(∀tv y,R tv y->∀st',st'.n=n->st'.σ=upd (fun i=>look i t) op.dst tv->st'.h=y.1->st'.o=y.2->K st')->dq P T op ⟨n,t,x.1,x.2⟩ K
 gr:∀tv y,R tv y->∀id,look id x.1≠none->look id x.1=look id y.1
 lg:∀tv y,R tv y->Lg op.dst x.2 y.2
 wf:∀tv y,R tv y->wfT y.1 tv
 ne:∃tv y,R tv y
theorem EffN.congr{n:Nat}{op:Oper}{x:HL}{σ σ':Sto}{R:TV->HL->Prop}(h:EffN P T n op x σ R)(hh:∀z∈op.op.operands,opv σ z=opv σ' z):EffN P T n op x σ' R:=
 ⟨h.gd,fun t K ht hK=>h.step t K (fun z hz=>(ht z hz).trans (hh z hz).symm) hK,h.gr,h.lg,h.wf,h.ne⟩
variable {ops : Array Oper}{m n : Nat}{md : Region.Mode}{D : List Nat}{Q : HL -> Sto -> Prop}
def StN(P:Program)(T:Lay)(n:Nat)(D:List Nat)(o:Oper)(y:HL)(σ:Sto)(K:HL->Sto->Prop):Prop:=
 (effD D o=false/\∃tv,YF P σ y.1 o tv/\K y (upd σ o.dst tv))\/(effD D o=true/\∃R,EffN P T n o y σ R/\∀tv y',R tv y'->K y' (upd σ o.dst tv))
theorem StN.some{o:Oper}{y:HL}{σ:Sto}{K:HL->Sto->Prop}(h:StN P T n D o y σ K):∃y' tv,K y' (upd σ o.dst tv):=by
 rcases h with⟨-,tv,-,hK⟩|⟨-,R,hR,hK⟩
 .exact⟨y,tv,hK⟩
 obtain⟨tv,y',hr⟩:=hR.ne;exact⟨y',tv,hK tv y' hr⟩
theorem StN.mono{o:Oper}{y:HL}{σ:Sto}{K K':HL->Sto->Prop}(hw:WfS y.1 σ)(h:StN P T n D o y σ K)(hk:∀y' σ',WfS y'.1 σ'->K y' σ'->K' y' σ'):StN P T n D o y σ K':=by
 rcases h with⟨he,tv,hy,hK⟩|⟨he,R,hR,hK⟩
 .exact .inl ⟨he,tv,hy,hk _ _ (hw.upd (hy.wf hw)) hK⟩
 exact .inr ⟨he,R,hR,fun tv y' hr=>hk _ _ ((hw.more fun id hid=>by rw[<- hR.gr tv y' hr id hid];exact hid).upd (hR.wf tv y' hr)) (hK tv y' hr)⟩
variable {w : World}{M : Nat -> Prop}{F0 F : Frz}{w0 : World}{ρ : Nat -> Nat}{σ : Sto}{a : Act}
def jqu(P:Program)(o:Oper)(st:St)(K:St->Prop):Prop:=
 qca o.op=true/\o.guard=none/\match evq P (opv st.σ) st.h o.op with
  |some tv=>K { st with t:=match o.dst with|none=>st.t|some d=>(d,tv)::st.t }
  |none=>False
def jre(P:Program)(T:Lay)(g:FuncId)(vs:List V)(st:St)(d:Nat)(K:St->Prop):Prop:=
 (∃r,Den P T g vs r/\K { st with t:=(d,.v r)::st.t,o:=remo d st.o })\/(∃r e,DenO P T g vs e r/\K { st with t:=(d,.v r)::st.t,o:=(e,[d])::remo d st.o })\/
 ∃(q:Nat) (Post:Option Blk->V->Prop),DenU P T g vs Post/\q<st.n/\look q st.h=none/\(∀N,∃ro r,Post ro r/\∀b p,ro=some b->b.nm=some p->N<=p)/\
  (∀r,Post none r->K { st with t:=(d,.v r)::st.t,o:=remo d st.o })/\
  ∀b r,Post (some b) r->(∀id k p p',look id st.h=some k->k.nm=some p->b.nm=some p'->p≠p')->K { st with t:=(d,.v r)::st.t,h:=(q,b)::st.h,o:=remo d st.o }
def jqt(P:Program)(T:Lay)(op:Oper)(st:St)(K:St->Prop):Prop:=
 match op.op with
 |.call c=>match c.callee with
  |.value f=>match vOf (opv st.σ f),vsOf (opv st.σ) c.args.toList,op.dst with
   |some (.func g cap),some vs,some d=>op.guard=none/\d<st.n/\jre P T g (vs++cap) st d K
   |_,_,_=>False
  |_=>False
 |_=>False
def awU(P:Program)(T:Lay)(D:List Nat):List Oper->St->(St->Prop)->Prop
 |[],st,K=>K st
 |o::rest,st,K=>if effD D o=true then jqt P T o st fun st'=>awU P T D rest st' K else jqu P o st fun st'=>awU P T D rest st' K
def awUk(P:Program)(T:Lay)(D:List Nat)(rest:List Oper)(K:St->Prop):St->Prop:=fun st'=>awU P T D rest st' K
@[congr] theorem awU_cg{D : List Nat}{l : List Oper}{st st' : St}{K : St -> Prop}(h : st = st'): awU P T D l st K = awU P T D l st' K := by rw [h]
@[congr] theorem awUk_cg{D : List Nat}{l : List Oper}{K : St -> Prop}: awUk P T D l K = awUk P T D l K := rfl
@[congr] theorem qv4{g : FuncId}{vs : List V}{st : St}{d : Nat}{K : St -> Prop}: jre P T g vs st d K = jre P T g vs st d K := rfl
@[congr] theorem quz{op : Oper}{st st' : St}{K : St -> Prop}(h : st = st'): jqt P T op st K = jqt P T op st' K := by rw [h]
@[congr] theorem qv0{op : Oper}{st st' : St}{K : St -> Prop}(h : st = st'): jqu P op st K = jqu P op st' K := by rw [h]
abbrev pnSt(st:St)(i k b off:Nat):St:=⟨st.n,(i,.v (.val (.pointer (some ⟨b,off,none⟩))))::st.t,nam k b st.h,remo i st.o⟩
theorem qox{M:Nat->Prop}{F0 F:Frz}{w0 w:World}{ρ:Nat->Nat}{st:St}{a:Act}(S:SimS P T M F0 w0 F ρ st a w){i k off:Nat}(h1:look i st.t=some (.p k off)):SimS P T M F0 w0 F ρ (pnSt st i k (ρ k) off) a w:=by
 have S1:=Sim.nam S k;obtain⟨x,g1,g2⟩:=S.tm i _ h1;have g2:x=.pointer (some ⟨ρ k,off,none⟩):=g2;subst g2;have hT:RepT F ρ (TV.v (.val (.pointer (some ⟨ρ k,off,none⟩)))) (.pointer (some ⟨ρ k,off,none⟩)):=Rep.val _;have:=Sim.putr (d:=i) S1 hT trivial (by have:=(asi.1 g1).1;rw[<- S.n];exact this);rw[jh8 g1] at this;unfold SimS;rw[σ_cons];exact this
def ptrP(Q:AX->St->Prop):AX->St->Prop
 |.rt,st=>∃t k off,look t st.t=some (.p k off)/\∀b,Q .rt (pnSt st t k b off)
 |e,st=>Q e st
theorem qut{c:Code}{st:St}{Q:AX->St->Prop}(h:aw P T c st (ptrP Q)):aw P T c st Q:=jai h fun M F0 w0 F ρ st' a w e S hq=>by
 cases e with
 |nm=>exact⟨F,ρ,st',S,hq⟩
 |ex id=>exact⟨F,ρ,st',S,hq⟩
 |rt=>
  obtain⟨t,k,off,h1,hQ⟩:=hq;exact⟨F,ρ,_,qox S h1,hQ _⟩
theorem bg{a b:Prop}: (a/\(b/\a))=(a/\b):=propext ⟨fun h=>⟨h.1,h.2.1⟩,fun h=>⟨h.1,h.2,h.1⟩⟩
theorem bn{a b c:Prop}: (a/\(b/\(a/\c)))=(a/\(b/\c)):=propext ⟨fun h=>⟨h.1,h.2.1,h.2.2.2⟩,fun h=>⟨h.1,h.2.1,h.1,h.2.2⟩⟩
end Go.Ab
namespace Go.Ab
open Go.RowKit
variable {P : Program}{T : Lay}
theorem viaA{p q:Prop}(f:q->p)(h:q):p:=f h
def rowE(P:Program)(Q:AX->St->Prop):AX->St->Prop
 |.rt,st=>Q .rt st\/∃(i d:Nat) (e:TypeId) (size:Nat),look i st.t=some (.v (.slice size []))/\cu i st.o=some e/\P.cellsOf e=size/\d<st.n/\look d st.h=none/\Q .rt (qd6 st i)/\∀r cap,cap<=maxLen->Q .rt (qd5 st i d r cap e size)
 |e,st=>Q e st
theorem qsy{c:Code}{st:St}{Q:AX->St->Prop}(h:aw P T c st (rowE P Q)):aw P T c st Q:=jai h fun M F0 w0 F ρ st' a w e S hq=>by
 cases e with
 |nm=>exact⟨F,ρ,st',S,hq⟩
 |ex id=>exact⟨F,ρ,st',S,hq⟩
 |rt=>
  rcases hq with hq|⟨i,d,e,size,h1,h2,h3,h4,h5,h6,h7⟩
  .exact⟨F,ρ,st',S,hq⟩
  rcases qky S h1 h2 h3 h4 h5 with S'|⟨r,cap,g1,g2,S'⟩
  .exact⟨F,ρ,_,S',h6⟩
  exact⟨F,_,_,S',h7 r cap g2⟩
def mc(e:TypeId)(z:Nat)(es:List (List V))(ro:Option Blk)(v:V):Prop:=
 (ro=none/\es=[]/\v=.val (.slice none 0 0))\/∃r cap,ro=some (.var es.flatten (some r) (some (e,z,cap)))/\es.length<=cap/\cap<=maxLen/\v=.val (.slice (some ⟨r,0,none⟩) es.length cap)
theorem ik{α:Type}(i:Nat):∀(a b:List (Nat×α)),look i (a++b)=match look i a with|some x=>some x|none=>look i b
 |[],b=>by simp[look]
 |(j,x)::a,b=>by
  rw[List.cons_append,af,af,ik i a b];split<;>rfl
theorem jg8{α:Type}{i:Nat}{x:α}{a b:List (Nat×α)}(h:look i a=some x):look i (a++b)=some x:=by rw[ik,h]
theorem ju5{α:Type}{i:Nat}{a b:List (Nat×α)}(h:look i a=none):look i (a++b)=look i b:=by rw[ik,h]
def okW(h:List (Nat×Blk))(t:List (Nat×TV)):Bool:=t.all fun x=>match refT x.2 with
 |none=>true
 |some id=>(look id h).isSome
theorem ji6{h:List (Nat×Blk)}{t:List (Nat×TV)}(hw:okW h t=true){i:Nat}{tv:TV}(e:look i t=some tv):wfT h tv:=by
 have:=vj.1 hw (i,tv) (ed e);cases tv with
 |v x=>trivial
 |u=>trivial
 |p id off=>simp only[refT] at this;show look id h≠none;intro e;rw[e] at this;cases this
 |m id=>simp only[refT] at this;show look id h≠none;intro e;rw[e] at this;cases this
 |s id off n z=>simp only[refT] at this;show look id h≠none;intro e;rw[e] at this;cases this
theorem qrd{h hr:List (Nat×Blk)}{tv:TV}(hw:wfT h tv):wfT (h++hr) tv:=by
 have key:∀id,look id h≠none->look id (h++hr)≠none:=fun id e=>by
  obtain⟨x,hx⟩:=yk.1 e;rw[jg8 hx];simp
 cases tv with
 |v x=>trivial
 |u=>trivial
 |p id off=>exact key id hw
 |m id=>exact key id hw
 |s id off n z=>exact key id hw
theorem DfOk.cut{M M':Nat->Prop}{w:World}: ∀ {ds:List Deferred},DfOk ds M w->(∀D,M D->w.heap[D]?=some (.deferred (some []))->M' D)->DfOk ds M' w
 |[],_,_=>trivial
 |_::_,⟨D,h1,h2,h3,h4,h5⟩,k=>⟨D,h1,k D h2 h3,h3,h4,h5.cut k⟩
theorem Own.cut{F:Frz}{w:World}{M M':Nat->Prop}{e:TypeId}{z:Nat}{y:Value}(h:Own F w M e z y)(k:∀g,y.ownBlock=some g->M g->M' g):Own F w M' e z y:=by
 obtain⟨n,xs,h1,h2⟩:=h;exact⟨n,xs,h1,fun g hg=>⟨k g hg (h2 g hg).1,(h2 g hg).2⟩⟩
theorem RepT.other{F:Frz}{ρ ρ':Nat->Nat}{h:List (Nat×Blk)}{tv:TV}{x:Value}(hr:RepT F ρ tv x)(hw:wfT h tv)(he:∀id,look id h≠none->ρ' id=ρ id):RepT F ρ' tv x:=by
 cases tv with
 |v x=>exact hr
 |u=>exact hr
 |p id off=>simp only[RepT] at hr ⊢;rw[he id hw];exact hr
 |m id=>simp only[RepT] at hr ⊢;rw[he id hw];exact hr
 |s id off n z=>simp only[RepT] at hr ⊢;rw[he id hw];exact hr
def jr5(M:Nat->Prop)(ρ:Nat->Nat)(hr:List (Nat×Blk)):Nat->Prop:=fun g=>M g/\∀id,look id hr≠none->ρ id≠g
section
variable {w0 w : World}{M : Nat -> Prop}{F0 F : Frz}{ρ : Nat -> Nat}{a : Act}{n : Nat}{t : List (Nat × TV)}{h1 hr : List (Nat × Blk)}
theorem qpl{ids:List Nat}(hv:∀id k,look id hr=some k->∃cs nm kk,k=.var cs nm kk)(hi:∀id,look id hr≠none->id∈ids)(h1n:∀id∈ids,look id h1=none)(hw:∀i tv,look i t=some tv->wfT h1 tv) 
  (S:SimS P T M F0 w0 F ρ ⟨n,t,h1++hr,[]⟩ a w):SimS P T (jr5 M ρ hr) (jfd F0 F) w F ρ ⟨n,t,h1,[]⟩ a w:=by
 have B:=jlt S;have old:∀ {id k},look id h1=some k->look id (h1++hr)=some k:=fun e=>jg8 e
 have oldr:∀ {id k},look id hr=some k->look id (h1++hr)=some k:=fun {id k} e=>by
  rw[ju5 (h1n id (hi id ze0))];exact e
 have ne:∀ {id k id'},look id h1=some k->look id' hr≠none->ρ id'≠ρ id:=fun {id k id'} e e' he=>by
  obtain⟨k',hk'⟩:=yk.1 e';have:=S.inj _ _ _ _ (oldr hk') (old e) he;subst this;rw[h1n _ (hi _ e')] at e;cases e
 exact {
  n:=B.n
  df:=B.df.cut fun D hD hd=>⟨hD,fun id hid he=>by
   obtain⟨k,hk⟩:=yk.1 hid;obtain⟨cs,nm,kk,rfl⟩:=hv id k hk;obtain⟨xs,ty,g1,-⟩:=(S.hp id _ (oldr hk)).1;rw[he,hd] at g1
   cases g1⟩
  sees:=B.sees
  lay:=⟨B.lay.1,fun g hg hm=>B.lay.2 g hg hm.1⟩
  le:=B.le
  new:=fun _ _ h=>.inl h
  newm:=fun _ _ h=>.inl h
  bel:=BelM.refl _ w
  hM:=fun j hj=>⟨B.hM j hj,fun id hid he=>by
   obtain⟨k,hk⟩:=yk.1 hid;have:=(S.hp id _ (oldr hk)).2.2
   omega⟩
  tm:=B.tm
  wf:=fun i tv e=>hw i tv e
  hp:=fun id k e=>⟨(S.hp id k (old e)).1,⟨(S.hp id k (old e)).2.1,fun id' hid'=>ne e hid'⟩,(S.hp id k (old e)).2.2⟩
  nn:=B.nn
  z:=fun id k h e=>S.z id k h (old e)
  nb:=fun id k b e hb=>S.nb id k b (old e) hb
  inj:=fun id id' k k' e e'=>S.inj id id' k k' (old e) (old e')
  ow:=fun j e c hj=>by simp at hj
  od:=fun j j' e c e' c' _ hj=>by simp at hj
  oc:=fun j e c hj=>by simp at hj }
theorem jl1{ids:List Nat}(hv:∀id k,look id hr=some k->∃cs nm kk,k=.var cs nm kk)(hi:∀id,look id hr≠none->id∈ids)(h1n:∀id∈ids,look id h1=none) 
  (S:SimS P T M F0 w0 F ρ ⟨n,t,h1++hr,[]⟩ a w) {F':Frz} {ρ':Nat->Nat} {st':St} {a':Act} {w':World} (hn:∀id∈ids,look id st'.h=none)
  (S':SimS P T (jr5 M ρ hr) (jfd F0 F) w F' ρ' st' a' w'):SimS P T M F0 w0 F' (fun id=>if(look id hr).isSome then ρ id else ρ' id) { st' with h:=st'.h++hr } a' w':=by
 have oldr:∀ {id k},look id hr=some k->look id (h1++hr)=some k:=fun {id k} e=>by
  rw[ju5 (h1n id (hi id ze0))];exact e
 have hle:Le F F':=⟨S'.le.c,S'.le.m⟩
 have ro:∀id,look id st'.h≠none->(if(look id hr).isSome then ρ id else ρ' id)=ρ' id:=fun id e=>by
  cases hh:look id hr with
  |none=>rfl
  |some k=>exact absurd (hn id (hi id (by rw[hh];simp))) e
 have rr:∀ {id k},look id hr=some k->(if(look id hr).isSome then ρ id else ρ' id)=ρ id:=fun {id k} e=>by rw[e];rfl
 have cases':∀ {id k},look id (st'.h++hr)=some k->look id st'.h=some k\/look id hr=some k:=fun {id k} e=>by
  rw[ik] at e;split at e
  .rename_i x hx;cases e;exact .inl hx
  exact .inr e
 have keep:∀ {id k},look id hr=some k->w'.heap[ρ id]?=w.heap[ρ id]? := fun {id k} e=>S'.bel.block _ (S.hp id k (oldr e)).2.2 fun hm=>hm.2 id ze0 rfl
 have hh:∀(j:Nat) e c,st'.o[j]?=some (e,c)->∀i∈c,held a' w' (fun id=>if(look id hr).isSome then ρ id else ρ' id) i=held a' w' ρ' i:=fun j e c hj i hi'=>by
  unfold held;split
  .rfl
  rename_i hge
  show w'.cell? ⟨if(look (pid i) hr).isSome then ρ (pid i) else ρ' (pid i),pof i,none⟩=_
  rw[ro _ (S'.oc j e c hj i hi' omq)]
 exact {
  n:=S'.n
  df:=S'.df.cut fun D hD _=>hD.1
  sees:=S'.sees
  lay:=S.lay
  le:=S.le.trans hle
  new:=fun p v h=>(S'.new p v h).elim (S.new p v) fun hm=>.inr hm.1
  newm:=fun p v h=>(S'.newm p v h).elim (S.newm p v) fun hm=>.inr hm.1
  bel:=S.bel.trans ⟨S'.bel.os,S'.bel.tape,S'.bel.output,S'.bel.size,fun q hq hm=>S'.bel.block q hq fun h=>hm h.1⟩
  hM:=S.hM
  tm:=fun i tv e=>by
   obtain⟨x,g1,g2⟩:=S'.tm i tv e;exact⟨x,g1,g2.other (S'.wf i tv e) ro⟩
  wf:=fun i tv e=>qrd (S'.wf i tv e)
  hp:=fun id k e=>by
   rcases cases' e with e|e
   .have:=S'.hp id k e;rw[ro id ze0];exact⟨this.1,this.2.1.1,this.2.2⟩
   rw[rr e];obtain⟨q1,q2,q3⟩:=S.hp id k (oldr e);refine⟨?_,q2,yn q3 S'.bel.size⟩;obtain⟨cs,nm,kk,rfl⟩:=hv id k e;obtain⟨xs,ty,g1,g2,g3,g4,g5⟩:=q1;refine⟨xs,ty,(keep e).trans g1,g2,g3,fun j c x e1 e2=>(g4 j c x e1 e2).mono hle,fun p v hp=>?_⟩;rcases S'.new p v hp with h|h
   .exact g5 p v h
   exact fun he=>h.2 id ze0 he.symm
  nn:=S'.nn
  z:=fun id k hz e=>by
   rcases cases' e with e|e
   .rw[ro id ze0];exact S'.z id k hz e
   rw[rr e];exact S.z id k hz (oldr e)
  nb:=fun id k b e hb=>by
   rcases cases' e with e|e
   .rw[ro id ze0];exact S'.nb id k b e hb
   rw[rr e];exact S.nb id k b (oldr e) hb
  inj:=fun id id' k k' e e' he=>by
   rcases cases' e with e|e<;>rcases cases' e' with e'|e'
   .rw[ro id ze0,ro id' (by rw[e'];simp)] at he;exact S'.inj id id' k k' e e' he
   .rw[ro id ze0,rr e'] at he;exact absurd he.symm ((S'.hp id k e).2.1.2 id' (by rw[e'];simp))
   .rw[rr e,ro id' (by rw[e'];simp)] at he;exact absurd he ((S'.hp id' k' e').2.1.2 id ze0)
   rw[rr e,rr e'] at he;exact S.inj id id' k k' (oldr e) (oldr e') he
  ow:=fun j e c hj=>by
   obtain⟨v,g1,g2,g3⟩:=S'.ow j e c hj;refine⟨v,fun i hi'=>(hh j e c hj i hi').trans (g1 i hi'),g2.cut fun g _ hm=>hm.1,fun id k ek=>?_⟩;rcases cases' ek with ek|ek
   .rw[ro id (by rw[ek];simp)];exact g3 id k ek
   rw[rr ek];intro hv';obtain⟨m,xs,-,h2⟩:=g2;exact(h2 _ hv').1.2 id (by rw[ek];simp) rfl
  od:=Sim.od_of S' hh
  oc:=fun j e c hj i hi' hge=>by
   obtain⟨x,hx⟩:=yk.1 (S'.oc j e c hj i hi' hge)
   rw[jg8 hx];simp }
end
theorem qqv{c:Code}{n:Nat}{t:List (Nat×TV)}{h1 hr:List (Nat×Blk)}{Q:AX->St->Prop}(ids:List Nat) 
  (hv:∀id k,look id hr=some k->∃cs nm kk,k=.var cs nm kk) (hi:∀id,look id hr≠none->id∈ids)
  (h:aw P T c ⟨n,t,h1,[]⟩ (fun e st'=>(ids.all fun i=>(look i st'.h).isNone)=true/\Q e { st' with h:=st'.h++hr }))
  (h1n:(ids.all fun i=>(look i h1).isNone)=true:=by rfl) (hw:okW h1 t=true:=by rfl):aw P T c ⟨n,t,h1++hr,[]⟩ Q:=by
 have no:∀ {l:List (Nat×Blk)},(ids.all fun i=>(look i l).isNone)=true->∀id∈ids,look id l=none:=fun hl id hid=>by
  have:=vj.1 hl id hid;exact Option.isNone_iff_eq_none.1 this
 unfold aw at h ⊢;intro rd M F0 w0 F ρ a w hR S;have S1:=qpl hv hi (no h1n) (fun i tv e=>ji6 hw e) S;refine wpIn_mono (h rd (jr5 M ρ hr) (jfd F0 F) w F ρ a w (fun l hl=>?_) S1) ?_
 .obtain⟨g1,x,g2⟩:=hR l hl;exact⟨fun hm=>g1 hm.1,x,(S.bel.block l (qp g2) g1).trans g2⟩
 intro e a' w' hh;cases e with
 |normal=>obtain⟨F',ρ',st',S',hn,hK⟩:=hh;exact⟨F',_,_,jl1 hv hi (no h1n) S (no hn) S',hK⟩
 |exit id=>obtain⟨F',ρ',st',S',hn,hK⟩:=hh;exact⟨F',_,_,jl1 hv hi (no h1n) S (no hn) S',hK⟩
 |ret=>obtain⟨F',ρ',st',S',hn,hK⟩:=hh;exact⟨F',_,_,jl1 hv hi (no h1n) S (no hn) S',hK⟩
 |goto l=>exact hh
 |panic c=>exact hh
 |outgrown=>exact hh
end Go.Ab
namespace Go.Ab
open Go.RowKit
variable {P : Program}{T : Lay}
variable {Q:AX->St->Prop}{t:List (Nat×TV)}{h:List (Nat×Blk)}{s:Option (Nat×Nat)}{c:Code}{st:St}{e:TypeId}{M:Nat->Prop}{l:List Nat}{n:Nat}{ρ:Nat->Nat}{row:List V}{h1:List (Nat×Blk)}{ids:List Nat}{hr:List (Nat×Blk)}{m:List Nat}{h':List (Nat×Blk)}{α:Type}{z:Nat}{a:Act}{b:List (Nat×Blk)}{w0:World}{w:World}{F0:Frz}{F:Frz}{q:Nat}{id:Nat}{B:List (Nat×Blk)}{A:List (Nat×Blk)}{X:List (Nat×Blk)}{R:List (Nat×Blk)}{c1:List V}{c2:List V}{S:St}
def slO(n:Nat):Option (Nat×Nat)->Value
 |none=>.slice none 0 0
 |some x=>.slice (some ⟨x.1,0,none⟩) n x.2
abbrev sOpt(n:Nat)(s:Option (Nat×Nat)):V:=.val (slO n s)
def rowB(q:Nat)(row:List V)(e:TypeId)(z:Nat):Option (Nat×Nat)->List (Nat×Blk)
 |none=>[]
 |some x=>[(q,.var row (some x.1) (some (e,z,x.2)))]
def okB(n:Nat):Option (Nat×Nat)->Prop
 |none=>n=0
 |some x=>n<=x.2/\x.2<=maxLen
theorem qrj(n:Nat)(s:Option (Nat×Nat)):(slO n s).oneCell'=true:=by cases s<;>rfl
theorem qe{i:Nat}(hi:i≠q):look i (rowB q row e z s++h)=look i h:=by
 cases s with
 |none=>rfl
 |some x=>rw[rowB,List.cons_append,List.nil_append,af,ul hi]
theorem qkw{i:Nat}{b:Blk}(hi:i≠q):seth i b (rowB q row e z s++h)=rowB q row e z s++seth i b h:=by
 cases s with
 |none=>rfl
 |some x=>rw[rowB,List.cons_append,List.nil_append,seth,ul hi];rfl
theorem ag:(∀n s,(slO n s).oneCell'=true)/\(∀i q row e z s h,i≠q->look i (rowB q row e z s++h)=look i h)/\∀i q b row e z s h,i≠q->seth i b (rowB q row e z s++h)=rowB q row e z s++seth i b h:=
 ⟨qrj,fun _ _ _ _ _ _ _ h=>qe h,fun _ _ _ _ _ _ _ _ h=>qkw h⟩
def AllS(n:Nat)(B:Option (Nat×Nat)->Prop):Prop:=∀s,okB n s->B s
theorem jaj{B C:Option (Nat×Nat)->Prop}: (AllS n B/\AllS n C)=AllS n fun s=>B s/\C s:=by
 apply propext;exact⟨fun h s hs=>⟨h.1 s hs,h.2 s hs⟩,fun h=>⟨fun s hs=>(h s hs).1,fun s hs=>(h s hs).2⟩⟩
theorem callR{g:FuncId}{vs:List V}{d:Option Tmp}{K:St->Prop}{k:V->Option TypeId->Prop}{kn:Nat->List (List V)->Prop}{es:List (List V)}(q n:Nat)(hl:es.length=n)(h:DenU P T g vs (mc e z es))(hq:q<st.n)(hn:look q st.h=none) 
  (hk:AllS n fun s=>retM d K { st with h:=rowB q es.flatten e z s++st.h } (.v (sOpt n s))):Call P T g vs k kn (CallX P T g vs [] st d K):=by
 subst hl
 exact mo (jio q (by rw[vw];exact h) (fun r hr=>by
  rcases hr with⟨-,h2,rfl⟩|⟨r',cap',h1,-⟩
  .have:=hk none (by subst h2;rfl);exact this
  .cases h1) (fun b r hr _=>by
  rcases hr with⟨h1,-⟩|⟨r',cap',h1,h2,h3,rfl⟩
  .cases h1
  .cases h1
   exact hk (some (r',cap')) ⟨h2,h3⟩) hq hn)
def Sub(P:Program)(T:Lay)(S st:St):Prop:=∀(M:Nat->Prop) (F0:Frz) (w0:World) (F:Frz) (ρ:Nat->Nat) (a:Act) (w:World),SimS P T M F0 w0 F ρ st a w->SimS P T M F0 w0 F ρ S a w
theorem bl(hs ts:List Nat)(hn:S.n=st.n)(ht:mh hs ts st.t=some S.t)(ho:S.o=[])(hh:∀id k,look id S.h=some k->look id st.h=some k)(hw:okW S.h S.t=true):Sub P T S st:=fun M F0 w0 F ρ a w X=>by
 unfold SimS at X ⊢;rw[ho,hn]
 exact {
  n:=X.n,df:=X.df,sees:=X.sees,lay:=X.lay,le:=X.le,new:=X.new,newm:=X.newm,bel:=X.bel,hM:=X.hM,nn:=X.nn
  tm:=fun i tv e=>X.tm i tv (ja3 ht i tv e).1
  wf:=fun i tv e=>ji6 hw e
  hp:=fun id k e=>X.hp id k (hh id k e)
  z:=fun id k h e=>X.z id k h (hh id k e)
  nb:=fun id k b e hb=>X.nb id k b (hh id k e) hb
  inj:=fun id id' k k' e e'=>X.inj id id' k k' (hh id k e) (hh id' k' e')
  ow:=fun j e c hj=>by simp at hj
  od:=fun j j' e c e' c' _ hj=>by simp at hj
  oc:=fun j e c hj=>by simp at hj }
theorem qcz(hs:Sub P T S st)(h:aw P T c S Q):aw P T c st Q:=jrb hs h
theorem qqu{P:Program}{T:Lay}{G:Prop}(S:St)(h:(∀st,Sub P T S st->aw P T c st Q)->G)(h2:aw P T c S Q):G:=h fun _ hs=>qcz hs h2
def Ids(h:List (Nat×Blk))(l:List Nat):Prop:=∀id k,look id h=some k->id∈l/\∃cs nm kk,k=.var cs nm kk
theorem qs9:Ids [] []:=fun _ _ h=>by cases h
theorem cf(s:Option (Nat×Nat)):Ids (rowB q row e z s) [q]:=fun id k h=>by
 cases s with
 |none=>cases h
 |some x=>
  simp only[rowB,af] at h;split at h
  .rename_i he;cases h;subst he;exact⟨.head _,_,_,_,rfl⟩
  cases h
theorem fu{a:List (Nat×Blk)}(ha:Ids a l)(hb:Ids b m):Ids (a++b) (l++m):=fun id k h=>by
 rw[ik] at h;split at h
 .rename_i x hx;cases h;exact⟨qwx _ (ha id _ hx).1,(ha id _ hx).2⟩
 exact⟨qx2 _ (hb id _ h).1,(hb id _ h).2⟩
theorem Ids.v(hi:Ids h l):∀id k,look id h=some k->∃cs nm kk,k=.var cs nm kk:=fun id k e=>(hi id k e).2
theorem Ids.i(hi:Ids h l):∀id,look id h≠none->id∈l:=fun id e=>by
 obtain⟨k,hk⟩:=yk.1 e;exact(hi id k hk).1
theorem Ids.dsj(hi:Ids h l)(hi':Ids h' m)(hd:(l.all fun i=> !m.contains i)=true:=by rfl):∀id,look id h≠none->look id h'=none:=fun id e=>by
 cases hk:look id h' with
 |none=>rfl
 |some k=>
  have h1:=vj.1 hd id (hi.i id e);have h2:=(hi' id k hk).1;rw[List.contains_iff_mem.2 h2] at h1;cases h1
theorem jgt{a:List (Nat×Blk)}(hd:∀id,look id a≠none->look id b=none)(id:Nat):look id (a++b)=look id (b++a):=by
 rw[ik,ik];cases ha:look id a with
 |none=>cases look id b<;>rfl
 |some x=>rw[hd id (by rw[ha];simp)]
theorem qhx{x:List (Nat×Blk)}{a:List (Nat×Blk)}(h:∀id,look id a=look id b)(id:Nat):look id (x++a)=look id (x++b):=by rw[ik,ik,h]
def frQ(ids:List Nat)(hr:List (Nat×Blk))(Q:AX->St->Prop):AX->St->Prop:=fun e st'=>(ids.all fun i=>(look i st'.h).isNone)=true/\Q e { st' with h:=st'.h++hr }
theorem aw_fr(hi:Ids hr ids)(h:aw P T c ⟨n,t,h1,[]⟩ (frQ ids hr Q)) 
  (h1n:(ids.all fun i=>(look i h1).isNone)=true:=by rfl) (hw:okW h1 t=true:=by rfl):aw P T c ⟨n,t,h1++hr,[]⟩ Q:=qqv ids hi.v hi.i h h1n hw
theorem qos{w0 w:World}{M:Nat->Prop}{F0 F:Frz}{ρ:Nat->Nat}{a:Act}{n:Nat}{t:List (Nat×TV)}{hr:List (Nat×Blk)}{id q j m z:Nat}{cs row:List V}{e:TypeId}{s:Option (Nat×Nat)}{ids:List Nat} 
  (S:SimS P T M F0 w0 F ρ ⟨n,t,(id,.var cs)::(rowB q row e z s++hr),[]⟩ a w) (hs:okB m s) (hj:cs[j]?=some (sOpt m s)) (hrow:m*z<=row.length) (hids:Ids hr ids) (hq:ids.contains q=false:=by rfl) (hid:ids.contains id=false:=by rfl) (hne:id≠q:=by decide)
  (hw:okW [(id,.var [])] t=true:=by rfl):∃F',SimS P T M F0 w0 F' ρ ⟨n,t,(id,.var (cz cs j [.slice z (cw 0 m z row)]))::hr,[]⟩ a w:=by
 have hlc:=(gsi.1 hj).1
 have hw':∀cs',okW ((id,Blk.var cs')::hr) t=true:=fun cs'=>by
  refine vj.2 fun x hx=>?_;have:=vj.1 hw x hx;split
  .rfl
  rename_i i hi;rw[hi] at this;simp only[af] at this ⊢;split
  .rfl
  rename_i hne';rw[ul hne'] at this;cases this
 have hn0:∀i,ids.contains i=false->look i hr=none:=fun i hc=>by
  cases hk:look i hr with
  |none=>rfl
  |some k=>
   have:=List.contains_iff_mem.2 (hids i k hk).1;rw[hc] at this;cases this
 have keepAll:mh [id] (t.map (·.1)) t=some t->True:=fun _=>trivial
 have less:∀ {F:Frz} {h h':List (Nat×Blk)}, SimS P T M F0 w0 F ρ ⟨n,t,h,[]⟩ a w->(∀i k,look i h'=some k->look i h=some k)->okW h' t=true->SimS P T M F0 w0 F ρ ⟨n,t,h', []⟩ a w:=fun {F h h'} X hh hw=> {
  n:=X.n,df:=X.df,sees:=X.sees,lay:=X.lay,le:=X.le,new:=X.new,newm:=X.newm,bel:=X.bel,hM:=X.hM,nn:=X.nn,tm:=X.tm
  wf:=fun i tv e=>ji6 hw e
  hp:=fun id k e=>X.hp id k (hh id k e)
  z:=fun id k h e=>X.z id k h (hh id k e)
  nb:=fun id k b e hb=>X.nb id k b (hh id k e) hb
  inj:=fun id id' k k' e e'=>X.inj id id' k k' (hh id k e) (hh id' k' e')
  ow:=fun j e c hj=>by simp at hj
  od:=fun j j' e c e' c' _ hj=>by simp at hj
  oc:=fun j e c hj=>by simp at hj }
 cases s with
 |none=>
  have hm:m=0:=hs;subst hm;refine⟨F,?_⟩;have hk0:look id ((id,Blk.var cs)::hr)=some (.var cs):=er _ _ _;have S:SimS P T M F0 w0 F ρ ⟨n,t,(id,.var cs)::hr,[]⟩ a w:=S;obtain⟨⟨xs,ty,p1,p2,p3,p4,p5⟩,hM,hlt⟩:=S.hp id _ hk0;have hfit:j+[V.slice z (cw 0 0 z row)].length<=cs.length:=by simp;omega
  have hlx:j<xs.size:=omq;have hx:=al (p4 _ _ _ hj (xk hlx))
  have:=Sim.know S hk0 (k:=.var (cz cs j [.slice z (cw 0 0 z row)])) ⟨xs,ty,p1,by rw[jbb hfit];exact p2,fun c hc=>by
   obtain⟨i,hi⟩:=xc hc;rw[mu hfit] at hi;split at hi
   .have:=vc hi;simp at this;subst this;rfl
   .exact p3 c (vc hi),fun i c y e1 e2=>by
   rw[mu hfit] at e1;split at e1
   .rename_i hin;simp at hin;have hj0:i=j:=omq;subst hj0;simp at e1;subst e1;rw[xk hlx] at e2;cases e2;rw[hx];exact .snil
   .exact p4 i c y e1 e2,p5⟩ rfl
  have e:seth id (.var (cz cs j [.slice z (cw 0 0 z row)])) ((id,Blk.var cs)::hr)=(id,.var (cz cs j [.slice z (cw 0 0 z row)]))::hr:=by rw[seth,um rfl]
  simp only[e] at this;exact this
 |some x=>
  obtain⟨b,cap⟩:=x;have hs:m<=cap/\cap<=maxLen:=hs
  have h1:look q ((id,Blk.var cs)::(rowB q row e z (some (b,cap))++hr))=some (.var row (some b) (some (e,z,cap))):=by
   rw[af,ul (fun e=>hne e.symm)];exact er _ _ _
  obtain⟨F',S'⟩:=jn2 S h1 (er _ _ _) hne hj hs.1 hs.2 hrow;refine⟨F',less S' (fun i k e=>?_) (hw' _)⟩;rw[af] at e
  show look i (seth id _ (frz1 q (seth q _ _)))=some k
  rw[og];split at e
  .rename_i hi;subst hi;rw[um rfl,jd,ul hne,og,ul hne,er];exact e
  rename_i hi;rw[ul (fun e=>hi e)]
  have hiq:i≠q:=fun he=>by
   subst he;rw[hn0 i hq] at e;cases e
  rw[jd,ul hiq,og,ul hiq,af,ul hi,qe hiq];exact e
def endX(P:Program)(T:Lay)(e0:AX)(φ:α->Prop)(S:α->St):AX->St->Prop:=fun e st=>e=e0/\∃x,φ x/\Sub P T (S x) st
theorem joq{e0:AX}{φ:α->Prop}{S:α->St}(x:α)(hx:φ x)(hs:Sub P T (S x) st):endX P T e0 φ S e0 st:=⟨rfl,x,hx,hs⟩
theorem jp6(e0:AX)(φ:α->Prop)(S:α->St)(h:∀E:AX->St->Prop,(∀x st,φ x->Sub P T (S x) st->E e0 st)->aw P T c st E):aw P T c st (endX P T e0 φ S):=h _ fun x _ hx hs=>joq x hx hs
theorem ma(e0:AX)(φ:α->Prop)(S:α->St)(h:∀E:AX->St->Prop,(∀x st,φ x->Sub P T (S x) st->E e0 st)->aw P T c st E)(hS:∀x,φ x->Q e0 (S x)):aw P T c st Q:=
 jai (h (endX P T e0 φ S) fun x _ hx hs=>joq x hx hs) fun _ _ _ F ρ _ _ _ _ X ⟨he,x,hx,hs⟩=>⟨F,ρ,S x,hs _ _ _ _ _ _ _ X,he▸hS x hx⟩
theorem jid{Q:AX->St->Prop}(e0:AX)(φ:α->Prop)(S:α->St)(hi:Ids hr ids)(h:∀E:AX->St->Prop,(∀x st,φ x->Sub P T (S x) st->E e0 st)->aw P T c ⟨n,t,h1,[]⟩ E) 
  (hS:∀x,φ x->Q e0 { S x with h:=(S x).h++hr }) (hn:∀x,(ids.all fun i=>(look i (S x).h).isNone)=true) (h1n:(ids.all fun i=>(look i h1).isNone)=true) (hw:okW h1 t=true:=by rfl):aw P T c ⟨n,t,h1++hr,[]⟩ Q:=
 aw_fr hi (jai (h (endX P T e0 φ S) fun x _ hx hs=>joq x hx hs) fun _ _ _ F ρ _ _ _ _ X ⟨he,x,hx,hs⟩=>⟨F,ρ,S x,hs _ _ _ _ _ _ _ X,he▸⟨hn x,hS x hx⟩⟩) h1n hw
theorem jqh{o:List (TypeId×List Nat)}(e:h=h')(k:aw P T c ⟨n,t,h',o⟩ Q):aw P T c ⟨n,t,h,o⟩ Q:=e▸k
theorem qop(X:SimS P T M F0 w0 F ρ ⟨n,t,h,[]⟩ a w)(hh:∀i k,look i h'=some k->look i h=some k)(hw:okW h' t=true):SimS P T M F0 w0 F ρ ⟨n,t,h',[]⟩ a w:=
  { n:=X.n,df:=X.df,sees:=X.sees,lay:=X.lay,le:=X.le,new:=X.new,newm:=X.newm,bel:=X.bel,hM:=X.hM,nn:=X.nn,tm:=X.tm
    wf:=fun i tv e=>ji6 hw e
    hp:=fun id k e=>X.hp id k (hh id k e)
    z:=fun id k h e=>X.z id k h (hh id k e)
    nb:=fun id k b e hb=>X.nb id k b (hh id k e) hb
    inj:=fun id id' k k' e e'=>X.inj id id' k k' (hh id k e) (hh id' k' e')
    ow:=fun j e c hj=>by simp at hj
    od:=fun j j' e c e' c' _ hj=>by simp at hj
    oc:=fun j e c hj=>by simp at hj }
theorem qrv{h2:List (Nat×Blk)}(h:okW h1 t=true):okW (h1++h2) t=true:=vj.2 fun x hx=>by
 have:=vj.1 h x hx;split
 .rfl
 rename_i i hi;rw[hi] at this;simp only at this;obtain⟨k,hk⟩:=yw.1 this;rw[jg8 hk];rfl
theorem qrk(S:SimS P T M F0 w0 F ρ ⟨n,t,h1++(X++R),[]⟩ a w)(hx:Ids X l)(hr:Ids R m)(hd:(l.all fun i=> !m.contains i)=true:=by rfl)(hw:okW h1 t=true:=by rfl):
  SimS P T M F0 w0 F ρ ⟨n,t,h1++(R++X),[]⟩ a w:=qop S (fun i k e=>by rw[<- e];exact qhx (jgt (hx.dsj hr hd)) i) (qrv hw)
theorem qur(hx:Ids X l)(hr:Ids R m)(h:aw P T c ⟨n,t,h1++(R++X),[]⟩ Q)(hd:(l.all fun i=> !m.contains i)=true:=by rfl)(hw:okW h1 t=true:=by rfl):aw P T c ⟨n,t,h1++(X++R),[]⟩ Q:=
 jrb (fun _ _ _ _ _ _ _ S=>qrk S hx hr hd hw) h
theorem jg4{C:List (Nat×Blk)}{n:List Nat}(hA:Ids A l)(hB:Ids B m)(hC:Ids C n)(id:Nat)(k:Blk)(e:look id ((1,Blk.var c1)::(2,Blk.var c2)::(A++(B++C)))=some k) 
  (d0:(([1]++[2]).all fun i=> !(l++(m++n)).contains i)=true:=by rfl) (d1:(l.all fun i=> !(m++n).contains i)=true:=by rfl) (d2:(m.all fun i=> !n.contains i)=true:=by rfl):look id (C++(B++(A++[(1,Blk.var c1),(2,Blk.var c2)])))=some k:=by
 have hD:Ids [(1,Blk.var c1),(2,Blk.var c2)] ([1]++[2]):=fun id k h=>by
  rw[af,af] at h;split at h
  .rename_i h1;cases h;subst h1;exact⟨dcq,_,_,_,rfl⟩
  split at h
  .rename_i h1;cases h;subst h1;exact⟨dcq,_,_,_,rfl⟩
  cases h
 have e1:=jgt (hD.dsj (fu hA (fu hB hC)) d0) id;have e2:=jgt (hA.dsj (fu hB hC) d1);have e3:=jgt (hB.dsj hC d2);have e:look id ([(1,Blk.var c1),(2,Blk.var c2)]++(A++(B++C)))=some k:=e;rw[e1] at e;rw[<- e]
 have f1:∀i,look i (A++(B++C))=look i (C++(B++A)):=fun i=>by
  rw[e2,ik,ik,ik,ik];have:=e3 i;rw[ik,ik] at this;rw[this];cases look i C<;>rfl
 have:look id (C++(B++(A++[(1,Blk.var c1),(2,Blk.var c2)])))=look id ((C++(B++A))++[(1,Blk.var c1),(2,Blk.var c2)]):=by rw[vt,vt]
 rw[this,ik,<- f1,<- ik]
theorem qhq(hA:Ids A l)(hB:Ids B m)(id:Nat)(k:Blk)(e:look id ((1,Blk.var c1)::(2,Blk.var c2)::(A++B))=some k) 
  (d0:(([1]++[2]).all fun i=> !(l++(m++[])).contains i)=true:=by rfl) (d1:(l.all fun i=> !(m++[]).contains i)=true:=by rfl):look id (B++(A++[(1,Blk.var c1),(2,Blk.var c2)]))=some k:=by
 have:=jg4 (c1:=c1) (c2:=c2) hA hB qs9 id k (by rw[vw];exact e) d0 d1 (vj.2 fun _ _=>rfl);exact this
theorem qhw{i:Nat}(hi:i≠q):look i (rowB q row e z s)=none:=by
 cases s with
 |none=>rfl
 |some x=>rw[rowB,af,ul hi];rfl
theorem qld{i:Nat}{b k:Blk}(h1:look i h=none)(e:look id h=some k):look id ((i,b)::h)=some k:=by
 rw[af,ul]
 .exact e
 intro he;subst he;rw[h1] at e;cases e
theorem mw {p q r:Prop} (hr:r) (h:q) (e:r->q->p:=by
  intro hr h;refine runG hr ?_
  exact h):p:=e hr h
def jie(_:Nat):Prop:=True
theorem qbx(t:Nat)(h:aw P T c (rb t st) Q):aw P T c st Q:=by
 unfold aw at h ⊢;intro rd M F0 w0 F ρ a w hR S;obtain⟨F',S'⟩:=jsq S t;exact h rd M F0 w0 F' ρ a w hR S'
theorem ew(n:Nat):jie n:=trivial
theorem qsz{ops:Array Oper}{l:List Oper}(_hs:jie n)(_hn:Nat.beq id n=false)(hl:ops.toList=l)(h:awO P T l l st (Q .nm)):aw P T (.region id ops false) st Q:=tw hl h
theorem fj {p q r:Prop} {n:Nat} (hs:jie n) (hr:r) (h:q) (e:jie n->r->q->p:=by
  intro hs hr g
  repeat (first
   |with_reducible refine tx ?_
   |with_reducible refine jce ?_
   |refine runC ?_
   |refine qsz hs rfq rfl ?_
   |refine runR ?_
   |refine runS hr ?_)
  exact g):p:=e hs hr h
abbrev qci(st:St)(id j:Nat)(cs:List V)(nm:Option Nat)(kk:Option (TypeId×Nat×Nat)):St:=⟨st.n,st.t,seth id (.var (cz cs j [.val (.slice none 0 0)]) nm kk) st.h,delo (plc id j) st.o⟩
abbrev qc8(st:St)(id j d r cap:Nat)(e:TypeId)(size:Nat)(cs:List V)(nm:Option Nat)(kk:Option (TypeId×Nat×Nat)):St:=⟨st.n,st.t,(d,.var [] (some r) (some (e,size,cap)))::seth id (.var (cz cs j [.val (.slice (some ⟨r,0,none⟩) 0 cap)]) nm kk) st.h,delo (plc id j) st.o⟩
theorem jzb(S:SimS P T M F0 w0 F ρ st a w){id j:Nat}{cs:List V}{nm:Option Nat}{kk:Option (TypeId×Nat×Nat)}{y:Value} 
  (h2:look id st.h=some (.var cs nm kk)) (hj:j<cs.length) (hc:w.cell? ⟨ρ id,j,none⟩=some y) (h1:y.oneCell'=true):SimS P T M F0 w0 F ρ { st with h:=seth id (.var (cz cs j [.val y]) nm kk) st.h } a w:=by
 obtain⟨⟨xs,ty,p1,p2,p3,p4,p5⟩,-,-⟩:=S.hp id _ h2;have hfit:j+[V.val y].length<=cs.length:=by simp;omega
 have hx:xs[j]?=some y:=by rw[<- hc];simp[World.cell?,p1]
 exact Sim.know S h2 (k:=.var (cz cs j [.val y]) nm kk) ⟨xs,ty,p1,by rw[jbb hfit];exact p2,fun c hc=>by
  obtain⟨i,hi⟩:=xc hc;rw[mu hfit] at hi;split at hi
  .have:=vc hi;simp at this;subst this;exact h1
  .exact p3 c (vc hi),fun i c z e1 e2=>by
  rw[mu hfit] at e1;split at e1
  .rename_i hin;simp at hin;have hj0:i=j:=omq;subst hj0;simp at e1;subst e1;rw[hx] at e2;cases e2;exact .val _
  .exact p4 i c z e1 e2,p5⟩ rfl
theorem qhr(S:SimS P T M F0 w0 F ρ st a w){id j d size:Nat}{e:TypeId}{cs:List V}{nm:Option Nat}{kk:Option (TypeId×Nat×Nat)} 
  (h2:look id st.h=some (.var cs nm kk)) (h3:cs[j]?=some (.slice size [])) (h4:j<1000000000) (ho:cu (plc id j) st.o=some e) (hz:P.cellsOf e=size) (hd:d<st.n) (hdh:look d st.h=none):
  SimS P T M F0 w0 F ρ (qci st id j cs nm kk) a w\/∃r cap,(∀id' k q,look id' st.h=some k->k.nm=some q->q≠r)/\cap<=maxLen/\SimS P T M F0 w0 F (fun i=>if i=d then r else ρ i) (qc8 st id j d r cap e size cs nm kk) a w:=by
 obtain⟨⟨xs,ty,p1,p2,p3,p4,p5⟩,-,-⟩:=S.hp id _ h2;have hlc:=(gsi.1 h3).1;have hlx:j<xs.size:=omq;obtain⟨x,hx⟩:∃x,xs[j]?=some x:=⟨_,xk hlx⟩;have hrep:=p4 j _ _ h3 hx;have hcell:w.cell? ⟨ρ id,j,none⟩=some x:=by rw[<- hx];simp[World.cell?,p1]
 obtain⟨jo,c,hj,hic⟩:=rq ho
 have hheld:held a w ρ (plc id j)=some x:=by
  rw[fl (by have:=jek id j;omega),sa h4,jbz h4];exact hcell
 obtain⟨-,⟨m,ys,hrow,hfz⟩,hloc⟩:=S.oval hj hic hheld
 have hown:∀(j':Nat) e' c',(delo (plc id j) st.o)[j']?=some (e',c')->∀i'∈c',∀u g,held a w ρ i'=some u->x.ownBlock=some g->u.ownBlock≠some g:=fun j' e' c' hj' i' hi' u g hu hg=>by
  obtain⟨g1,g2⟩:=jbv j' e' c' hj' hi'
  have hne:jo≠j':=fun he=>by
   subst he;rw[hj] at g1;cases g1;exact g2 hic
  exact S.od jo j' e c e' c' hne hj g1 (plc id j) hic i' hi' x u g hheld hu hg
 have S1:SimS P T M F0 w0 F ρ ⟨st.n,st.t,st.h,delo (plc id j) st.o⟩ a w:=Sim.delo S (plc id j);rcases hrow.2 with⟨hv,-⟩|⟨g,cap,cur,hv,-,⟨fz,hfz0,hg⟩,-,hcm,hsz,-⟩
 .left;subst hv;exact jzb S1 h2 hlc hcell rfl
 right;subst hv
 have hm:m=0:=by
  obtain⟨a0,c0,he⟩:=su hrep;cases he;rfl
 subst hm;have S2:=jzb S1 h2 hlc hcell rfl;have hM:=(hfz g rfl).1;have hlt:g<w.heap.size:=(asi.1 hg).1
 have hback:∀id' k',look id' (seth id (.var (cz cs j [.val (.slice (some ⟨g,0,none⟩) 0 cap)]) nm kk) st.h)=some k'->∃k,look id' st.h=some k:=fun id' k' e'=>by
  rw[og] at e';split at e'
  .obtain⟨k,hk,-⟩:=msi.1 e';exact⟨k,hk⟩
  exact⟨k',e'⟩
 refine⟨g,cap,fun id' k q hk hq he=>?_,hcm,?_⟩
 .have:=S.nb id' k q hk hq;subst he;exact hloc id' k hk (by rw[this];rfl)
 refine Sim.bind S2 (d:=d) (b:=g) (k:=.var [] (some g) (some (e,size,cap))) hd ?_
  ⟨cur,⟨(e,fz),rfl,by rw[hsz,hz],hcm,hfz0⟩,hg,uq _,(fun _ h=>nomatch h),(fun _ _ _ h=>by simp at h),fun p v hp hpb=>by have:=(hfz g rfl).2 p v hp hpb;omega⟩
  hM hlt (fun id' k' hk' he=>?_) (fun j' e' c' hj' i' hi' u hu=>hown j' e' c' hj' i' hi' u g hu rfl) (fun q hq=>by cases hq;rfl)
 .show look d (seth id _ st.h)=none
  rw[og];split
  .rw[hdh];rfl
  exact hdh
 obtain⟨k,hk⟩:=hback id' k' hk';exact hloc id' k hk (by rw[he];rfl)
theorem jp4{c:Code}{Q:AX->St->Prop}(id j d:Nat)(e:TypeId)(size:Nat)(cs:List V)(nm:Option Nat)(kk:Option (TypeId×Nat×Nat))(h2:look id st.h=some (.var cs nm kk))(h3:cs[j]?=some (.slice size []))(h4:j<1000000000)(ho:cu (plc id j) st.o=some e)(hz:P.cellsOf e=size)(hd:d<st.n)(hdh:look d st.h=none) 
  (hn:aw P T c (qci st id j cs nm kk) Q) (hr:∀r cap,(∀id' k q,look id' st.h=some k->k.nm=some q->q≠r)->cap<=maxLen->aw P T c (qc8 st id j d r cap e size cs nm kk) Q):aw P T c st Q:=by
 unfold aw at hn hr ⊢;intro rd M F0 w0 F ρ a w hR S;rcases qhr S h2 h3 h4 ho hz hd hdh with S'|⟨r,cap,g1,g2,S'⟩
 .exact hn rd M F0 w0 F ρ a w hR S'
 exact hr r cap g1 g2 rd M F0 w0 F _ a w hR S'
end Go.Ab
namespace Go.Arc
open Go.Ab Go.RowKit
def fltC(lo hi:Nat):List Nat->List Nat
 |[]=>[]
 |i::c=>if lo<=i then(if i<hi then fltC lo hi c else i::fltC lo hi c) else i::fltC lo hi c
theorem qb2(lo hi:Nat):∀c:List Nat,c.filter (fun i=> !(Nat.ble lo i && Nat.blt i hi))=fltC lo hi c
 |[]=>rfl
 |i::c=>by
  have ih:=qb2 lo hi c;unfold fltC;by_cases h1:lo<=i
  .by_cases h2:i<hi
   .rw[um h1,um h2,<- ih,qx1];rw[qwr h1,show Nat.blt i hi=true from qwr h2];decide
   rw[um h1,ul h2,<- ih,qwl];rw[show Nat.blt i hi=false from yz.2 fun e=>h2 (qv8 e),xm];rfl
  rw[ul h1,<- ih,qwl];rw[show Nat.ble lo i=false from yz.2 fun e=>h1 (qv8 e)];rfl
theorem au:(∀id off n,remC id off n []=[])/\(∀id off n e c o,remC id off n ((e,c)::o)=(e,fltC (plc id off) (plc id off+n) c)::remC id off n o)/\(∀lo hi,fltC lo hi []=[])/\(∀lo hi i c,fltC lo hi (i::c)=if lo<=i then(if i<hi then fltC lo hi c else i::fltC lo hi c) else i::fltC lo hi c):=
 ⟨fun _ _ _=>rfl,fun id off n e c o=>by unfold remC;rw[vl];simp only[qb2],fun _ _=>rfl,fun _ _ _ _=>rfl⟩
def fltB(d:Nat):List Nat->List Nat
 |[]=>[]
 |i::c=>if 1000000000<=i then(if pid i=d then fltB d c else i::fltB d c) else i::fltB d c
theorem qb3(d:Nat):∀c:List Nat,c.filter (fun i=> !(Nat.ble 1000000000 i && Nat.beq (pid i) d))=fltB d c
 |[]=>rfl
 |i::c=>by
  have ih:=qb3 d c;unfold fltB;by_cases h1:1000000000<=i
  .by_cases h2:pid i=d
   .rw[um h1,um h2,<- ih,qx1];rw[qwr h1,h2,Nat.beq_refl];decide
   rw[um h1,ul h2,<- ih,qwl];rw[show Nat.beq (pid i) d=false from yz.2 fun e=>h2 (qvx e),xm];rfl
  rw[ul h1,<- ih,qwl];rw[show Nat.ble 1000000000 i=false from yz.2 fun e=>h1 (qv8 e)];rfl
theorem av:(∀d,remB d []=[])/\(∀d e c o,remB d ((e,c)::o)=(e,fltB d c)::remB d o)/\(∀d,fltB d []=[])/\(∀d i c,fltB d (i::c)=if 1000000000<=i then(if pid i=d then fltB d c else i::fltB d c) else i::fltB d c)/\∀a n c,(Value.slice a n c).oneCell'=true:=
 ⟨fun _=>rfl,fun d e c o=>by unfold remB;rw[vl];simp only[qb3],fun _=>rfl,fun _ _ _=>rfl,fun _ _ _=>rfl⟩
end Go.Arc
namespace Go.Ab
open Go.RowKit
variable {P : Program}{T : Lay}{rd : Option Nat}
variable {w w' w'' : World}{M N K : Nat -> Prop}{F0 F F' F'' : Frz}{w0 : World}{ρ : Nat -> Nat}{a : Act}{st : St}
structure Mv (T:Lay) (N:Nat->Prop) (F:Frz) (w:World) (F':Frz) (w':World):Prop where
 le:Le F F'
 sees:Sees F' w'
 lay:Laid T F' w'
 os:w'.os=w.os
 tape:w'.tape=w.tape
 output:w'.output=w.output
 size:w.heap.size<=w'.heap.size
 block:∀q,N q->w'.heap[q]?=w.heap[q]?
 new:∀p v,F' p=some v->F p=some v\/¬N p.block
 newm:∀b xs,F'.m b=some xs->F.m b=some xs\/¬N b
theorem Mv.refl(hs:Sees F w)(hl:Laid T F w):Mv T N F w F w:=⟨Le.refl F,hs,hl,rfl,rfl,rfl,uv _,fun _ _=>rfl,fun _ _ h=>.inl h,fun _ _ h=>.inl h⟩
theorem Mv.trans(h:Mv T N F w F' w')(k:Mv T N F' w' F'' w''):Mv T N F w F'' w'':=
  ⟨h.le.trans k.le,k.sees,k.lay,k.os.trans h.os,k.tape.trans h.tape,k.output.trans h.output,xa h.size k.size,fun q hq=>(k.block q hq).trans (h.block q hq),
   fun p v e=>(k.new p v e).elim (h.new p v) .inr,fun b xs e=>(k.newm b xs e).elim (h.newm b xs) .inr⟩
theorem Mv.mono{N':Nat->Prop}(h:Mv T N F w F' w')(hn:∀q,N' q->N q):Mv T N' F w F' w':=
  { h with
    block:=fun q hq=>h.block q (hn q hq)
    new:=fun p v e=>(h.new p v e).imp id fun hh hq=>hh (hn _ hq)
    newm:=fun b xs e=>(h.newm b xs e).imp id fun hh hq=>hh (hn _ hq) }
theorem qi2{g:Nat}{xs:Array Value}(hl:Laid T F w)(e:T.r g=some xs):∃ys ty fz,w.heap[g]?=some (.cells ys ty fz):=by
 obtain⟨⟨ty,fz,h⟩,_⟩:=hl.2 g xs e;exact⟨_,ty,fz,h⟩
theorem Mv.put{l:Nat}{o o':Obj}(hs:Sees F w)(hl:Laid T F w)(h:w.heap[l]?=some o)(hc:o.isCells=false)(hm:∀xs ck,o≠ .map xs ck)(hc':o'.isCells=false)(hN:¬N l):Mv T N F w F (w.putObj l o'):=by
 have hlt:=qp h;have hoth:∀q,q≠l->(w.putObj l o').heap[q]?=w.heap[q]? := fun q hq=>World.putObj_heap_other hq;have hsame:(w.putObj l o').heap[l]?=some o':=World.putObj_heap_same hlt
 have hcell:∀p,(w.putObj l o').cell? p=w.cell? p:=fun p=>by
  by_cases hp:p.block=l
  .rw[jhn h hc p hp,jhn hsame hc' p hp]
  exact World.cell?_of_block (hoth _ hp)
 refine⟨Le.refl F,⟨fun p v e=>by rw[hcell];exact hs p v e,fun b xs e=>?_⟩,⟨hl.1,fun g xs e=>?_⟩,rfl,rfl,rfl,smq,fun q hq=>hoth q fun e=>hN (e▸hq),fun _ _ e=>.inl e,fun _ _ e=>.inl e⟩
 .obtain⟨ck,hb⟩:=hs.m b xs e;exact⟨ck,(hoth b fun he=>by rw[he,h] at hb;exact hm _ _ (xf hb)).trans hb⟩
 obtain⟨⟨ty,fz,h1⟩,h2⟩:=hl.2 g xs e;exact⟨⟨ty,fz,(hoth g fun he=>by rw[he,h] at h1;cases h1;cases hc).trans h1⟩,h2⟩
theorem Mv.alloc(hs:Sees F w)(hl:Laid T F w)(o:Obj)(hN:∀q,N q->q<w.heap.size):Mv T N F w F (w.alloc o):=by
 have hk:∀q,q<w.heap.size->(w.alloc o).heap[q]?=w.heap[q]? := fun q hq=>Below.heap_alloc w o q hq;refine⟨Le.refl F,⟨fun p v e=>?_,fun b xs e=>?_⟩,⟨hl.1,fun g xs e=>?_⟩,rfl,rfl,rfl,smq,fun q hq=>hk q (hN q hq),fun _ _ e=>.inl e,fun _ _ e=>.inl e⟩
 .rw[World.cell?_of_block (w:=w) (hk _ (jp hs e))];exact hs p v e
 .obtain⟨ck,hb⟩:=hs.m b xs e;exact⟨ck,(hk b (lx hs e)).trans hb⟩
 obtain⟨⟨ty,fz,h1⟩,h2⟩:=hl.2 g xs e;exact⟨⟨ty,fz,(hk g (qp h1)).trans h1⟩,h2⟩
theorem Sim.mv(S:SimS P T M F0 w0 F ρ st a w)(hK:∀q,K q->¬M q):Mv T K F0 w0 F w:=
  have hlt:∀q,K q->q<w0.heap.size:=fun q hq=>Nat.lt_of_not_le fun h=>hK q hq (S.hM q h)
  ⟨S.le,S.sees,Sim.laid S,S.bel.os,S.bel.tape,S.bel.output,S.bel.size,fun q hq=>S.bel.block q (hlt q hq) (hK q hq),
   fun p v e=>(S.new p v e).imp id fun h hq=>hK _ hq h,fun b xs e=>(S.newm b xs e).imp id fun h hq=>hK _ hq h⟩
def cutF(F0 F:Frz):Frz:= { c:=F.c,m:=F.m,z:=F0.z }
theorem qsq(F0 F:Frz):Le (cutF F0 F) F:=⟨fun _ _ e=>e,fun _ _ e=>e⟩
theorem qsr(F0 F:Frz):Le F (cutF F0 F):=⟨fun _ _ e=>e,fun _ _ e=>e⟩
theorem qnf{F0 F:Frz}(h:Sees F w):Sees (cutF F0 F) w:=⟨h.c,h.m⟩
theorem jx5{F0 F:Frz}(h:Laid T F w):Laid T (cutF F0 F) w:=⟨⟨h.1.c,h.1.m⟩,h.2⟩
theorem Mv.cut{F1:Frz}(h:Mv T N F w F' w'):Mv T N F w (cutF F1 F') w':=⟨h.le.trans (qsr F1 F'),qnf h.sees,jx5 h.lay,h.os,h.tape,h.output,h.size,h.block,h.new,h.newm⟩
theorem RepB.move{b:Nat}{k:Blk}(h:RepB F w b k)(hb:w'.heap[b]?=w.heap[b]?)(hle:Le F F')(hn:∀p v,F' p=some v->p.block=b->F p=some v)(hm:∀xs,F'.m b=some xs->F.m b=some xs):RepB F' w' b k:=by
 cases k with
 |var cs _ _=>
  obtain⟨xs,ty,h1,h2,h3,h4,h5⟩:=h;exact⟨xs,ty,hb.trans h1,h2,h3,fun j c x e1 e2=>(h4 j c x e1 e2).mono hle,fun p v e he=>h5 p v (hn p v e he) he⟩
 |con cs=>
  obtain⟨g,h1,h2,h3⟩:=h;exact⟨g,h1,fun j c e=>hle _ _ (h2 j c e),fun j c e=>(h3 j c e).mono hle⟩
 |itr es c _=>exact RepB.itr_mono h hb hle
 |map es _=>
  obtain⟨xs,ck,h1,h0,h2,h3⟩:=h;refine⟨xs,ck,hb.trans h1,?_,h2,fun j k v x e1 e2=>⟨((h3 j k v x e1 e2).1).mono hle,((h3 j k v x e1 e2).2).mono hle⟩⟩;cases e:F'.m b with
  |none=>rfl
  |some ys=>rw[h0] at hm;exact absurd (hm ys e) smq
def mvM(M E:Nat->Prop)(w w':World):Nat->Prop:=fun q=>(M q/\q<w.heap.size/\¬E q)\/w'.heap.size<=q
theorem DfOk.re{M':Nat->Prop}: ∀ {ds:List Deferred},DfOk ds M w->(∀D,mark D∈ds->M D->w.heap[D]?=some (.deferred (some []))->M' D/\w'.heap[D]?=some (.deferred (some [])))->DfOk ds M' w'
 |[],_,_=>trivial
 |d::ds,h,hb=>by
  obtain⟨D,h1,h2,h3,h4,h5⟩:=h;obtain⟨g1,g2⟩:=hb D (by rw[h1];exact qvp) h2 h3;exact⟨D,h1,g1,g2,h4,h5.re fun D' hm=>hb D' (yq _ hm)⟩
theorem DfOk.mem:∀ {ds:List Deferred},DfOk ds M w->∀D,mark D∈ds->M D/\w.heap[D]?=some (.deferred (some []))
 |[],_,D,hm=>by cases hm
 |d::ds,h,D,hm=>by
  obtain⟨D',h1,h2,h3,h4,h5⟩:=h;rcases vg.1 hm with he|hm
  .have:D=D':=by rw[h1] at he;simp[mark] at he;exact he
   subst this;exact⟨h2,h3⟩
  exact h5.mem D hm
theorem Sim.move(S:SimS P T M F0 w0 F ρ st a w){E:Nat->Prop}(hE:∀id k,look id st.h=some k->¬E (ρ id))(hEc:∀g,E g->∀xs t z,w.heap[g]? ≠ some (.cells xs t z))(ds:List Deferred)(hds:ds=[]\/(ds=a.defers/\∀D,mark D∈ds->¬E D)) 
  (h:Mv T N F w F' w') (hN:∀q,M q->q<w.heap.size->¬E q->N q):SimS P T (mvM M E w w') (cutF F0 F') w' F' ρ st { a with defers:=ds } w':=by
 have hkeep:∀q,M q->q<w.heap.size->¬E q->w'.heap[q]?=w.heap[q]? := fun q h1 h2 h3=>h.block q (hN q h1 h2 h3)
 have hh:∀(j:Nat) e c,st.o[j]?=some (e,c)->∀i∈c,held { a with defers:=ds } w' ρ i=held a w ρ i:=fun j e c hj i hi=>by
  rw[<- oa S (w':=w') (fun g _ ⟨id,k,e,he⟩=>he▸hkeep _ (S.hp id k e).2.1 (S.hp id k e).2.2 (hE id k e)) j e c hj i hi];rfl
 have hlay:Laid T F w:=Sim.laid S
 exact {
  n:=S.n
  df:=by
   rcases hds with rfl|⟨rfl,hd⟩
   .trivial
   exact S.df.re fun D hm h1 h2=>⟨.inl ⟨h1,qp h2,hd D hm⟩,(hkeep D h1 (qp h2) (hd D hm)).trans h2⟩
  sees:=h.sees
  lay:=⟨jx5 h.lay,fun g hg=>by
   obtain⟨xs,hx⟩:=yk.1 hg;obtain⟨ys,ty,fz,h1⟩:=qi2 h.lay hx;rintro (⟨h2,_⟩|h2)
   .exact S.lay.2 g hg h2
   have:=qp h1;omega⟩
  le:=qsq F0 F'
  new:=fun p v e=>.inl e
  newm:=fun b xs e=>.inl e
  bel:=BelM.refl _ _
  hM:=fun j hj=>.inr hj
  tm:=fun i tv e=>by obtain⟨x,h1,h2⟩:=S.tm i tv e;exact⟨x,h1,h2.mono h.le⟩
  wf:=S.wf
  hp:=fun id k e=>by
   obtain⟨h1,h2,h3⟩:=S.hp id k e;have hq:=hN _ h2 h3 (hE id k e);refine⟨h1.move (hkeep _ h2 h3 (hE id k e)) h.le (fun p v hp he=>(h.new p v hp).resolve_right (by rw[he];exact fun hn=>hn hq)) (fun xs hx=>(h.newm _ xs hx).resolve_right fun hn=>hn hq),.inl ⟨h2,h3,hE id k e⟩,yn h3 h.size⟩
  nn:=S.nn
  z:=fun id k hi e=>S.z id k hi e
  nb:=S.nb
  inj:=S.inj
  ow:=fun j e c hj=>by
   obtain⟨v,h1,⟨m,xs,h2,h3⟩,h4⟩:=S.ow j e c hj
   have hg:∀g,v.ownBlock=some g->M g/\g<w.heap.size/\¬E g:=fun g hg=>by
    refine⟨(h3 g hg).1,(h2.lt g hg).2,fun he=>?_⟩;rcases h2.2 with hnil|⟨g',cap,cur,r1,r2,⟨fz,rf,r3⟩,r4⟩
    .rw[hnil.1] at hg;cases hg
    rw[r1] at hg;have:g'=g:=by simpa [Value.ownBlock] using hg
    subst this;exact hEc _ he _ _ _ r3
   refine⟨v,fun i hi=>by rw[hh j e c hj i hi];exact h1 i hi,⟨m,xs,⟨h2.1,?_⟩,fun g hg'=>?_⟩,h4⟩
   .rcases h2.2 with hnil|⟨g',cap,cur,r1,r2,⟨fz,rf,r3⟩,r4⟩
    .exact .inl hnil
    obtain⟨q1,q2,q3⟩:=hg g' (by rw[r1];simp[Value.ownBlock]);exact .inr ⟨g',cap,cur,r1,r2,⟨fz,rf,(hkeep _ q1 q2 q3).trans r3⟩,r4⟩
   obtain⟨q1,q2,q3⟩:=hg g hg';exact⟨.inl ⟨q1,q2,q3⟩,fun p u hp hpg=>(h3 g hg').2 p u ((h.new p u hp).resolve_right (by rw[hpg];exact fun hn=>hn (hN _ q1 q2 q3))) hpg⟩
  od:=fun j j' e c e' c' hne hj hj' i hi i' hi' v v' g e1 e2=>S.od j j' e c e' c' hne hj hj' i hi i' hi' v v' g (by rw[<- hh j e c hj i hi];exact e1) (by rw[<- hh j' e' c' hj' i' hi'];exact e2)
  oc:=S.oc }
end Go.Ab
namespace Go.Ab
open Go.RowKit
variable {P : Program}{T : Lay}
variable {w w' w'' : World}{M N K : Nat -> Prop}{F0 F F' F'' : Frz}{w0 : World}{ρ : Nat -> Nat}{a : Act}{st : St}
abbrev Gst:=Nat->(Nat->Prop)->Frz->World->Prop
def Stab(T:Lay)(J:Gst):Prop:=∀i N F w N' F' w',J i N F w->Mv T (fun q=>q<w.heap.size/\¬N q) F w F' w'->(∀q,N' q->(N q\/w.heap.size<=q)/\q<w'.heap.size)->(∀q,N q->N' q)->J i N' F' w'
structure Itr (P:Program) (T:Lay) (l:Nat) (xs:List V) (k:Nat) (J:Gst):Prop where
 st:Stab T J
 rd:∀i x v N F w,xs[i]?=some x->i<k->Rep F x v->Sees F w->Laid T F w->(∀q,N q->q<w.heap.size)->J i N F w->
  YieldAt (fc none) 0 P l #[v] w fun e w'=>∃F',e=.returned (.bool (decide (i+1<k)))/\Mv T N F w F' w'/\J (i+1) N F' w'
structure Cx (T:Lay) (J:Gst) (K:Nat->Prop) (Fs:Frz) (ws:World) (i:Nat) (M N:Nat->Prop) (F0:Frz) (w0:World):Prop where
 j:J i N F0 w0
 mn:∀q,M q->q<w0.heap.size->N q
 nb:∀q,N q->q<w0.heap.size
 kn:∀q,K q->N q/\¬M q
 mv:Mv T K Fs ws F0 w0
def OkK(rd:Option Nat)(K:Nat->Prop)(ws:World):Prop:=∀l,rd=some l->K l/\∃x,ws.heap[l]?=some (.loop x)
def nowN(N:Nat->Prop)(w0 w:World):Nat->Prop:=fun q=>N q\/(w0.heap.size<=q/\q<w.heap.size)
variable {J : Gst}{Fs : Frz}{ws : World}{i : Nat}{rd : Option Nat}{l k : Nat}{xs : List V}
theorem qcf(C:Cx T J K Fs ws i M N F0 w0):∀q,M q->q<w.heap.size->nowN N w0 w q:=fun q h1 h2=>by
 by_cases h:q<w0.heap.size
 .exact .inl (C.mn q h1 h)
 exact .inr ⟨omq,h2⟩
theorem qcg(C:Cx T J K Fs ws i M N F0 w0)(S:SimS P T M F0 w0 F ρ st a w):∀q,nowN N w0 w q->q<w.heap.size:=fun q hq=>by
 rcases hq with hq|hq
 .exact yn (C.nb q hq) S.bel.size
 exact hq.2
theorem Cx.ok(C:Cx T J K Fs ws i M N F0 w0)(h:OkK rd K ws):OkR rd M w0:=fun l e=>by
 obtain⟨h1,x,h2⟩:=h l e;exact⟨(C.kn l h1).2,x,(C.mv.block l h1).trans h2⟩
theorem Cx.step(C:Cx T J K Fs ws i M N F0 w0)(S:SimS P T M F0 w0 F ρ st a w)(hJ:Stab T J){i':Nat}(h:Mv T (nowN N w0 w) F w F' w')(hj:J i' (nowN N w0 w) F' w'):
  Cx T J K Fs ws i' (mvM M (fun _=>False) w w') (nowN N w0 w) (cutF F0 F') w'/\SimS P T (mvM M (fun _=>False) w w') (cutF F0 F') w' F' ρ st a w':=by
 have hk:∀q,K q->q<w0.heap.size:=fun q hq=>C.nb q (C.kn q hq).1;refine⟨⟨?_,fun q hq hlt=>?_,fun q hq=>yn (qcg C S q hq) h.size,fun q hq=>⟨.inl (C.kn q hq).1,?_⟩,?_⟩,Sim.move S (fun _ _ _ h=>h) (fun _ h=>h.elim) a.defers (.inr ⟨rfl,fun _ _ h=>h⟩) h fun q h1 h2 _=>qcf C q h1 h2⟩
 .exact hJ i' _ F' w' _ _ w' hj (Mv.cut (Mv.refl h.sees h.lay)) (fun q hq=>⟨.inl hq,yn (qcg C S q hq) h.size⟩) fun q hq=>hq
 .rcases hq with⟨h1,h2,_⟩|h1
  .exact qcf C q h1 h2
  omega
 .rintro (⟨h1,_⟩|h1)
  .exact(C.kn q hq).2 h1
  have:=hk q hq;have:=S.bel.size;have:=h.size;omega
 exact(C.mv.trans (Sim.mv S fun q hq=>(C.kn q hq).2)).trans ((h.mono fun q hq=>.inl (C.kn q hq).1).cut)
def PB(P:Program)(T:Lay)(J:Gst)(K:Nat->Prop)(Fs:Frz)(ws:World)(Q:AX->St->Nat->Prop)(e:AX)(a:Act)(w:World):Prop:=
 ∃i M N F0 w0 F ρ st,Cx T J K Fs ws i M N F0 w0/\SimS P T M F0 w0 F ρ st a w/\Q e st i
def PostI(P:Program)(T:Lay)(J:Gst)(K:Nat->Prop)(Fs:Frz)(ws:World)(Q:AX->St->Nat->Prop):Exit->Act->World->Prop
 |.normal,a,w=>PB P T J K Fs ws Q .nm a w
 |.exit id,a,w=>PB P T J K Fs ws Q (.ex id) a w
 |.ret,a,w=>PB P T J K Fs ws Q .rt a w
 |_,_,_=>False
def awI(P:Program)(T:Lay)(l:Nat)(xs:List V)(k:Nat)(rd:Option Nat)(c:Code)(st:St)(i:Nat)(Q:AX->St->Nat->Prop):Prop:=
 ∀(J:Gst),Itr P T l xs k J->∀(K:Nat->Prop) (Fs:Frz) (ws:World) (M N:Nat->Prop) (F0:Frz) (w0:World) (F:Frz) (ρ:Nat->Nat) (a:Act) (w:World),
  OkK rd K ws->Cx T J K Fs ws i M N F0 w0->SimS P T M F0 w0 F ρ st a w->wpG rd P c (PostI P T J K Fs ws Q) a w
variable {Q Q' : AX -> St -> Nat -> Prop}{x y c : Code}
def sqI(A:St->Nat->Prop)(Q:AX->St->Nat->Prop):AX->St->Nat->Prop
 |.nm,st,i=>A st i
 |e,st,i=>Q e st i
def blkI(id:Nat)(Q:AX->St->Nat->Prop):AX->St->Nat->Prop
 |.ex j,st,i=>if j=id then Q .nm st i else Q (.ex j) st i
 |e,st,i=>Q e st i
def qrb:Option V->Option Nat
 |some (.val (.func (.yield l) first cap))=>bif first.toList.isEmpty && cap.toList.isEmpty then some l else none
 |_=>none
def yv(o:Oper)(st:St):Option (Nat×V):=
 match o.op with
 |.call c=>match c.callee with
  |.value f=>match qrb (vOf (opv st.σ f)),vsOf (opv st.σ) c.args.toList with
   |some l,some [x]=>some (l,x)
   |_,_=>none
  |_=>none
 |_=>none
def YK(l:Nat)(xs:List V)(k:Nat)(st:St)(d:Option Tmp)(i l':Nat)(x:V)(K:St->Nat->Prop):Prop:=
 l'=l/\xs[i]?=some x/\i<k/\putK st d (.v (.val (.bool (decide (i+1<k))))) fun st'=>K st' (i+1)
def stepY(P:Program)(T:Lay)(l:Nat)(xs:List V)(k:Nat)(o:Oper)(st:St)(i:Nat)(K:St->Nat->Prop):Prop:=
 match yv o st with
 |some (l',x)=>YK l xs k st o.dst i l' x K
 |none=>dq P T o st fun st'=>K st' i
def awOI(P:Program)(T:Lay)(l:Nat)(xs:List V)(k:Nat)(ops:List Oper):List Oper->St->Nat->(St->Nat->Prop)->Prop
 |[],st,i,K=>K st i
 |o::rest,st,i,K=>match gdV ops o st.σ with
  |none=>False
  |some b=>gsel b (stepY P T l xs k o st i fun st' i'=>awOI P T l xs k ops rest st' i' K) (putK st o.dst .u fun st'=>awOI P T l xs k ops rest st' i K)
end Go.Ab
namespace Go.Ab
open Go.RowKit
variable {P : Program}{T : Lay}
variable {w w' w'' : World}{M N K E : Nat -> Prop}{F0 F F' F'' Fs : Frz}{w0 ws : World}{ρ : Nat -> Nat}{a aR : Act}{st : St}
variable {J : Gst}{i : Nat}{rd : Option Nat}{l k : Nat}{xs : List V}{rec : Nat -> Loop}{Sf : Nat -> St}{I : Nat -> Nat}
structure RJ (P:Program) (T:Lay) (J:Gst) (K:Nat->Prop) (Fs:Frz) (ws:World) (E:Nat->Prop) (l:Nat) (rec:Nat->Loop) (Sf:Nat->St) (I:Nat->Nat) (aR:Act) (j:Nat) (Nin:Nat->Prop) (F:Frz) (w:World):Prop where
 body:∃ ρ M N,SimS P T M F w F ρ (Sf j) aR w/\J (I j) N F w/\(∀q,M q->q<w.heap.size->N q/\¬Nin q)/\(∀q,N q->q<w.heap.size)/\(∀q,K q\/E q\/q=l->N q/\¬M q/\¬Nin q)/\∀q,Nin q->N q
 rc:w.heap[l]?=some (.loop (rec j))
 eo:∀q,E q->w.heap[q]?=some (.deferred (some []))
 mv:Mv T K Fs ws F w
end Go.Ab
namespace Go.Ab
open Go.RowKit
variable {P : Program}{T : Lay}{lo k i : Nat}{xs : List V}{rd : Option Nat}{st : St}{Q : AX -> St -> Nat -> Prop}
def qde(P:Program)(T:Lay)(lo:Nat)(xs:List V)(k:Nat)(l rest:List Oper)(K:St->Nat->Prop)(i:Nat):St->Prop:=fun st=>awOI P T lo xs k l rest st i K
def YKc(lo:Nat)(xs:List V)(k:Nat)(st:St)(d:Option Tmp)(i l':Nat)(x:V)(K:Nat->St->Prop):Prop:=
 l'=lo/\xs[i]?=some x/\i<k/\putK st d (.v (.val (.bool (decide (i+1<k))))) (K (i+1))
def sqkI(P:Program)(T:Lay)(lo:Nat)(xs:List V)(k:Nat)(rd:Option Nat)(y:Code)(Q:AX->St->Nat->Prop):AX->St->Nat->Prop
 |.nm,st,i=>awI P T lo xs k rd y st i Q
 |e,st,i=>Q e st i
@[congr] theorem awOI_cg{l rest : List Oper}{st st' : St}{K : St -> Nat -> Prop}(h : st = st'): awOI P T lo xs k l rest st i K = awOI P T lo xs k l rest st' i K := by rw [h]
@[congr] theorem awI_cg{c : Code}{st st' : St}(h : st = st'): awI P T lo xs k rd c st i Q = awI P T lo xs k rd c st' i Q := by rw [h]
@[congr] theorem qv1{l rest : List Oper}{K : St -> Nat -> Prop}: qde P T lo xs k l rest K = qde P T lo xs k l rest K := rfl
@[congr] theorem sqkI_cg{y : Code}: sqkI P T lo xs k rd y Q = sqkI P T lo xs k rd y Q := rfl
@[congr] theorem sqI_cg{A : St -> Nat -> Prop}: sqI A Q = sqI A Q := rfl
@[congr] theorem blkI_cg{id : Nat}: blkI id Q = blkI id Q := rfl
def endI(k:Nat)(xs:List V):AX->St->Nat->Prop:=fun e _ i=>(∀id,e≠ .ex id)/\i=min k xs.length
def fpI(P:Program)(rs:List ResultVar)(r:V):AX->St->Nat->Prop:=fun e st _=>sl P rs r e st
def lpkI{α:Type}(kp:Kp)(R:α->Prop)(m:α->Nat)(Sf:α->St)(ix:α->Nat)(y:α):St->Nat->Prop:=fun st' i'=>∃z',R z'/\m z'<m y/\i'=ix z'/\br kp st'=some (Sf z')
structure Rng where
 t0:List (Nat×TV)
 h:Nat->List (Nat×Blk)
 o:Nat->List (TypeId×List Nat)
 I:Nat->Nat
def rdI(g:Rng)(n kk:Nat)(cc:AX)(j:Nat):AX->St->Nat->Prop:=fun e st2 i2=>i2=g.I (j+1)/\(∃kp2 t2,br kp2 st2=some ⟨n,t2,g.h (j+1),g.o (j+1)⟩)/\e=if j+1<kk then .nm else cc
def rbI(P:Program)(T:Lay)(lo:Nat)(xs:List V)(k lr:Nat)(body:Code)(g:Rng)(n kk:Nat)(cc:AX)(j:Nat):AX->St->Prop:=fun e st1=>e=.nm/\awI P T lo xs k (some lr) body st1 (g.I j) (rdI g n kk cc j)
@[congr] theorem rbI_cg{lr : Nat}{body : Code}{g : Rng}{n kk : Nat}{cc : AX}{j : Nat}{e : AX}: rbI P T lo xs k lr body g n kk cc j e st = rbI P T lo xs k lr body g n kk cc j e st := rfl
@[congr] theorem rdI_cg{g : Rng}{n kk : Nat}{cc : AX}{j : Nat}{e : AX}: rdI g n kk cc j e st i = rdI g n kk cc j e st i := rfl
@[congr] theorem lpkI_cg{α : Type}{kp : Kp}{R : α -> Prop}{m : α -> Nat}{Sf : α -> St}{ix : α -> Nat}{y : α}: lpkI kp R m Sf ix y st i = lpkI kp R m Sf ix y st i := rfl
@[congr] theorem YKc_cg{d : Option Tmp}{l' : Nat}{x : V}{K : Nat -> St -> Prop}: YKc lo xs k st d i l' x K = YKc lo xs k st d i l' x K := rfl
@[congr] theorem endI_cg{e : AX}: endI k xs e st i = endI k xs e st i := rfl
@[congr] theorem fpI_cg{rs : List ResultVar}{r : V}{e : AX}: fpI P rs r e st i = fpI P rs r e st i := rfl
end Go.Ab
