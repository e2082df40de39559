/- A part of this claim. -/
import Derived.Test.YtcmpmdgdchmojaaGreatDoorBaC
import Derived.Sort.Grow
import Derived.RangeFuncNested
namespace Go.Ab
open Go.RowKit
variable {P : Program} {T : Lay}
theorem WkB.self (cs:List V) (nm:Option Nat) (kk:Option (TypeId×Nat×Nat)):WkB (.var cs nm kk) (.var cs nm kk):=by
 have:=WkB.var (cs0:=cs) (cs:=cs) (ex:=[]) (nm:=nm) (nm':=nm) (kk:=kk) (kk':=kk) (Wks.refl cs) (.inr rfl) (.inr rfl)
 rwa [List.append_nil] at this
theorem finS {rs:List ResultVar} {bs':List (Nat×Blk)} {r r':TV} {st:St} (hB:∀x∈bs',∃b,look x.1 st.h=some b/\WkB b x.2) (h3:WkT r' r) (h2:resT P st rs=some r':=by rfl):fpostS P rs bs' [] r .rt st:=⟨hB,trivial,r',h2,h3⟩
theorem finS1 {rs:List ResultVar} {i:Nat} {cs:List V} {nm:Option Nat} {kk:Option (TypeId×Nat×Nat)} {r r':TV} {st:St} (h3:WkT r' r) (hB:look i st.h=some (.var cs nm kk):=by rfl) (h2:resT P st rs=some r':=by rfl):fpostS P rs [(i,.var cs nm kk)] [] r .rt st:=
 finS (fun x hx=>by simp only[List.mem_singleton] at hx; subst hx; exact ⟨_,hB,WkB.self cs nm kk⟩) h3 h2
end Go.Ab
namespace Go.Ab
open Go.RowKit Go.Proofs
variable {P : Program} {T : Lay}
def noMk:List Oper->Bool
 | []=>true
 | o::r=>(match o.op with
  | .makeFunc .. => false
  | _=>true) && noMk r
theorem aw_regN {id:Nat} {ops:Array Oper} {l:List Oper} {st:St} {Q:AX->St->Prop} (hl:ops.toList=l) (_hn:noMk l=true) (h:awO P T l l st (Q .nm)):aw P T (.region id ops false) st Q:=aw_reg hl h
theorem runMk {p q r:Prop} (hr:r) (h:q) (e:r->q->p:=by
    intro hr h
    repeat (first
      | with_reducible refine appO_k ?_
      | with_reducible refine appC_k ?_
      | refine aw_seq ?_
      | refine aw_block ?_
      | refine aw_skip ?_
      | refine aw_ret ?_
      | refine aw_exit ?_
      | with_reducible refine And.intro (by clear h; (first | omega | (simp only[List.length_append,List.length_cons,List.length_nil,List.length_drop,List.length_take,List.length_map]; omega))) ?_
      | refine aw_regN rfl rfl ?_
      | refine aw_drw3 (by rfl) rfl (by kernel_rfl) (by (simp only[takeE_cons,takeE_nil,isEnd,Bool.false_eq_true,eq_self,if_false,if_true]) <;> exact rfl) (by (simp only[dropE_cons,dropE_nil,isEnd,Bool.false_eq_true,eq_self,if_false,if_true]) <;> exact rfl) (by rfl) (by (try simp only[frzR,frzC,frz1,frzB,opv_tmp,σ_mk,look_cons',look_nil,Nat.reduceEqDiff,↓reduceIte]) <;> exact rfl) (by rfl) ?_
      | refine aw_drw (by rfl) rfl (by kernel_rfl) (by rfl) (by (try simp only[frzR,frzC,frz1,frzB,opv_tmp,σ_mk,look_cons',look_nil,Nat.reduceEqDiff,↓reduceIte]) <;> exact rfl) ?_
      | (refine aw_cond_t ?_ ?_
         · (simp only[opv_tmp,σ_mk,look_cons',Nat.reduceEqDiff,↓reduceIte,vOf_v]; done))
      | (refine aw_cond_f ?_ ?_
         · (simp only[opv_tmp,σ_mk,look_cons',Nat.reduceEqDiff,↓reduceIte,vOf_v]; done))
      | (simp (config:= {maxSteps:=1000000,implicitDefEqProofs:=false}) (disch:=(first | omega | (simp only[List.length_append,List.length_cons,List.length_nil,List.length_drop,List.length_take,List.length_map]; omega))) only[↓awO_cons,awO_nil,↓awD_cons,awD_nil,↓awE_cons,awE_nil,stepE,↓awC_cons,awC_nil,effD,stepC,↓gsel_true,↓gsel_false,stepO,stpOL,stepD,gdV,movK,putK,retK,retD,retM,evK,awOk_app,awDk_app,awEk_app,awCk_app,awk_app,
          opv_tmp,opv_func,opv_int,opv_bool,opv_nil,opv_nili,opv_tup,opv_str,opv_mapnil,opv_fnil,vOf_v,vOf_p,vOf_s,vOf_m,nu_v,nu_p,nu_m,nu_s,tvsOf,cutS_in,cutS_no,idxS_in,cutV_nn,cutV_ns,cutV_sn,cutV_ss,clearK,argsT,re,σ_mk,args0,unT_nil,unT_v,unT_u,unT_p,unT_m,unT_s,remj_nil,remj_cons,unH_nil,unH_cons,remo_nil,addo_nil,delo_nil,remo_cons,addo_cons,delo_cons,flt_nil,flt_cons,ctn_nil,ctn_cons,ownOf,owner,appK,appL,appS,appX,
          look_cons',look_nil,seth,setAt,ldK,ldO,stO,remBs,hasC_nil,hasC_cons,any_nil',any_cons',tmpOf_t,tmpOf_c,tmpOf_f,vN_v,vN_p,vN_m,nmOf_var,nmOf_map,nmOf_con,mref_m,mref_v,findN,findK_nil,findK_v,findK_m,findK_c,findK_vs,findK_ms,mapN,mapB_m,agg_cell,agg_agg,plc,pid,pof,mpc,setbs,setb,lk,bk,backO,remK,lentO,Blk.wn,Blk.nm,nam,Nat.reduceDiv,Nat.reduceMod,Nat.reduceEqDiff,Nat.reduceBEq,Nat.reduceBNe,↓reduceIte,Nat.reduceAdd,Nat.reduceMul,Nat.reduceLT,Nat.reduceLeDiff,Nat.reduceSub,and_t,Bool.or_true,Bool.or_false,Bool.true_or,Bool.false_or,Bool.and_true,Bool.true_and,Bool.and_false,Bool.false_and,Option.isSome_none,Bool.false_eq_true,reduceCtorEq,
          sqk_nm,sqk_ex,sqk_rt,sq_nm,sq_ex,sq_rt,blk_nm,blk_rt,blk_same,blk_other,
          evq,evb,behind,memV,ld_cell,ld_agg,takeN,fld_eq,sl_eq,arr_eq,arr_no,arr_str,str_eq,bool_eq,ifc_eq,int_eq,und_eq,map_eq,zero_eq,zsome_eq,zok_eq,appok_eq,places_eq,zv_eq,eqt_eq,mapE,eqCells,eqC,nilK,keyT_str,keyT_int,okVal_s,okVal_i,okVal_b,ofVal_s0,ofVal_i,ofVal_b,Option.getD_none,Option.getD_some,cells_cell,cells_agg,info_cell,info_agg,
          idxV,bytV,minV,binV,intOp,strOp,eqOp,convV,capV,capsV,lenV,sliceV,optV,vsOf,partsV,bsV,fillV,oneV,V.one,V.cells,okNot,upsert,keyEq,frzR,frzC,frz1,frzB,
          List.drop_succ_cons,List.drop_zero,List.take_succ_cons,List.take_zero,List.length_cons,List.length_nil,List.nil_append,List.cons_append,List.append_nil,Option.map_some,Option.map_none,Option.bind_some,Option.bind_none,Option.some.injEq,Option.isSome_some,
          List.getElem?_cons_zero,List.getElem?_cons_succ,List.getElem?_map,List.length_map,nat_nn,toNat_cast,b_ft,b_tf,nn_t,ite_le_t,toNat_s,toNat_p,one_int,one_bool,one_nil,one_nili,wrap8_in,tdiv_10,tmod_10,ten_ne,List.size_toArray,eq_self,if_false,if_true,Int.reduceToNat,Int.reduceLE,Int.reduceLT,Int.reduceEq,Int.reduceNeg,Nat.mul_one,Nat.one_mul,Nat.zero_add,Nat.add_zero,wrap_in,dec_lt_t,dec_lt_f,dec_le_t,dec_le_f,dec_eq_t,dec_eq_f,decide_true,decide_false,Bool.not_true,Bool.not_false,cond_true,cond_false,beq_self_eq_true,hr]))
    exact h):p:=e hr h
end Go.Ab
namespace Go.Ab
open Go.RowKit
variable {P : Program} {T : Lay}
inductive Otree where
 | done
 | one (i:Nat) (r:Otree)
 | alt (i:Nat) (r more:Otree)
 | nil
 | sort (r:Otree)
def isPure (o:Oper):Bool:=o.guard.isNone && match o.op with
 | .fieldAddr .. => true
 | .move _=>true
 | _=>false
def Otree.has (j:Nat):Otree->Bool
 | .alt i _ more=>i == j || more.has j
 | _=>false
def Otree.dep:Otree->Nat
 | .done=>0
 | .one _ r=>r.dep+1
 | .alt _ r more=>max (r.dep+1) more.dep
 | .nil=>0
 | .sort r=>r.dep
def okT (ops:Array Oper):Bool->Otree->Array Bool->Bool
 | b,.done,li=> !b && (Region.ready .any ops li).isEmpty
 | b,.one i r,li=> !b && (Region.ready .any ops li).contains i && Region.free .any ops li i && ((ops[i]?).map isPure == some true) && okT ops false r (li.setIfInBounds i true)
 | b,.alt i r more,li=>(b || ((Region.ready .any ops li).contains i && (Region.ready .any ops li).all fun j=>j == i || more.has j)) && okT ops false r (li.setIfInBounds i true) && okT ops true more li
 | b,.nil,_=>b
 | b,.sort r,li=> !b && okT ops false r li
def plainOps (ops:Array Oper):Bool:=ops.all fun o=>match o.op with
 | .defer _=>false
 | .select .. => false
 | _=>true
def okTree (ops:Array Oper) (t:Otree):Bool:=plainOps ops && okT ops false t (Array.replicate ops.size false) && Nat.ble t.dep ops.size
def stepI (P:Program) (T:Lay) (l:List Oper) (i:Nat) (st:St) (K:St->Prop):Prop:=match l[i]? with
 | none=>False
 | some o=>match gdV l o st.σ with
  | none=>False
  | some b=>gsel b (stpOL P T o st K) (putK st o.dst .u K)
def nrmT:List Oper->List (Nat×TV)->List (Nat×TV)
 | [],t=>t
 | o::l,t=>match o.dst with
  | none=>nrmT l t
  | some d=>match look d t with
   | some tv=>nrmT l ((d,tv)::remj d t)
   | none=>nrmT l t
def awT (P:Program) (T:Lay) (l:List Oper) (K:St->Prop):Otree->St->Prop
 | .done,st=>K { st with t:=nrmT l st.t }
 | .one i r,st=>stepI P T l i st (awT P T l K r)
 | .alt i r more,st=>stepI P T l i st (awT P T l K r)/\awT P T l K more st
 | .nil,_=>True
 | .sort r,st=>awT P T l K r { st with t:=nrmT l st.t }
theorem remj_other {j i:Nat} : ∀ {l:List (Nat×TV)},i≠j->look i (remj j l)=look i l
 | [],_=>rfl
 | (k,x)::r,h=>by
  rw[remj_cons];split
  ·rename_i hk;rw[remj_other h,look_cons,if_neg (by omega)]
  ·rw[look_cons,look_cons,remj_other h]
theorem nrmT_look:∀(l:List Oper) (t:List (Nat×TV)) (i:Nat),look i (nrmT l t)=look i t
 | [],_,_=>rfl
 | o::l,t,i=>by
  unfold nrmT;split
  ·exact nrmT_look l t i
  ·rename_i d _;split
   ·rename_i tv htv;rw[nrmT_look l,look_cons];split
    ·rename_i e; rw[e,htv]
    ·rename_i e; rw[remj_other e]
   ·exact nrmT_look l t i
section
variable {ops : Array Oper} {rd : Option Nat} {w0 w : World} {M : Nat -> Prop} {F0 F : Frz} {ρ : Nat -> Nat} {a : Act} {st : St} {Q : Exit -> Act -> World -> Prop}
theorem opG_put {oj:Oper} {d:Option Tmp} {v:Value} (hnd:∀c,oj.op≠ .defer c) (hsj:∀cs b,oj.op≠ .select cs b) (h1:∀d',d=some d'->d' ∉ oj.looksAt ops) (h2:∀d',d=some d'->oj.dst≠some d') (hQ:∀c a w,¬Q (.panic c) a w)
  {I:Act->Prop} (hI:∀u,I (a.put oj.dst u)) (hI':∀dd,I ({ a with defers:=dd::a.defers }.put oj.dst undef)) {K:Act->World->Prop} (h:opG rd P oj (a.put d v) w K Q):opG rd P oj a w (fun a' w'=>I a'/\K (a'.put d v) w') Q:=by
 refine ⟨fun _ _=>trivial,?_⟩;have h:=h.2;rw[Oper.semAt_eq _ _ _ hnd,execOp_put (ops:=ops) oj hsj a d v h1] at h;rw[Oper.semAt_eq _ _ _ hnd];generalize (execOp a.eval oj).run P w=r at *;cases r with
 | ok x w'=>
  cases x <;> simp only[Oper.uponIn] at h ⊢
  case value u=>exact ⟨hI u,by rw[<- Act.put_comm a v u h2]; exact h⟩
  case skip=>exact ⟨hI _,by rw[<- Act.put_comm a v undef h2]; exact h⟩
  case defer dd=>exact ⟨hI' dd,by rw[<- Act.put_comm _ v undef h2,<- Act.put_defers]; exact h⟩
  case enter f args=>
   refine ⟨h.1,CallsIn.mono h.2 fun e w'' he=> ?_⟩;cases e with
   | returned u=>exact ⟨hI u,by rw[<- Act.put_comm a v u h2]; exact he⟩
   | panicked c=>exact (hQ _ _ _ he).elim
   | outgrown=>exact he
  case row row args=>exact ⟨h.1,RowsIn.mono h.2 fun u w'' he=>⟨hI u,by rw[<- Act.put_comm a v u h2]; exact he⟩⟩
  case round l f tmps assign body=>
   refine ⟨h.1,RoundIn.mono h.2 fun e w'' he=> ?_⟩;cases e with
   | returned u=>exact ⟨hI u,by rw[<- Act.put_comm a v u h2]; exact he⟩
   | panicked c=>exact (hQ _ _ _ he).elim
   | outgrown=>exact he
 | halt x w'=>
  cases x <;> simp only[Oper.uponIn] at h ⊢
  case panic u=>exact (hQ _ _ _ h).elim
theorem plain_spec (h:plainOps ops=true) {j:Nat} {o:Oper} (ho:ops[j]? = some o):(∀c,o.op≠ .defer c)/\∀cs b,o.op≠ .select cs b:=by
 have:=Array.all_eq_true_iff_forall_mem.1 h o (Array.mem_of_getElem? ho);refine ⟨fun c e=> ?_,fun cs b e=> ?_⟩
 ·rw[e] at this; cases this
 ·rw[e] at this; cases this
theorem any_first {i:Nat} {oi:Oper} {v:Value} (hi:ops[i]? = some oi) (hg:oi.guard=none) (hpl:plainOps ops=true) (hQ:∀c a w,¬Q (.panic c) a w):
  ∀(fuel:Nat) (li:Array Bool) (a:Act) (w:World),(∀j oj,ops[j]? = some oj->j≠i->li.getD j true=false->(∀e∈oj.after,Region.binds .any e=true->e.on≠i)->oi.apart ops oj=true)->
   i∈Region.ready .any ops li->(∀w,(execOp a.eval oi).run P w= .ok (.value v) w)->
   wpAnyIn (fc rd) 0 P .any ops Q fuel (li.setIfInBounds i true) (a.put oi.dst v) w->wpAnyIn (fc rd) 0 P .any ops Q (fuel+1) li a w:=by
 have self:∀ {K:Act->World->Prop} {a:Act} {w:World},(∀w,(execOp a.eval oi).run P w= .ok (.value v) w)->K (a.put oi.dst v) w->wpOpIn (fc rd) 0 P ops Q i K a w:=fun {K a w} hy hK=>by
  unfold wpOpIn;simp only[hi];have hw:Region.wanted oi (yielded ops a.tmps)=true:=by unfold Region.wanted; rw[hg]
  rw[hw,if_pos rfl];exact opG_value (hy w) hK
 intro fuel
 induction fuel with
 | zero=>
  intro li a w _ hr hy H;refine ⟨fun h=>(by rw[h] at hr; cases hr),fun j hj=> ?_⟩;by_cases hji:j=i
  ·subst hji; exact self hy H
  ·have:=ready_mono hj hji;rw[H.1] at this;cases this
 | succ fuel ih=>
  intro li a w hfree hr hy H;refine ⟨fun h=>(by rw[h] at hr; cases hr),fun j hj=> ?_⟩;by_cases hji:j=i
  ·subst hji; exact self hy H
  ·have h1:=H.2 j (ready_mono hj hji);obtain ⟨hjun,oj,hoj,hall⟩:=mem_ready.1 hj
   have hnot:∀e∈oj.after,Region.binds .any e=true->e.on≠i:=fun e he hb heq=>by
    have g1:=hall e he hb;have g0:=(mem_ready.1 hr).1;rw[heq] at g1;rcases Nat.lt_or_ge i li.size with h' | h'
    ·simp[h'] at g0 g1; rw[g0] at g1; cases g1
    ·simp[Array.getElem?_eq_none h'] at g1
   obtain ⟨p1,p2,p3⟩:=Oper.apart_spec (hfree j oj hoj hji hjun hnot);obtain ⟨q1,q2⟩:=plain_spec hpl hoj;have hsi:=(plain_spec hpl hi).2
   have hfree':∀k ok,ops[k]? = some ok->k≠i->(li.setIfInBounds j true).getD k true=false->(∀e∈ok.after,Region.binds .any e=true->e.on≠i)->oi.apart ops ok=true:=fun k ok hk hki hun hno=>by
    refine hfree k ok hk hki ?_ hno;by_cases hjk:j=k
    ·subst hjk; exact hjun
    ·rw[getD_set_ne true hjk] at hun; exact hun
   have next:∀a' w',((∀w,(execOp a'.eval oi).run P w= .ok (.value v) w)/\wpAnyIn (fc rd) 0 P .any ops Q fuel ((li.setIfInBounds i true).setIfInBounds j true) (a'.put oi.dst v) w')->wpAnyIn (fc rd) 0 P .any ops Q (fuel+1) (li.setIfInBounds j true) a' w':=fun a' w' h3=>
    ih (li.setIfInBounds j true) a' w' hfree' (ready_mono hr (Ne.symm hji)) h3.1 (by rw[Array.setIfInBounds_comm _ _ hji]; exact h3.2)
   refine wpOpIn_mono next ?_;unfold wpOpIn at h1 ⊢;simp only[hoj] at h1 ⊢;rw[wanted_put (ops:=ops) oj a oi.dst v p1] at h1;split
   ·rename_i hw;rw[if_pos hw] at h1
    exact opG_put (ops:=ops) q1 q2 p1 p2 hQ (I:=fun a'=>∀w,(execOp a'.eval oi).run P w= .ok (.value v) w) (fun u=>by rw[execOp_put (ops:=ops) oi hsi a oj.dst u p3]; exact hy)
     (fun dd=>by rw[execOp_put (ops:=ops) oi hsi { a with defers:=dd::a.defers } oj.dst undef p3]; exact hy) h1
   ·rename_i hw;rw[if_neg hw] at h1;refine ⟨fun _ _=>trivial,?_,?_⟩
    ·rw[execOp_put (ops:=ops) oi hsi a oj.dst undef p3]; exact hy
    ·rw[<- Act.put_comm a v undef p2]; exact h1.2
theorem pure_all {o:Oper} {K:St->Prop} (S:SimS P T M F0 w0 F ρ st a w) (hp:isPure o=true) (h:stepO P T o st K):∃v,∀w,(execOp a.eval o).run P w= .ok (.value v) w:=by
 simp only[isPure,Bool.and_eq_true] at hp;obtain ⟨-,hp⟩:=hp;split at hp
 ·rename_i s x f ho;have h':evK P o st K:=by unfold stepO at h; rw[ho] at h; exact h
  unfold evK at h';rw[ho] at h';have G:=Sim.good S;cases hf:fldV P s f with
  | none=>
   exfalso;simp only[evq,hf,evb] at h'
  | some q=>
   obtain ⟨off,ft⟩:=q
   have hx:∃ad,a.eval x= .pointer (some ad):=by
    cases hxv:opv st.σ x with
    | none=>exfalso; simp only[evq,hf,hxv,evb] at h'
    | some tv=>
     cases tv with
     | v y=>
      cases y with
      | row cs=>
       obtain ⟨ad,g,hv,-⟩:=rep_row_inv (show Rep F (.row cs) (a.eval x) from G.opr x _ hxv);exact ⟨ad,hv⟩
      | _=>exfalso; simp only[evq,hf,hxv,evb] at h'
     | p id o'=>exact ⟨_,show a.eval x=_ from G.opr x _ hxv⟩
     | _=>exfalso; simp only[evq,hf,hxv,evb] at h'
   obtain ⟨ad,had⟩:=hx;refine ⟨.pointer (some (ad.add off)),fun w=> ?_⟩;have:=fieldAt_run (P:=P) hf ad w;unfold execOp;rw[ho];simp only[had];simp[this,Result.andThen]
 ·rename_i x ho;exact ⟨a.eval x,fun w=>by unfold execOp; rw[ho]; rfl⟩
 ·cases hp
theorem ready_op {i:Nat} {li:Array Bool} (h:i∈Region.ready .any ops li):∃o,ops[i]? = some o:=by
 obtain ⟨-,o,ho,-⟩:=mem_ready.1 h;exact ⟨o,ho⟩
theorem stpOL_pure {o:Oper} {st:St} {K:St->Prop} (h:isPure o=true) (hk:stpOL P T o st K):stepO P T o st K:=by
 unfold stpOL at hk;unfold isPure at h;split at hk
 ·rename_i ho;rw[ho] at h;simp at h
 ·exact hk
theorem stepI_sound {i:Nat} {o:Oper} {K:St->Prop} {next:Act->World->Prop} (hi:ops[i]? = some o) (S:SimS P T M F0 w0 F ρ st a w) (h:stepI P T ops.toList i st K)
  (k:∀F' ρ' st' a' w',SimS P T M F0 w0 F' ρ' st' a' w'->K st'->next a' w'):wpOpIn (fc rd) 0 P ops Q i next a w:=by
 unfold stepI at h;have hi':ops.toList[i]? = some o:=by simpa using hi
 rw[hi'] at h;simp only at h;cases hg:gdV ops.toList o st.σ with
 | none=>rw[hg] at h; exact h.elim
 | some b=>
  rw[hg] at h;unfold wpOpIn;simp only[hi];rw[Sim.wanted S hg];cases b with
  | true=>
   simp only[gsel_true] at h;rw[if_pos rfl];exact stpOL_sound S h k
  | false=>
   simp only[gsel_false] at h;rw[if_neg (by simp)];obtain ⟨st',S',hK⟩:=putK_sound (tv:= .u) (x:=undef) S rfl trivial h;exact ⟨fun _ _=>trivial,k F ρ st' _ w S' hK⟩
theorem tree_sound {K:St->Prop} (hpl:plainOps ops=true) (hQ:∀c a w,¬Q (.panic c) a w) (hK:∀F' ρ' st' a' w',SimS P T M F0 w0 F' ρ' st' a' w'->K st'->Q .normal a' w'):∀(t:Otree) (b:Bool) (li:Array Bool) (fuel:Nat) (F:Frz) (ρ:Nat->Nat) (st:St) (a:Act) (w:World),
  okT ops b t li=true->t.dep<=fuel->SimS P T M F0 w0 F ρ st a w->awT P T ops.toList K t st->
  (b=false->wpAnyIn (fc rd) 0 P .any ops Q fuel li a w)/\(∀i,t.has i=true->i∈Region.ready .any ops li->∀f',fuel=f'+1->wpOpIn (fc rd) 0 P ops Q i (wpAnyIn (fc rd) 0 P .any ops Q f' (li.setIfInBounds i true)) a w)
 | .done,b,li,fuel,F,ρ,st,a,w,ho,hd,S,h=>by
  simp only[okT,Bool.and_eq_true,Bool.not_eq_true'] at ho;have hr:Region.ready .any ops li=[]:=List.isEmpty_iff.1 ho.2;refine ⟨fun _=> ?_,fun i hi=>(by cases hi)⟩
  have hq:Q .normal a w:=hK F ρ { st with t:=nrmT ops.toList st.t } a w (by
   have e:(St.mk st.n (nrmT ops.toList st.t) st.h st.o).σ=st.σ:=funext fun i=>nrmT_look _ _ _
   show Sim P T M F0 w0 F ρ st.n (St.mk st.n (nrmT ops.toList st.t) st.h st.o).σ st.h st.o a w
   rw[e]; exact S) h
  cases fuel with
  | zero=>exact ⟨hr,hq⟩
  | succ n=>exact ⟨fun _=>hq,by rw[hr]; simp⟩
 | .sort r,b,li,fuel,F,ρ,st,a,w,ho,hd,S,h=>by
  simp only[okT,Bool.and_eq_true,Bool.not_eq_true'] at ho
  have S':SimS P T M F0 w0 F ρ { st with t:=nrmT ops.toList st.t } a w:=by
   have e:(St.mk st.n (nrmT ops.toList st.t) st.h st.o).σ=st.σ:=funext fun i=>nrmT_look _ _ _
   show Sim P T M F0 w0 F ρ st.n (St.mk st.n (nrmT ops.toList st.t) st.h st.o).σ st.h st.o a w
   rw[e]; exact S
  exact ⟨fun _=>(tree_sound hpl hQ hK r false li fuel F ρ _ a w ho.2 hd S' h).1 rfl,fun i hi=>by cases hi⟩
 | .nil,b,li,fuel,F,ρ,st,a,w,ho,hd,S,h=>by
  simp only[okT] at ho;subst ho;exact ⟨fun e=>(by cases e),fun i hi=>(by cases hi)⟩
 | .one i r,b,li,fuel,F,ρ,st,a,w,ho,hd,S,h=>by
  simp only[okT,Bool.and_eq_true,Bool.not_eq_true'] at ho;obtain ⟨⟨⟨⟨h1,h2⟩,h3⟩,h4⟩,h5⟩:=ho;simp only[Otree.dep] at hd;refine ⟨fun _=> ?_,fun i hi=>(by cases hi)⟩;obtain ⟨f',rfl⟩:∃f',fuel=f'+1:=⟨fuel-1,by omega⟩;have hri:i∈Region.ready .any ops li:=by simpa using h2
  obtain ⟨o,hoi⟩:=ready_op hri;rw[hoi] at h4;have hp:isPure o=true:=by simpa using h4
  have hg:o.guard=none:=by
   simp only[isPure,Bool.and_eq_true] at hp;exact Option.isNone_iff_eq_none.1 hp.1
  simp only[awT] at h
  have hs:stepO P T o st (awT P T ops.toList K r):=by
   unfold stepI at h;have hi':ops.toList[i]? = some o:=by simpa using hoi
   rw[hi'] at h;simp only[gdV,hg,gsel_true] at h;exact stpOL_pure hp h
  obtain ⟨v,hv⟩:=pure_all S hp hs;refine any_first (P:=P) hoi hg hpl hQ f' li a w (Region.free_spec hoi h3) hri hv ?_;have:=stepO_sound (rd:=rd) (Q:=Q) (next:=wpAnyIn (fc rd) 0 P .any ops Q f' (li.setIfInBounds i true)) S hs fun F' ρ' st' a' w' S' hK'=>(tree_sound hpl hQ hK r false _ f' F' ρ' st' a' w' h5 (by omega) S' hK').1 rfl;have h6:=this.2;rw[Oper.semAt_eq _ _ _ (plain_spec hpl hoi).1,hv w] at h6;exact h6
 | .alt i r more,b,li,fuel,F,ρ,st,a,w,ho,hd,S,h=>by
  simp only[okT,Bool.and_eq_true] at ho;obtain ⟨⟨h1,h2⟩,h3⟩:=ho;simp only[Otree.dep] at hd;simp only[awT] at h;obtain ⟨hs,hm⟩:=h
  have key:∀j,(Otree.alt i r more).has j=true->j∈Region.ready .any ops li->∀f',fuel=f'+1->wpOpIn (fc rd) 0 P ops Q j (wpAnyIn (fc rd) 0 P .any ops Q f' (li.setIfInBounds j true)) a w:=fun j hj hr f' hf=>by
   simp only[Otree.has,Bool.or_eq_true,beq_iff_eq] at hj;rcases hj with rfl | hj
   ·obtain ⟨o,hoi⟩:=ready_op hr;exact stepI_sound hoi S hs fun F' ρ' st' a' w' S' hK'=>(tree_sound hpl hQ hK r false _ f' F' ρ' st' a' w' h2 (by omega) S' hK').1 rfl
   ·exact (tree_sound hpl hQ hK more true li fuel F ρ st a w h3 (by omega) S hm).2 j hj hr f' hf
  refine ⟨fun hb=> ?_,key⟩;subst hb;simp only[Bool.false_or,Bool.and_eq_true,List.all_eq_true] at h1;obtain ⟨h0,h1⟩:=h1;obtain ⟨f',rfl⟩:∃f',fuel=f'+1:=⟨fuel-1,by omega⟩;refine ⟨fun h=> ?_,fun j hj=> ?_⟩
  ·rw[h] at h0; cases h0
  ·exact key j (by
    have:=h1 j hj;simp only[Bool.or_eq_true,beq_iff_eq] at this;simp only[Otree.has,Bool.or_eq_true,beq_iff_eq]
    exact this.imp Eq.symm id) hj f' rfl
end
theorem aw_tree [hm:Mixed P] {id:Nat} {ops:Array Oper} {l:List Oper} {st:St} {Q:AX->St->Prop} (t:Otree) (k:awT P T l (Q .nm) t st) (hl:ops.toList=l:=by rfl) (hB:okTree ops t=true:=by kernel_rfl):aw P T (.region id ops true) st Q:=by
 subst hl;refine awL_sem ?_;intro rd M F0 w0 F ρ a w Q' id S hQ;simp only[okTree,Bool.and_eq_true] at hB;obtain ⟨⟨h1,h2⟩,h3⟩:=hB;have hx:Ext F w F w.drew:=(Ext.refl S.sees).drew;have:=(tree_sound (rd:=rd) (Q:=fun e a w=>match e with | .normal=>∃F' ρ' st',SimS P T M F0 w0 F' ρ' st' a w/\Q .nm st' | _=>False) h1 (fun _ _ _ h=>h) (fun F' ρ' st' a' w' S' hK=>⟨F',ρ',st',S',hK⟩) t false _ ops.size F ρ st a w.drew h2 (Nat.le_of_ble_eq_true h3) (Sim.ext S hx) k).1 rfl;refine wpIn_mono (wpIn_region_any hm.eq this) ?_;intro e a' w' hq;cases e with
 | normal=>obtain ⟨F',ρ',st',S',hK⟩:=hq; exact hQ F' ρ' st' a' w' S' hK
 | _=>exact hq.elim
def awTk (P:Program) (T:Lay) (l:List Oper) (K:St->Prop) (r:Otree):St->Prop:=fun st=>awT P T l K r st
theorem awT_done {l:List Oper} {K:St->Prop} {st:St} : awT P T l K .done st=K { st with t:=nrmT l st.t } := rfl
theorem awT_one {l:List Oper} {K:St->Prop} {st:St} {i:Nat} {r:Otree} : awT P T l K (.one i r) st=stepI P T l i st (awTk P T l K r):=rfl
theorem awT_alt {l:List Oper} {K:St->Prop} {st:St} {i:Nat} {r more:Otree} : awT P T l K (.alt i r more) st=(stepI P T l i st (awTk P T l K r)/\awT P T l K more st):=rfl
theorem awT_sort {l:List Oper} {K:St->Prop} {st:St} {r:Otree} : awT P T l K (.sort r) st=awTk P T l K r { st with t:=nrmT l st.t } := rfl
theorem awT_nil {l:List Oper} {K:St->Prop} {st:St} : awT P T l K .nil st=True:=rfl
theorem awTk_app {l:List Oper} {K:St->Prop} {st:St} {r:Otree} : awTk P T l K r st=awT P T l K r st:=rfl
@[congr] theorem awT_cg {l : List Oper} {K : St -> Prop} {r : Otree} {st st' : St} (h : st = st') : awT P T l K r st = awT P T l K r st' := by rw [h]
@[congr] theorem awTk_cg {l : List Oper} {K : St -> Prop} {r : Otree} : awTk P T l K r = awTk P T l K r := rfl
theorem runTree {p q r:Prop} (hr:r) (h:q) (e:r->q->p:=by
    intro hr h
    repeat (first
      | with_reducible refine appO_k ?_
      | with_reducible refine appC_k ?_
      | refine aw_seq ?_
      | refine aw_block ?_
      | refine aw_skip ?_
      | refine aw_ret ?_
      | refine aw_exit ?_
      | with_reducible refine And.intro (by clear h; (first | omega | (simp only[List.length_append,List.length_cons,List.length_nil,List.length_drop,List.length_take,List.length_map]; omega))) ?_
      | refine aw_reg rfl ?_
      | refine aw_drw3 (by rfl) rfl (by kernel_rfl) (by (simp only[takeE_cons,takeE_nil,isEnd,Bool.false_eq_true,eq_self,if_false,if_true]) <;> exact rfl) (by (simp only[dropE_cons,dropE_nil,isEnd,Bool.false_eq_true,eq_self,if_false,if_true]) <;> exact rfl) (by rfl) (by (try simp only[frzR,frzC,frz1,frzB,opv_tmp,σ_mk,look_cons',look_nil,Nat.reduceEqDiff,↓reduceIte]) <;> exact rfl) (by rfl) ?_
      | refine aw_drw (by rfl) rfl (by kernel_rfl) (by rfl) (by (try simp only[frzR,frzC,frz1,frzB,opv_tmp,σ_mk,look_cons',look_nil,Nat.reduceEqDiff,↓reduceIte]) <;> exact rfl) ?_
      | (refine aw_cond_t ?_ ?_
         · (simp only[opv_tmp,σ_mk,look_cons',Nat.reduceEqDiff,↓reduceIte,vOf_v]; done))
      | (refine aw_cond_f ?_ ?_
         · (simp only[opv_tmp,σ_mk,look_cons',Nat.reduceEqDiff,↓reduceIte,vOf_v]; done))
      | (simp (config:= {maxSteps:=1000000,implicitDefEqProofs:=false}) (disch:=(first | omega | (simp only[List.length_append,List.length_cons,List.length_nil,List.length_drop,List.length_take,List.length_map]; omega))) only[↓awT_done,↓awT_one,↓awT_alt,↓awT_sort,awT_nil,awTk_app,stepI,nrmT,and_self,and_true,↓awO_cons,awO_nil,↓awD_cons,awD_nil,↓awE_cons,awE_nil,stepE,↓awC_cons,awC_nil,effD,stepC,↓gsel_true,↓gsel_false,stepO,stpOL,stepD,gdV,movK,putK,retK,retD,retM,evK,awOk_app,awDk_app,awEk_app,awCk_app,awk_app,
          opv_tmp,opv_func,opv_int,opv_bool,opv_nil,opv_nili,opv_tup,opv_str,opv_mapnil,opv_fnil,vOf_v,vOf_p,vOf_s,vOf_m,nu_v,nu_p,nu_m,nu_s,tvsOf,cutS_in,cutS_no,idxS_in,cutV_nn,cutV_ns,cutV_sn,cutV_ss,clearK,argsT,re,σ_mk,args0,unT_nil,unT_v,unT_u,unT_p,unT_m,unT_s,remj_nil,remj_cons,unH_nil,unH_cons,remo_nil,addo_nil,delo_nil,remo_cons,addo_cons,delo_cons,flt_nil,flt_cons,ctn_nil,ctn_cons,ownOf,owner,appK,appL,appS,appX,
          look_cons',look_nil,seth,setAt,ldK,ldO,stO,remBs,hasC_nil,hasC_cons,any_nil',any_cons',tmpOf_t,tmpOf_c,tmpOf_f,vN_v,vN_p,vN_m,nmOf_var,nmOf_map,nmOf_con,mref_m,mref_v,findN,findK_nil,findK_v,findK_m,findK_c,findK_vs,findK_ms,mapN,mapB_m,agg_cell,agg_agg,plc,pid,pof,mpc,setbs,setb,lk,bk,backO,remK,lentO,Blk.wn,Blk.nm,nam,Nat.reduceDiv,Nat.reduceMod,Nat.reduceEqDiff,Nat.reduceBEq,Nat.reduceBNe,↓reduceIte,Nat.reduceAdd,Nat.reduceMul,Nat.reduceLT,Nat.reduceLeDiff,Nat.reduceSub,and_t,Bool.or_true,Bool.or_false,Bool.true_or,Bool.false_or,Bool.and_true,Bool.true_and,Bool.and_false,Bool.false_and,Option.isSome_none,Bool.false_eq_true,reduceCtorEq,
          sqk_nm,sqk_ex,sqk_rt,sq_nm,sq_ex,sq_rt,blk_nm,blk_rt,blk_same,blk_other,
          evq,evb,behind,memV,ld_cell,ld_agg,takeN,fld_eq,sl_eq,arr_eq,arr_no,arr_str,str_eq,bool_eq,ifc_eq,int_eq,und_eq,map_eq,zero_eq,zsome_eq,zok_eq,appok_eq,places_eq,zv_eq,eqt_eq,mapE,eqCells,eqC,nilK,keyT_str,keyT_int,okVal_s,okVal_i,okVal_b,ofVal_s0,ofVal_i,ofVal_b,Option.getD_none,Option.getD_some,cells_cell,cells_agg,info_cell,info_agg,
          idxV,bytV,minV,binV,intOp,strOp,eqOp,convV,capV,capsV,lenV,sliceV,optV,vsOf,partsV,bsV,fillV,oneV,V.one,V.cells,okNot,upsert,keyEq,frzR,frzC,frz1,frzB,
          List.drop_succ_cons,List.drop_zero,List.take_succ_cons,List.take_zero,List.length_cons,List.length_nil,List.nil_append,List.cons_append,List.append_nil,Option.map_some,Option.map_none,Option.bind_some,Option.bind_none,Option.some.injEq,Option.isSome_some,
          List.getElem?_cons_zero,List.getElem?_cons_succ,List.getElem?_map,List.length_map,nat_nn,toNat_cast,b_ft,b_tf,nn_t,ite_le_t,toNat_s,toNat_p,one_int,one_bool,one_nil,one_nili,wrap8_in,tdiv_10,tmod_10,ten_ne,List.size_toArray,eq_self,if_false,if_true,Int.reduceToNat,Int.reduceLE,Int.reduceLT,Int.reduceEq,Int.reduceNeg,Nat.mul_one,Nat.one_mul,Nat.zero_add,Nat.add_zero,wrap_in,dec_lt_t,dec_lt_f,dec_le_t,dec_le_f,dec_eq_t,dec_eq_f,decide_true,decide_false,Bool.not_true,Bool.not_false,cond_true,cond_false,beq_self_eq_true,hr]))
    exact h):p:=e hr h
end Go.Ab
namespace Go.Ab
open Go.RowKit
variable {P : Program} {T : Lay}
inductive Gnode where
 | fin
 | one (i k:Nat)
 | alt (l:List (Nat×Nat))
 | nam (id k:Nat)
structure Gent where
 li:List Bool
 d:Nat
 g:Gnode
def awGs (P:Program) (T:Lay) (l:List Oper) (R:Nat->St->Prop):List (Nat×Nat)->St->Prop
 | [],_=>True
 | (i,k)::r,st=>stepI P T l i st (R k)/\awGs P T l R r st
def awG (P:Program) (T:Lay) (l:List Oper) (K:St->Prop):List Gent->Nat->St->Prop
 | [],_,_=>False
 | _::r,k+1,st=>awG P T l K r k st
 | e::r,0,st=>match e.g with
  | .fin=>K { st with t:=nrmT l st.t }
  | .one i k=>stepI P T l i { st with t:=nrmT l st.t } (awG P T l K r k)
  | .alt js=>awGs P T l (awG P T l K r) js { st with t:=nrmT l st.t }
  | .nam id k=>∀b,awG P T l K r k { st with h:=nam id b st.h }
def Gent.to (r:List Gent) (e:Gent) (i k:Nat):Bool:=match r[k]? with
 | some e'=>e'.li == e.li.set i true && Nat.blt e'.d e.d
 | none=>false
def okG (ops:Array Oper):List Gent->Bool
 | []=>true
 | e::r=>okG ops r && match e.g with
  | .fin=>(Region.ready .any ops e.li.toArray).isEmpty
  | .one i k=>(Region.ready .any ops e.li.toArray).contains i && Region.free .any ops e.li.toArray i && ((ops[i]?).map isPure == some true) && e.to r i k
  | .nam _ k=>match r[k]? with
   | some e'=>e'.li == e.li && Nat.ble e'.d e.d
   | none=>false
  | .alt js=> !(Region.ready .any ops e.li.toArray).isEmpty && (Region.ready .any ops e.li.toArray).all (fun j=>js.any fun x=>x.1 == j) && js.all fun x=>e.to r x.1 x.2
def okGraph (ops:Array Oper) (t:List Gent):Bool:=plainOps ops && okG ops t && match t with
 | e::_=>e.li == List.replicate ops.size false && Nat.ble e.d ops.size
 | []=>false
theorem awGs_mem {l:List Oper} {R:Nat->St->Prop} {st:St} {x:Nat×Nat} : ∀ {js:List (Nat×Nat)},awGs P T l R js st->x∈js->stepI P T l x.1 st (R x.2)
 | y::r,h,hx=>by
  rcases List.mem_cons.1 hx with rfl | hx
  ·exact h.1
  ·exact awGs_mem h.2 hx
theorem to_spec {r:List Gent} {e:Gent} {i k:Nat} (h:e.to r i k=true):∃e',r[k]? = some e'/\e'.li=e.li.set i true/\e'.d<e.d:=by
 unfold Gent.to at h;split at h
 ·rename_i e' he;simp only[Bool.and_eq_true] at h;exact ⟨e',he,eq_of_beq h.1,Nat.le_of_ble_eq_true h.2⟩
 ·cases h
section
variable {ops : Array Oper} {rd : Option Nat} {w0 w : World} {M : Nat -> Prop} {F0 F : Frz} {ρ : Nat -> Nat} {a : Act} {st : St} {Q : Exit -> Act -> World -> Prop}
theorem sim_nrm {l:List Oper} (S:SimS P T M F0 w0 F ρ st a w):SimS P T M F0 w0 F ρ { st with t:=nrmT l st.t } a w:=by
 have e:(St.mk st.n (nrmT l st.t) st.h st.o).σ=st.σ:=funext fun i=>nrmT_look _ _ _
 show Sim P T M F0 w0 F ρ st.n (St.mk st.n (nrmT l st.t) st.h st.o).σ st.h st.o a w
 rw[e]; exact S
theorem graph_sound {K:St->Prop} (hpl:plainOps ops=true) (hQ:∀c a w,¬Q (.panic c) a w) (hK:∀F' ρ' st' a' w',SimS P T M F0 w0 F' ρ' st' a' w'->K st'->Q .normal a' w'):∀(t:List Gent) (k:Nat) (e:Gent) (fuel:Nat) (F:Frz) (ρ:Nat->Nat) (st:St) (a:Act) (w:World),
  okG ops t=true->t[k]? = some e->e.d<=fuel->SimS P T M F0 w0 F ρ st a w->awG P T ops.toList K t k st->wpAnyIn (fc rd) 0 P .any ops Q fuel e.li.toArray a w
 | [],k,e,fuel,F,ρ,st,a,w,ho,he,hd,S,h=>by cases he
 | x::r,k+1,e,fuel,F,ρ,st,a,w,ho,he,hd,S,h=>by
  simp only[okG,Bool.and_eq_true] at ho;exact graph_sound hpl hQ hK r k e fuel F ρ st a w ho.1 (by simpa using he) hd S h
 | x::r,0,e,fuel,F,ρ,st,a,w,ho,he,hd,S,h=>by
  simp only[List.getElem?_cons_zero,Option.some.injEq] at he;subst he;simp only[okG,Bool.and_eq_true] at ho;obtain ⟨ho,hx⟩:=ho;have S':=sim_nrm (l:=ops.toList) S;unfold awG at h;cases hg:x.g with
  | fin=>
   rw[hg] at hx h;have hr:Region.ready .any ops x.li.toArray=[]:=List.isEmpty_iff.1 hx;have hq:Q .normal a w:=hK F ρ _ a w S' h;cases fuel with
   | zero=>exact ⟨hr,hq⟩
   | succ n=>exact ⟨fun _=>hq,by rw[hr]; simp⟩
  | one i k=>
   rw[hg] at hx h;simp only[Bool.and_eq_true] at hx;obtain ⟨⟨⟨h2,h3⟩,h4⟩,h5⟩:=hx;obtain ⟨e',he',hli,hlt⟩:=to_spec h5;obtain ⟨f',rfl⟩:∃f',fuel=f'+1:=⟨fuel-1,by omega⟩;have hri:i∈Region.ready .any ops x.li.toArray:=by simpa using h2
   obtain ⟨o,hoi⟩:=ready_op hri;rw[hoi] at h4;have hp:isPure o=true:=by simpa using h4
   have hgd:o.guard=none:=by
    simp only[isPure,Bool.and_eq_true] at hp;exact Option.isNone_iff_eq_none.1 hp.1
   have hs:stepO P T o { st with t:=nrmT ops.toList st.t } (awG P T ops.toList K r k):=by
    simp only[stepI] at h;have hi':ops.toList[i]? = some o:=by simpa using hoi
    rw[hi'] at h;simp only[gdV,hgd,gsel_true] at h;exact stpOL_pure hp h
   obtain ⟨v,hv⟩:=pure_all S' hp hs;refine any_first (P:=P) hoi hgd hpl hQ f' _ a w (Region.free_spec hoi h3) hri hv ?_
   have:=stepO_sound (rd:=rd) (Q:=Q) (next:=wpAnyIn (fc rd) 0 P .any ops Q f' (x.li.toArray.setIfInBounds i true)) S' hs fun F' ρ' st' a' w' S2 hK'=>by
    have:=graph_sound hpl hQ hK r k e' f' F' ρ' st' a' w' ho he' (by omega) S2 hK';rw[hli,<- List.setIfInBounds_toArray] at this;exact this
   have h6:=this.2;rw[Oper.semAt_eq _ _ _ (plain_spec hpl hoi).1,hv w] at h6;exact h6
  | nam id k=>
   rw[hg] at hx h;simp only at hx h;split at hx
   ·rename_i e' he';simp only[Bool.and_eq_true] at hx;have h3:e'.d<=x.d:=Nat.le_of_ble_eq_true hx.2;have:=graph_sound hpl hQ hK r k e' fuel F ρ _ a w ho he' (by omega) (Sim.nam S id) (h (ρ id));rw[eq_of_beq hx.1] at this;exact this
   ·cases hx
  | alt js=>
   rw[hg] at hx h;simp only[Bool.and_eq_true,List.all_eq_true,Bool.not_eq_true'] at hx;obtain ⟨⟨h0,h1⟩,h2⟩:=hx
   have hdp:x.d≠0:=fun e0=>by
    cases hr:Region.ready .any ops x.li.toArray with
    | nil=>rw[hr] at h0; cases h0
    | cons j l=>
     obtain ⟨y,hy,-⟩:=List.any_eq_true.1 (h1 j (by rw[hr]; exact .head _));obtain ⟨e',-,-,hlt⟩:=to_spec (h2 y hy);omega
   obtain ⟨f',rfl⟩:∃f',fuel=f'+1:=⟨fuel-1,by omega⟩;refine ⟨fun hr=> ?_,fun j hj=> ?_⟩
   ·rw[hr] at h0; cases h0
   ·obtain ⟨y,hy,hyj⟩:=List.any_eq_true.1 (h1 j hj);have hyj:=eq_of_beq hyj;obtain ⟨e',he',hli,hlt⟩:=to_spec (h2 y hy);have hs:=awGs_mem h hy;rw[hyj] at hs hli;obtain ⟨o,hoi⟩:=ready_op hj;refine stepI_sound hoi S' hs fun F' ρ' st' a' w' S2 hK'=> ?_;have:=graph_sound hpl hQ hK r y.2 e' f' F' ρ' st' a' w' ho he' (by omega) S2 hK';rw[hli,<- List.setIfInBounds_toArray] at this;exact this
end
theorem aw_graph [hm:Mixed P] {id:Nat} {ops:Array Oper} {l:List Oper} {st:St} {Q:AX->St->Prop} (t:List Gent) (k:awG P T l (Q .nm) t 0 st) (hl:ops.toList=l:=by rfl) (hB:okGraph ops t=true:=by kernel_rfl):aw P T (.region id ops true) st Q:=by
 subst hl;refine awL_sem ?_;intro rd M F0 w0 F ρ a w Q' id S hQ;simp only[okGraph,Bool.and_eq_true] at hB;obtain ⟨⟨h1,h2⟩,h3⟩:=hB
 match t,h2,h3,k with
 | e::r,h2,h3,k=>
  simp only[Bool.and_eq_true] at h3;obtain ⟨h3,h4⟩:=h3;have hx:Ext F w F w.drew:=(Ext.refl S.sees).drew;have:=graph_sound (rd:=rd) (Q:=fun e a w=>match e with | .normal=>∃F' ρ' st',SimS P T M F0 w0 F' ρ' st' a w/\Q .nm st' | _=>False) h1 (fun _ _ _ h=>h) (fun F' ρ' st' a' w' S' hK=>⟨F',ρ',st',S',hK⟩) (e::r) 0 e ops.size F ρ st a w.drew h2 rfl (Nat.le_of_ble_eq_true h4) (Sim.ext S hx) k;rw[eq_of_beq h3] at this;have hz:(List.replicate ops.size false).toArray=Array.replicate ops.size false:=by simp
  rw[hz] at this;refine wpIn_mono (wpIn_region_any hm.eq this) ?_;intro e a' w' hq;cases e with
  | normal=>obtain ⟨F',ρ',st',S',hK⟩:=hq; exact hQ F' ρ' st' a' w' S' hK
  | _=>exact hq.elim
def awGk (P:Program) (T:Lay) (l:List Oper) (K:St->Prop) (r:List Gent) (k:Nat):St->Prop:=fun st=>awG P T l K r k st
theorem awGk_app {l:List Oper} {K:St->Prop} {st:St} {r:List Gent} {k:Nat} : awGk P T l K r k st=awG P T l K r k st:=rfl
theorem awG_fin {l:List Oper} {K:St->Prop} {st:St} {li:List Bool} {d:Nat} {r:List Gent} : awG P T l K (⟨li,d,.fin⟩::r) 0 st=K { st with t:=nrmT l st.t } := rfl
theorem awG_one {l:List Oper} {K:St->Prop} {st:St} {li:List Bool} {d:Nat} {r:List Gent} {i k:Nat} : awG P T l K (⟨li,d,.one i k⟩::r) 0 st=stepI P T l i { st with t:=nrmT l st.t } (awGk P T l K r k):=rfl
theorem awG_nam {l:List Oper} {K:St->Prop} {st:St} {li:List Bool} {d:Nat} {r:List Gent} {id k:Nat} : awG P T l K (⟨li,d,.nam id k⟩::r) 0 st=∀b,awG P T l K r k { st with h:=nam id b st.h } := rfl
theorem awG_next {l:List Oper} {K:St->Prop} {st:St} {e:Gent} {r:List Gent} {k:Nat} : awG P T l K (e::r) (k+1) st=awG P T l K r k st:=rfl
def awGsk (P:Program) (T:Lay) (l:List Oper) (K:St->Prop) (r:List Gent) (js:List (Nat×Nat)):St->Prop:=awGs P T l (awG P T l K r) js
theorem awG_alt {l:List Oper} {K:St->Prop} {st:St} {li:List Bool} {d:Nat} {r:List Gent} {js:List (Nat×Nat)} : awG P T l K (⟨li,d,.alt js⟩::r) 0 st=awGsk P T l K r js { st with t:=nrmT l st.t } := rfl
theorem awGs_nil {l:List Oper} {K:St->Prop} {st:St} {r:List Gent} : awGsk P T l K r [] st=True:=rfl
theorem awGs_cons {l:List Oper} {K:St->Prop} {st:St} {r:List Gent} {i k:Nat} {js:List (Nat×Nat)} : awGsk P T l K r ((i,k)::js) st=(stepI P T l i st (awGk P T l K r k)/\awGsk P T l K r js st):=rfl
@[congr] theorem awG_cg {l : List Oper} {K : St -> Prop} {r : List Gent} {k : Nat} {st st' : St} (h : st = st') : awG P T l K r k st = awG P T l K r k st' := by rw [h]
@[congr] theorem awGsk_cg {l : List Oper} {K : St -> Prop} {r : List Gent} {js : List (Nat × Nat)} {st st' : St} (h : st = st') : awGsk P T l K r js st = awGsk P T l K r js st' := by rw [h]
@[congr] theorem awGk_cg {l : List Oper} {K : St -> Prop} {r : List Gent} {k : Nat} : awGk P T l K r k = awGk P T l K r k := rfl
theorem aw_keep {c:Code} {st st':St} {Q:AX->St->Prop} (k:Kp) (hk:keepS k st=some st') (h:aw P T c st' Q):aw P T c st Q:=aw_as (fun _ _ _ _ _ _ _ S=>keepS_sound hk S) h
theorem graph_to {α:Type} {l:List Oper} {K:St->Prop} {t:List Gent} {st:St} (good:α->Prop) (k:Kp) (S:α->St) (hc:∀st st',keepS k st=some st'->K st'->K st) (h:∀x,good x->K (S x))
  (hm:∀K':St->Prop,(∀st x,good x->keepS k st=some (S x)->K' st)->awG P T l K' t 0 st):awG P T l K t 0 st:=hm K fun st x hg hk=>hc st _ hk (h x hg)
def mid (k:Kp) (φ:Prop) (S:St) (Q:AX->St->Prop):AX->St->Prop
 | .nm,st=>φ/\keepS k st=some S
 | e,st=>Q e st
theorem mid_rt (k:Kp) (φ:Prop) (S:St) (Q:AX->St->Prop) (st:St):mid k φ S Q .rt st=Q .rt st:=rfl
theorem aw_mid {x y:Code} {st:St} {Q:AX->St->Prop} (k:Kp) (φ:Prop) (S:St) (h1:aw P T x st (mid k φ S Q)) (h2:φ->aw P T y S Q):aw P T (.seq x y) st Q:=awL_seq (awL_mono h1 fun e st' h=>by
 cases e with
 | nm=>exact aw_keep k h.2 (h2 h.1)
 | ex id=>exact h
 | rt=>exact h)
theorem midK {k : Kp} {φ : Prop} {S : St} {Q : AX -> St -> Prop} {st : St} (h : φ) (hk : keepS k st = some S := by
      first
      | rfl
      | (simp only[keepS,ownNils,keepT,keepH,keepO,look_cons',look_nil,Nat.reduceEqDiff,↓reduceIte,ownOf,ctn_cons,ctn_nil,Nat.reduceBEq,List.all_nil,remo_nil,remo_cons,Bool.or_false,Bool.or_true,beq_self_eq_true,okK,List.all_cons,ownNils,Bool.true_or,Bool.and_self,cond_true,decide_true,Nat.reduceLT]; rfl)):mid k φ S Q .nm st:=⟨h,hk⟩
theorem leafK {α : Type} {good : α -> Prop} {k : Kp} {S : α -> St} {K' : St -> Prop} {st : St} (hK : ∀ st x,good x -> keepS k st = some (S x) -> K' st) (x : α) (hx : good x) (hk : keepS k st = some (S x) := by
      first
      | rfl
      | (simp only[keepS,ownNils,keepT,keepH,keepO,look_cons',look_nil,Nat.reduceEqDiff,↓reduceIte,ownOf,ctn_cons,ctn_nil,Nat.reduceBEq,List.all_nil,remo_nil,remo_cons,Bool.or_false,Bool.or_true,beq_self_eq_true,okK,List.all_cons,ownNils,Bool.true_or,Bool.and_self,cond_true,decide_true,Nat.reduceLT]; rfl)):K' st:=hK st x hx hk
abbrev tt:Bool:=true
abbrev ff:Bool:=false
theorem runGraph {p q r:Prop} (hr:r) (h:q) (e:r->q->p:=by
    intro hr h
    repeat (first
      | with_reducible refine appO_k ?_
      | with_reducible refine appC_k ?_
      | refine aw_seq ?_
      | refine aw_block ?_
      | refine aw_skip ?_
      | refine aw_ret ?_
      | refine aw_exit ?_
      | with_reducible refine And.intro (by clear h; (first | omega | (simp only[List.length_append,List.length_cons,List.length_nil,List.length_drop,List.length_take,List.length_map]; omega))) ?_
      | refine aw_reg rfl ?_
      | refine aw_drw3 (by rfl) rfl (by kernel_rfl) (by (simp only[takeE_cons,takeE_nil,isEnd,Bool.false_eq_true,eq_self,if_false,if_true]) <;> exact rfl) (by (simp only[dropE_cons,dropE_nil,isEnd,Bool.false_eq_true,eq_self,if_false,if_true]) <;> exact rfl) (by rfl) (by (try simp only[frzR,frzC,frz1,frzB,opv_tmp,σ_mk,look_cons',look_nil,Nat.reduceEqDiff,↓reduceIte]) <;> exact rfl) (by rfl) ?_
      | refine aw_drw (by rfl) rfl (by kernel_rfl) (by rfl) (by (try simp only[frzR,frzC,frz1,frzB,opv_tmp,σ_mk,look_cons',look_nil,Nat.reduceEqDiff,↓reduceIte]) <;> exact rfl) ?_
      | (refine aw_cond_t ?_ ?_
         · (simp only[opv_tmp,σ_mk,look_cons',Nat.reduceEqDiff,↓reduceIte,vOf_v]; done))
      | (refine aw_cond_f ?_ ?_
         · (simp only[opv_tmp,σ_mk,look_cons',Nat.reduceEqDiff,↓reduceIte,vOf_v]; done))
      | (simp (config:= {maxSteps:=1000000,implicitDefEqProofs:=false}) (disch:=(first | omega | (simp only[List.length_append,List.length_cons,List.length_nil,List.length_drop,List.length_take,List.length_map]; omega))) only[↓awG_fin,↓awG_one,↓awG_alt,↓awG_next,↓awG_nam,↓awGs_nil,↓awGs_cons,awGk_app,stepI,nrmT,and_self,and_true,↓awO_cons,awO_nil,↓awD_cons,awD_nil,↓awE_cons,awE_nil,stepE,↓awC_cons,awC_nil,effD,stepC,↓gsel_true,↓gsel_false,stepO,stpOL,stepD,gdV,movK,putK,retK,retD,retM,evK,awOk_app,awDk_app,awEk_app,awCk_app,awk_app,
          opv_tmp,opv_func,opv_int,opv_bool,opv_nil,opv_nili,opv_tup,opv_str,opv_mapnil,opv_fnil,vOf_v,vOf_p,vOf_s,vOf_m,nu_v,nu_p,nu_m,nu_s,tvsOf,cutS_in,cutS_no,idxS_in,cutV_nn,cutV_ns,cutV_sn,cutV_ss,clearK,argsT,re,σ_mk,args0,unT_nil,unT_v,unT_u,unT_p,unT_m,unT_s,remj_nil,remj_cons,unH_nil,unH_cons,remo_nil,addo_nil,delo_nil,remo_cons,addo_cons,delo_cons,flt_nil,flt_cons,ctn_nil,ctn_cons,ownOf,owner,appK,appL,appS,appX,
          look_cons',look_nil,seth,setAt,ldK,ldO,stO,remBs,hasC_nil,hasC_cons,any_nil',any_cons',tmpOf_t,tmpOf_c,tmpOf_f,vN_v,vN_p,vN_m,nmOf_var,nmOf_map,nmOf_con,mref_m,mref_v,findN,findK_nil,findK_v,findK_m,findK_c,findK_vs,findK_ms,mapN,mapB_m,agg_cell,agg_agg,plc,pid,pof,mpc,setbs,setb,lk,bk,backO,remK,lentO,Blk.wn,Blk.nm,nam,Nat.reduceDiv,Nat.reduceMod,Nat.reduceEqDiff,Nat.reduceBEq,Nat.reduceBNe,↓reduceIte,Nat.reduceAdd,Nat.reduceMul,Nat.reduceLT,Nat.reduceLeDiff,Nat.reduceSub,and_t,Bool.or_true,Bool.or_false,Bool.true_or,Bool.false_or,Bool.and_true,Bool.true_and,Bool.and_false,Bool.false_and,Option.isSome_none,Bool.false_eq_true,reduceCtorEq,
          sqk_nm,sqk_ex,sqk_rt,sq_nm,sq_ex,sq_rt,blk_nm,blk_rt,blk_same,blk_other,
          evq,evb,behind,memV,ld_cell,ld_agg,takeN,fld_eq,sl_eq,arr_eq,arr_no,arr_str,str_eq,bool_eq,ifc_eq,int_eq,und_eq,map_eq,zero_eq,zsome_eq,zok_eq,appok_eq,places_eq,zv_eq,eqt_eq,mapE,eqCells,eqC,nilK,keyT_str,keyT_int,okVal_s,okVal_i,okVal_b,ofVal_s0,ofVal_i,ofVal_b,Option.getD_none,Option.getD_some,cells_cell,cells_agg,info_cell,info_agg,
          idxV,bytV,minV,binV,intOp,strOp,eqOp,convV,capV,capsV,lenV,sliceV,optV,vsOf,partsV,bsV,fillV,oneV,V.one,V.cells,okNot,frzR,frzC,frz1,frzB,
          List.drop_succ_cons,List.drop_zero,List.take_succ_cons,List.take_zero,List.length_cons,List.length_nil,List.nil_append,List.cons_append,List.append_nil,Option.map_some,Option.map_none,Option.bind_some,Option.bind_none,Option.some.injEq,Option.isSome_some,
          List.getElem?_cons_zero,List.getElem?_cons_succ,List.getElem?_map,List.length_map,nat_nn,toNat_cast,b_ft,b_tf,nn_t,ite_le_t,toNat_s,toNat_p,one_int,one_bool,one_nil,one_nili,wrap8_in,tdiv_10,tmod_10,ten_ne,List.size_toArray,eq_self,if_false,if_true,Int.reduceToNat,Int.reduceLE,Int.reduceLT,Int.reduceEq,Int.reduceNeg,Nat.mul_one,Nat.one_mul,Nat.zero_add,Nat.add_zero,wrap_in,dec_lt_t,dec_lt_f,dec_le_t,dec_le_f,dec_eq_t,dec_eq_f,decide_true,decide_false,Bool.not_true,Bool.not_false,cond_true,cond_false,beq_self_eq_true,hr]))
    exact h):p:=e hr h
end Go.Ab
namespace Go.Ab
open Go.RowKit
variable {P : Program} {T : Lay}
end Go.Ab
namespace Go.Ab
open Go.RowKit
variable {P : Program} {T : Lay}
end Go.Ab
namespace Go.Ab
open Go.RowKit
variable {P : Program} {T : Lay} {rd : Option Nat}
variable {w w' w'' : World} {M N K : Nat -> Prop} {F0 F F' F'' : Frz} {w0 : World} {ρ : Nat -> Nat} {a : Act} {st : St}
structure Mv (T:Lay) (N:Nat->Prop) (F:Frz) (w:World) (F':Frz) (w':World):Prop where
 le:Le F F'
 sees:Sees F' w'
 lay:Laid T F' w'
 os:w'.os=w.os
 tape:w'.tape=w.tape
 output:w'.output=w.output
 size:w.heap.size<=w'.heap.size
 block:∀q,N q->w'.heap[q]? = w.heap[q]?
 new:∀p v,F' p=some v->F p=some v\/¬N p.block
 newm:∀b xs,F'.m b=some xs->F.m b=some xs\/¬N b
theorem Mv.refl (hs:Sees F w) (hl:Laid T F w):Mv T N F w F w:=⟨Le.refl F,hs,hl,rfl,rfl,rfl,Nat.le_refl _,fun _ _=>rfl,fun _ _ h=> .inl h,fun _ _ h=> .inl h⟩
theorem Mv.trans (h:Mv T N F w F' w') (k:Mv T N F' w' F'' w''):Mv T N F w F'' w'':=
  ⟨h.le.trans k.le,k.sees,k.lay,k.os.trans h.os,k.tape.trans h.tape,k.output.trans h.output,Nat.le_trans h.size k.size,fun q hq=>(k.block q hq).trans (h.block q hq),
   fun p v e=>(k.new p v e).elim (h.new p v) .inr,fun b xs e=>(k.newm b xs e).elim (h.newm b xs) .inr⟩
theorem Mv.mono {N':Nat->Prop} (h:Mv T N F w F' w') (hn:∀q,N' q->N q):Mv T N' F w F' w':=
  { h with
    block:=fun q hq=>h.block q (hn q hq)
    new:=fun p v e=>(h.new p v e).imp id fun hh hq=>hh (hn _ hq)
    newm:=fun b xs e=>(h.newm b xs e).imp id fun hh hq=>hh (hn _ hq) }
theorem laid_block {g:Nat} {xs:Array Value} (hl:Laid T F w) (e:T.r g=some xs):∃ys ty fz,w.heap[g]? = some (.cells ys ty fz):=by
 obtain ⟨⟨ty,fz,h⟩,_⟩:=hl.2 g xs e;exact ⟨_,ty,fz,h⟩
theorem Mv.put {l:Nat} {o o':Obj} (hs:Sees F w) (hl:Laid T F w) (h:w.heap[l]? = some o) (hc:o.isCells=false) (hm:∀xs ck,o≠ .map xs ck) (hc':o'.isCells=false) (hN:¬N l):Mv T N F w F (w.putObj l o'):=by
 have hlt:=heap_lt h;have hoth:∀q,q≠l->(w.putObj l o').heap[q]? = w.heap[q]? := fun q hq=>World.putObj_heap_other hq;have hsame:(w.putObj l o').heap[l]? = some o':=World.putObj_heap_same hlt
 have hcell:∀p,(w.putObj l o').cell? p=w.cell? p:=fun p=>by
  by_cases hp:p.block=l
  ·rw[cell_obj h hc p hp,cell_obj hsame hc' p hp]
  ·exact World.cell?_of_block (hoth _ hp)
 refine ⟨Le.refl F,⟨fun p v e=>by rw[hcell]; exact hs p v e,fun b xs e=> ?_⟩,⟨hl.1,fun g xs e=> ?_⟩,rfl,rfl,rfl,by simp,fun q hq=>hoth q fun e=>hN (e▸hq),fun _ _ e=> .inl e,fun _ _ e=> .inl e⟩
 ·obtain ⟨ck,hb⟩:=hs.m b xs e;exact ⟨ck,(hoth b fun he=>by rw[he,h] at hb; exact hm _ _ (Option.some.inj hb)).trans hb⟩
 ·obtain ⟨⟨ty,fz,h1⟩,h2⟩:=hl.2 g xs e;exact ⟨⟨ty,fz,(hoth g fun he=>by rw[he,h] at h1; cases h1; cases hc).trans h1⟩,h2⟩
theorem Mv.alloc (hs:Sees F w) (hl:Laid T F w) (o:Obj) (hN:∀q,N q->q<w.heap.size):Mv T N F w F (w.alloc o):=by
 have hk:∀q,q<w.heap.size->(w.alloc o).heap[q]? = w.heap[q]? := fun q hq=>Below.heap_alloc w o q hq;refine ⟨Le.refl F,⟨fun p v e=> ?_,fun b xs e=> ?_⟩,⟨hl.1,fun g xs e=> ?_⟩,rfl,rfl,rfl,by simp,fun q hq=>hk q (hN q hq),fun _ _ e=> .inl e,fun _ _ e=> .inl e⟩
 ·rw[World.cell?_of_block (w:=w) (hk _ (sees_lt hs e))]; exact hs p v e
 ·obtain ⟨ck,hb⟩:=hs.m b xs e;exact ⟨ck,(hk b (map_lt hs e)).trans hb⟩
 ·obtain ⟨⟨ty,fz,h1⟩,h2⟩:=hl.2 g xs e;exact ⟨⟨ty,fz,(hk g (heap_lt h1)).trans h1⟩,h2⟩
theorem Sim.mv (S:SimS P T M F0 w0 F ρ st a w) (hK:∀q,K q->¬M q):Mv T K F0 w0 F w:=
  have hlt:∀q,K q->q<w0.heap.size:=fun q hq=>Nat.lt_of_not_le fun h=>hK q hq (S.hM q h)
  ⟨S.le,S.sees,Sim.laid S,S.bel.os,S.bel.tape,S.bel.output,S.bel.size,fun q hq=>S.bel.block q (hlt q hq) (hK q hq),
   fun p v e=>(S.new p v e).imp id fun h hq=>hK _ hq h,fun b xs e=>(S.newm b xs e).imp id fun h hq=>hK _ hq h⟩
def cutF (F0 F:Frz):Frz:= { c:=F.c,m:=F.m,z:=F0.z }
theorem cutF_le (F0 F:Frz):Le (cutF F0 F) F:=⟨fun _ _ e=>e,fun _ _ e=>e⟩
theorem cutF_ge (F0 F:Frz):Le F (cutF F0 F):=⟨fun _ _ e=>e,fun _ _ e=>e⟩
theorem cutF_sees {F0 F:Frz} (h:Sees F w):Sees (cutF F0 F) w:=⟨h.c,h.m⟩
theorem cutF_laid {F0 F:Frz} (h:Laid T F w):Laid T (cutF F0 F) w:=⟨⟨h.1.c,h.1.m⟩,h.2⟩
theorem Mv.cut {F1:Frz} (h:Mv T N F w F' w'):Mv T N F w (cutF F1 F') w':=⟨h.le.trans (cutF_ge F1 F'),cutF_sees h.sees,cutF_laid h.lay,h.os,h.tape,h.output,h.size,h.block,h.new,h.newm⟩
theorem RepB.move {b:Nat} {k:Blk} (h:RepB F w b k) (hb:w'.heap[b]? = w.heap[b]?) (hle:Le F F') (hn:∀p v,F' p=some v->p.block=b->F p=some v) (hm:∀xs,F'.m b=some xs->F.m b=some xs):RepB F' w' b k:=by
 cases k with
 | var cs _ _=>
  obtain ⟨xs,ty,h1,h2,h3,h4,h5⟩:=h;exact ⟨xs,ty,hb.trans h1,h2,h3,fun j c x e1 e2=>(h4 j c x e1 e2).mono hle,fun p v e he=>h5 p v (hn p v e he) he⟩
 | con cs=>
  obtain ⟨g,h1,h2,h3⟩:=h;exact ⟨g,h1,fun j c e=>hle _ _ (h2 j c e),fun j c e=>(h3 j c e).mono hle⟩
 | itr es c _=>exact RepB.itr_mono h hb hle
 | map es _=>
  obtain ⟨xs,ck,h1,h0,h2,h3⟩:=h;refine ⟨xs,ck,hb.trans h1,?_,h2,fun j k v x e1 e2=>⟨((h3 j k v x e1 e2).1).mono hle,((h3 j k v x e1 e2).2).mono hle⟩⟩;cases e:F'.m b with
  | none=>rfl
  | some ys=>rw[h0] at hm; exact absurd (hm ys e) (by simp)
def mvM (M E:Nat->Prop) (w w':World):Nat->Prop:=fun q=>(M q/\q<w.heap.size/\¬E q)\/w'.heap.size<=q
theorem DfOk.re {M':Nat->Prop} : ∀ {ds:List Deferred},DfOk ds M w->(∀D,mark D∈ds->M D->w.heap[D]? = some (.deferred (some []))->M' D/\w'.heap[D]? = some (.deferred (some [])))->DfOk ds M' w'
 | [],_,_=>trivial
 | d::ds,h,hb=>by
  obtain ⟨D,h1,h2,h3,h4,h5⟩:=h;obtain ⟨g1,g2⟩:=hb D (by rw[h1]; exact List.mem_cons_self) h2 h3;exact ⟨D,h1,g1,g2,h4,h5.re fun D' hm=>hb D' (List.mem_cons_of_mem _ hm)⟩
theorem DfOk.mem:∀ {ds:List Deferred},DfOk ds M w->∀D,mark D∈ds->M D/\w.heap[D]? = some (.deferred (some []))
 | [],_,D,hm=>by cases hm
 | d::ds,h,D,hm=>by
  obtain ⟨D',h1,h2,h3,h4,h5⟩:=h;rcases List.mem_cons.1 hm with he | hm
  ·have:D=D':=by rw[h1] at he; simp[mark] at he; exact he
   subst this; exact ⟨h2,h3⟩
  ·exact h5.mem D hm
theorem Sim.move (S:SimS P T M F0 w0 F ρ st a w) {E:Nat->Prop} (hE:∀id k,look id st.h=some k->¬E (ρ id)) (hEc:∀g,E g->∀xs t z,w.heap[g]? ≠ some (.cells xs t z)) (ds:List Deferred) (hds:ds=[]\/(ds=a.defers/\∀D,mark D∈ds->¬E D))
  (h:Mv T N F w F' w') (hN:∀q,M q->q<w.heap.size->¬E q->N q):SimS P T (mvM M E w w') (cutF F0 F') w' F' ρ st { a with defers:=ds } w':=by
 have hkeep:∀q,M q->q<w.heap.size->¬E q->w'.heap[q]? = w.heap[q]? := fun q h1 h2 h3=>h.block q (hN q h1 h2 h3)
 have hh:∀(j:Nat) e c,st.o[j]? = some (e,c)->∀i∈c,held { a with defers:=ds } w' ρ i=held a w ρ i:=fun j e c hj i hi=>by
  rw[<- held_same S (w':=w') (fun g _ ⟨id,k,e,he⟩=>he▸hkeep _ (S.hp id k e).2.1 (S.hp id k e).2.2 (hE id k e)) j e c hj i hi];rfl
 have hlay:Laid T F w:=Sim.laid S
 exact {
  n:=S.n
  df:=by
   rcases hds with rfl | ⟨rfl,hd⟩
   ·trivial
   ·exact S.df.re fun D hm h1 h2=>⟨.inl ⟨h1,heap_lt h2,hd D hm⟩,(hkeep D h1 (heap_lt h2) (hd D hm)).trans h2⟩
  sees:=h.sees
  lay:=⟨cutF_laid h.lay,fun g hg=>by
   obtain ⟨xs,hx⟩:=Option.ne_none_iff_exists'.1 hg;obtain ⟨ys,ty,fz,h1⟩:=laid_block h.lay hx;rintro (⟨h2,_⟩ | h2)
   ·exact S.lay.2 g hg h2
   ·have:=heap_lt h1; omega⟩
  le:=cutF_le F0 F'
  new:=fun p v e=> .inl e
  newm:=fun b xs e=> .inl e
  bel:=BelM.refl _ _
  hM:=fun j hj=> .inr hj
  tm:=fun i tv e=>by obtain ⟨x,h1,h2⟩:=S.tm i tv e; exact ⟨x,h1,h2.mono h.le⟩
  wf:=S.wf
  hp:=fun id k e=>by
   obtain ⟨h1,h2,h3⟩:=S.hp id k e;have hq:=hN _ h2 h3 (hE id k e);refine ⟨h1.move (hkeep _ h2 h3 (hE id k e)) h.le (fun p v hp he=>(h.new p v hp).resolve_right (by rw[he]; exact fun hn=>hn hq)) (fun xs hx=>(h.newm _ xs hx).resolve_right fun hn=>hn hq),.inl ⟨h2,h3,hE id k e⟩,Nat.lt_of_lt_of_le h3 h.size⟩
  nn:=S.nn
  z:=fun id k hi e=>S.z id k hi e
  nb:=S.nb
  inj:=S.inj
  ow:=fun j e c hj=>by
   obtain ⟨v,h1,⟨m,xs,h2,h3⟩,h4⟩:=S.ow j e c hj
   have hg:∀g,v.ownBlock=some g->M g/\g<w.heap.size/\¬E g:=fun g hg=>by
    refine ⟨(h3 g hg).1,(h2.lt g hg).2,fun he=> ?_⟩;rcases h2.2 with hnil | ⟨g',cap,cur,r1,r2,r3,r4⟩
    ·rw[hnil.1] at hg; cases hg
    ·rw[r1] at hg;have:g'=g:=by simpa [Value.ownBlock] using hg
     subst this;exact hEc _ he _ _ _ r3
   refine ⟨v,fun i hi=>by rw[hh j e c hj i hi]; exact h1 i hi,⟨m,xs,⟨h2.1,?_⟩,fun g hg'=> ?_⟩,h4⟩
   ·rcases h2.2 with hnil | ⟨g',cap,cur,r1,r2,r3,r4⟩
    ·exact .inl hnil
    ·obtain ⟨q1,q2,q3⟩:=hg g' (by rw[r1]; simp[Value.ownBlock]);exact .inr ⟨g',cap,cur,r1,r2,(hkeep _ q1 q2 q3).trans r3,r4⟩
   ·obtain ⟨q1,q2,q3⟩:=hg g hg';exact ⟨.inl ⟨q1,q2,q3⟩,fun p u hp hpg=>(h3 g hg').2 p u ((h.new p u hp).resolve_right (by rw[hpg]; exact fun hn=>hn (hN _ q1 q2 q3))) hpg⟩
  od:=fun j j' e c e' c' hne hj hj' i hi i' hi' v v' g e1 e2=>S.od j j' e c e' c' hne hj hj' i hi i' hi' v v' g (by rw[<- hh j e c hj i hi]; exact e1) (by rw[<- hh j' e' c' hj' i' hi']; exact e2)
  oc:=S.oc }
theorem Sim.rez {F1:Frz} (S:SimS P T M (cutF F0 F1) w0 F ρ st a w) (hz:∀id,look id st.h≠none->id<999000):SimS P T M F1 w0 F ρ st a w:=
  { S with
    lay:=⟨⟨⟨S.lay.1.1.c,S.lay.1.1.m⟩,S.lay.1.2⟩,S.lay.2⟩
    le:=⟨S.le.c,S.le.m⟩
    new:=S.new
    newm:=S.newm
    z:=fun id k hi e=>by
      have:=hz id (by rw[e]; simp)
      omega }
end Go.Ab
namespace Go.Ab
open Go.RowKit
variable {P : Program} {T : Lay}
variable {w w' w'' : World} {M N K : Nat -> Prop} {F0 F F' F'' : Frz} {w0 : World} {ρ : Nat -> Nat} {a : Act} {st : St}
abbrev Gst:=Nat->(Nat->Prop)->Frz->World->Prop
def Stab (T:Lay) (J:Gst):Prop:=∀i N F w N' F' w',J i N F w->Mv T (fun q=>q<w.heap.size/\¬N q) F w F' w'->(∀q,N' q->(N q\/w.heap.size<=q)/\q<w'.heap.size)->(∀q,N q->N' q)->J i N' F' w'
structure Itr (P:Program) (T:Lay) (l:Nat) (xs:List V) (k:Nat) (J:Gst):Prop where
 st:Stab T J
 rd:∀i x v N F w,xs[i]? = some x->i<k->Rep F x v->Sees F w->Laid T F w->(∀q,N q->q<w.heap.size)->J i N F w->
  YieldAt (fc none) 0 P l #[v] w fun e w'=>∃F',e= .returned (.bool (decide (i+1<k)))/\Mv T N F w F' w'/\J (i+1) N F' w'
def DenI (P:Program) (T:Lay) (f:FuncId) (cap:List V) (xs:List V):Prop:=
 Enters P f/\∀(w:World) (F:Frz) (cs:List Value) (l k:Nat) (J:Gst),0<k->Itr P T l xs k J->Sees F w->Laid T F w->Reps F cap cs->J 0 (fun _=>False) F w->
  CallsIn (fc none) 0 P f (#[.func (.yield l) #[] #[]]++cs.toArray) w fun e w'=>(∃v,e= .returned v)/\∃N F',J (min k xs.length) N F' w'
structure Cx (T:Lay) (J:Gst) (K:Nat->Prop) (Fs:Frz) (ws:World) (i:Nat) (M N:Nat->Prop) (F0:Frz) (w0:World):Prop where
 j:J i N F0 w0
 mn:∀q,M q->q<w0.heap.size->N q
 nb:∀q,N q->q<w0.heap.size
 kn:∀q,K q->N q/\¬M q
 mv:Mv T K Fs ws F0 w0
def OkK (rd:Option Nat) (K:Nat->Prop) (ws:World):Prop:=∀l,rd=some l->K l/\∃x,ws.heap[l]? = some (.loop x)
def nowN (N:Nat->Prop) (w0 w:World):Nat->Prop:=fun q=>N q\/(w0.heap.size<=q/\q<w.heap.size)
variable {J : Gst} {Fs : Frz} {ws : World} {i : Nat} {rd : Option Nat} {l k : Nat} {xs : List V}
theorem Cx.now (C:Cx T J K Fs ws i M N F0 w0) (hJ:Stab T J) (S:SimS P T M F0 w0 F ρ st a w):J i (nowN N w0 w) F w:=by
 refine hJ i N F0 w0 _ F w C.j (Sim.mv S fun q hq hm=>hq.2 (C.mn q hm hq.1)) (fun q hq=> ?_) fun q hq=> .inl hq;rcases hq with hq | hq
 ·exact ⟨.inl hq,Nat.lt_of_lt_of_le (C.nb q hq) S.bel.size⟩
 ·exact ⟨.inr hq.1,hq.2⟩
theorem nowN_m (C:Cx T J K Fs ws i M N F0 w0):∀q,M q->q<w.heap.size->nowN N w0 w q:=fun q h1 h2=>by
 by_cases h:q<w0.heap.size
 ·exact .inl (C.mn q h1 h)
 ·exact .inr ⟨by omega,h2⟩
theorem nowN_b (C:Cx T J K Fs ws i M N F0 w0) (S:SimS P T M F0 w0 F ρ st a w):∀q,nowN N w0 w q->q<w.heap.size:=fun q hq=>by
 rcases hq with hq | hq
 ·exact Nat.lt_of_lt_of_le (C.nb q hq) S.bel.size
 ·exact hq.2
theorem Cx.ok (C:Cx T J K Fs ws i M N F0 w0) (h:OkK rd K ws):OkR rd M w0:=fun l e=>by
 obtain ⟨h1,x,h2⟩:=h l e;exact ⟨(C.kn l h1).2,x,(C.mv.block l h1).trans h2⟩
theorem Cx.step (C:Cx T J K Fs ws i M N F0 w0) (S:SimS P T M F0 w0 F ρ st a w) (hJ:Stab T J) {i':Nat} (h:Mv T (nowN N w0 w) F w F' w') (hj:J i' (nowN N w0 w) F' w'):
  Cx T J K Fs ws i' (mvM M (fun _=>False) w w') (nowN N w0 w) (cutF F0 F') w'/\SimS P T (mvM M (fun _=>False) w w') (cutF F0 F') w' F' ρ st a w':=by
 have hk:∀q,K q->q<w0.heap.size:=fun q hq=>C.nb q (C.kn q hq).1;refine ⟨⟨?_,fun q hq hlt=> ?_,fun q hq=>Nat.lt_of_lt_of_le (nowN_b C S q hq) h.size,fun q hq=>⟨.inl (C.kn q hq).1,?_⟩,?_⟩,Sim.move S (fun _ _ _ h=>h) (fun _ h=>h.elim) a.defers (.inr ⟨rfl,fun _ _ h=>h⟩) h fun q h1 h2 _=>nowN_m C q h1 h2⟩
 ·exact hJ i' _ F' w' _ _ w' hj (Mv.cut (Mv.refl h.sees h.lay)) (fun q hq=>⟨.inl hq,Nat.lt_of_lt_of_le (nowN_b C S q hq) h.size⟩) fun q hq=>hq
 ·rcases hq with ⟨h1,h2,_⟩ | h1
  ·exact nowN_m C q h1 h2
  ·omega
 ·rintro (⟨h1,_⟩ | h1)
  ·exact (C.kn q hq).2 h1
  ·have:=hk q hq; have:=S.bel.size; have:=h.size; omega
 ·exact (C.mv.trans (Sim.mv S fun q hq=>(C.kn q hq).2)).trans ((h.mono fun q hq=> .inl (C.kn q hq).1).cut)
def PB (P:Program) (T:Lay) (J:Gst) (K:Nat->Prop) (Fs:Frz) (ws:World) (Q:AX->St->Nat->Prop) (e:AX) (a:Act) (w:World):Prop:=
 ∃i M N F0 w0 F ρ st,Cx T J K Fs ws i M N F0 w0/\SimS P T M F0 w0 F ρ st a w/\Q e st i
def PostI (P:Program) (T:Lay) (J:Gst) (K:Nat->Prop) (Fs:Frz) (ws:World) (Q:AX->St->Nat->Prop):Exit->Act->World->Prop
 | .normal,a,w=>PB P T J K Fs ws Q .nm a w
 | .exit id,a,w=>PB P T J K Fs ws Q (.ex id) a w
 | .ret,a,w=>PB P T J K Fs ws Q .rt a w
 | _,_,_=>False
def awI (P:Program) (T:Lay) (l:Nat) (xs:List V) (k:Nat) (rd:Option Nat) (c:Code) (st:St) (i:Nat) (Q:AX->St->Nat->Prop):Prop:=
 ∀(J:Gst),Itr P T l xs k J->∀(K:Nat->Prop) (Fs:Frz) (ws:World) (M N:Nat->Prop) (F0:Frz) (w0:World) (F:Frz) (ρ:Nat->Nat) (a:Act) (w:World),
  OkK rd K ws->Cx T J K Fs ws i M N F0 w0->SimS P T M F0 w0 F ρ st a w->wpG rd P c (PostI P T J K Fs ws Q) a w
variable {Q Q' : AX -> St -> Nat -> Prop} {x y c : Code}
theorem postI_mono {e:Exit} (h:PostI P T J K Fs ws Q e a w) (hq:∀e st i,Q e st i->Q' e st i):PostI P T J K Fs ws Q' e a w:=by
 cases e with
 | normal=>obtain ⟨i,M,N,F0,w0,F,ρ,st,C,S,h⟩:=h; exact ⟨i,M,N,F0,w0,F,ρ,st,C,S,hq _ _ _ h⟩
 | exit id=>obtain ⟨i,M,N,F0,w0,F,ρ,st,C,S,h⟩:=h; exact ⟨i,M,N,F0,w0,F,ρ,st,C,S,hq _ _ _ h⟩
 | ret=>obtain ⟨i,M,N,F0,w0,F,ρ,st,C,S,h⟩:=h; exact ⟨i,M,N,F0,w0,F,ρ,st,C,S,hq _ _ _ h⟩
 | goto l=>exact h
 | panic ch=>exact h
 | outgrown=>exact h
theorem awI_mono (h:awI P T l xs k rd c st i Q) (hq:∀e st i,Q e st i->Q' e st i):awI P T l xs k rd c st i Q':=fun J hJ K Fs ws M N F0 w0 F ρ a w hO C S=>
 wpIn_mono (h J hJ K Fs ws M N F0 w0 F ρ a w hO C S) fun _ _ _ hh=>postI_mono hh hq
theorem awI_of {Q0:AX->St->Prop} (h:aw P T c st Q0) (hq:∀e st',Q0 e st'->Q e st' i):awI P T l xs k rd c st i Q:=fun J _ K Fs ws M N F0 w0 F ρ a w hO C S=>by
 unfold aw at h;refine wpIn_mono (h rd M F0 w0 F ρ a w (C.ok hO) S) ?_;intro e a' w' hh;cases e with
 | normal=>obtain ⟨F',ρ',st',S',hK⟩:=hh; exact ⟨i,M,N,F0,w0,F',ρ',st',C,S',hq _ _ hK⟩
 | exit id=>obtain ⟨F',ρ',st',S',hK⟩:=hh; exact ⟨i,M,N,F0,w0,F',ρ',st',C,S',hq _ _ hK⟩
 | ret=>obtain ⟨F',ρ',st',S',hK⟩:=hh; exact ⟨i,M,N,F0,w0,F',ρ',st',C,S',hq _ _ hK⟩
 | goto l=>exact hh
 | panic ch=>exact hh
 | outgrown=>exact hh
theorem awI_skip (h:Q .nm st i):awI P T l xs k rd .skip st i Q:=awI_of (Q0:=fun e st'=>e= .nm/\st'=st) (by unfold aw; exact fun _ _ _ _ F ρ _ _ _ S=>wpIn_skip ⟨F,ρ,st,S,rfl,rfl⟩) fun e st' ⟨e1,e2⟩=>by subst e1 e2; exact h
theorem awI_exit {id:Nat} (h:Q (.ex id) st i):awI P T l xs k rd (.exit id) st i Q:=awI_of (Q0:=fun e st'=>e= .ex id/\st'=st) (by unfold aw; exact fun _ _ _ _ F ρ _ _ _ S=>wpIn_exit ⟨F,ρ,st,S,rfl,rfl⟩) fun e st' ⟨e1,e2⟩=>by subst e1 e2; exact h
theorem awI_ret (h:Q .rt st i):awI P T l xs k rd .ret st i Q:=awI_of (Q0:=fun e st'=>e= .rt/\st'=st) (by unfold aw; exact fun _ _ _ _ F ρ _ _ _ S=>wpIn_ret ⟨F,ρ,st,S,rfl,rfl⟩) fun e st' ⟨e1,e2⟩=>by subst e1 e2; exact h
def sqI (A:St->Nat->Prop) (Q:AX->St->Nat->Prop):AX->St->Nat->Prop
 | .nm,st,i=>A st i
 | e,st,i=>Q e st i
def blkI (id:Nat) (Q:AX->St->Nat->Prop):AX->St->Nat->Prop
 | .ex j,st,i=>if j=id then Q .nm st i else Q (.ex j) st i
 | e,st,i=>Q e st i
theorem awI_seq (h:awI P T l xs k rd x st i (sqI (fun st' i'=>awI P T l xs k rd y st' i' Q) Q)):awI P T l xs k rd (.seq x y) st i Q:=fun J hJ K Fs ws M N F0 w0 F ρ a w hO C S=>by
 refine wpIn_seq (wpIn_mono (h J hJ K Fs ws M N F0 w0 F ρ a w hO C S) ?_);intro e a' w' hq;cases e with
 | normal=>
  obtain ⟨i',M',N',F0',w0',F',ρ',st',C',S',hK⟩:=hq;exact hK J hJ K Fs ws M' N' F0' w0' F' ρ' a' w' hO C' S'
 | exit id=>exact hq
 | ret=>exact hq
 | goto l=>exact hq
 | panic c=>exact hq
 | outgrown=>exact hq
theorem awI_cond {o:Operand} {b:Bool} (hb:vOf (opv st.σ o)=some (.val (.bool b))) (h1:b=true->awI P T l xs k rd x st i Q) (h2:b=false->awI P T l xs k rd y st i Q):awI P T l xs k rd (.cond o x y) st i Q:=fun J hJ K Fs ws M N F0 w0 F ρ a w hO C S=>by
 have hv:=rep_val_inv (Sim.good S |>.v hb);refine wpIn_cond hv ?_;cases b with
 | true=>exact h1 rfl J hJ K Fs ws M N F0 w0 F ρ a w hO C S
 | false=>exact h2 rfl J hJ K Fs ws M N F0 w0 F ρ a w hO C S
theorem awI_block {id:Nat} (h:awI P T l xs k rd x st i (blkI id Q)):awI P T l xs k rd (.block id x) st i Q:=fun J hJ K Fs ws M N F0 w0 F ρ a w hO C S=>by
 refine wpIn_block (wpIn_mono (h J hJ K Fs ws M N F0 w0 F ρ a w hO C S) ?_);intro e a' w' hq;cases e with
 | normal=>exact hq
 | exit j=>
  obtain ⟨i',M',N',F0',w0',F',ρ',st',C',S',hK⟩:=hq;simp only[blkI] at hK;simp only[Exit.inBlock];split
  ·rename_i hi; rw[if_pos hi] at hK; exact ⟨i',M',N',F0',w0',F',ρ',st',C',S',hK⟩
  ·rename_i hi; rw[if_neg hi] at hK; exact ⟨i',M',N',F0',w0',F',ρ',st',C',S',hK⟩
 | ret=>exact hq
 | goto l=>exact hq
 | panic c=>exact hq
 | outgrown=>exact hq
theorem awI_loop {α:Type} (kp:Kp) (R:α->Prop) (m:α->Nat) (Sf:α->St) (ix:α->Nat) (x0:α) (hR:R x0) (hi:ix x0=i) (h0:keepS kp st=some (Sf x0))
  (hr:∀z,R z->awI P T l xs k rd x (Sf z) (ix z) (sqI (fun st' i'=>∃z',R z'/\m z'<m z/\i'=ix z'/\keepS kp st'=some (Sf z')) Q)):awI P T l xs k rd (.loop x) st i Q:=fun J hJ K Fs ws M N F0 w0 F ρ a w hO C S=>by
 refine wpG_loop_ghost (fun n a w=>∃z,R z/\m z=n/\∃M N F0 w0 F ρ,Cx T J K Fs ws (ix z) M N F0 w0/\SimS P T M F0 w0 F ρ (Sf z) a w) (m x0) ⟨x0,hR,rfl,M,N,F0,w0,F,ρ,by rw[hi]; exact C,keepS_sound h0 S⟩ ?_;rintro n a w ⟨z,hz,rfl,M,N,F0,w0,F,ρ,C,S⟩;refine wpIn_mono (hr z hz J hJ K Fs ws M N F0 w0 F ρ a w hO C S) ?_;intro e a' w' hq;cases e with
 | normal=>
  obtain ⟨i',M',N',F0',w0',F',ρ',st',C',S',z',h1,h2,h3,h4⟩:=hq;exact ⟨m z',h2,z',h1,rfl,M',N',F0',w0',F',ρ',by rw[<- h3]; exact C',keepS_sound h4 S'⟩
 | exit id=>exact hq
 | ret=>exact hq
 | goto l=>exact hq
 | panic c=>exact hq
 | outgrown=>exact hq
theorem awI_name (id:Nat) (h:∀b,(∀id' k' q,look id' st.h=some k'->k'.nm=some q->id'≠id->look id st.h≠none->q≠b)->awI P T l xs k rd c { st with h:=nam id b st.h } i Q):awI P T l xs k rd c st i Q:=fun J hJ K Fs ws M N F0 w0 F ρ a w hO C S=>
 h (ρ id) (fun id' k' q e hq hne hid he=>by
  obtain ⟨k0,hk0⟩:=Option.ne_none_iff_exists'.1 hid;have:=S.nb id' k' q e hq
  exact hne (S.inj id' id k' k0 e hk0 (this.trans he))) J hJ K Fs ws M N F0 w0 F ρ a w hO C (Sim.nam S id)
def yieldOf:Option V->Option Nat
 | some (.val (.func (.yield l) first cap))=>bif first.toList.isEmpty && cap.toList.isEmpty then some l else none
 | _=>none
def yv (o:Oper) (st:St):Option (Nat×V):=
 match o.op with
 | .call c=>match c.callee with
  | .value f=>match yieldOf (vOf (opv st.σ f)),vsOf (opv st.σ) c.args.toList with
   | some l,some [x]=>some (l,x)
   | _,_=>none
  | _=>none
 | _=>none
theorem yieldOf_some {o:Option V} {l:Nat} (h:yieldOf o=some l):o=some (.val (.func (.yield l) #[] #[])):=by
 unfold yieldOf at h;split at h
 ·rename_i l' first cap
  cases h1:first.toList with
  | cons x r=>rw[h1] at h; simp at h
  | nil=>
   cases h2:cap.toList with
   | cons x r=>rw[h1,h2] at h; simp at h
   | nil=>
    rw[h1,h2] at h;simp at h;subst h;have e1:first= #[]:=by apply Array.ext'; simpa using h1
    have e2:cap= #[]:=by apply Array.ext'; simpa using h2
    rw[e1,e2]
 ·cases h
def YK (l:Nat) (xs:List V) (k:Nat) (st:St) (d:Option Tmp) (i l':Nat) (x:V) (K:St->Nat->Prop):Prop:=
 l'=l/\xs[i]? = some x/\i<k/\putK st d (.v (.val (.bool (decide (i+1<k))))) fun st'=>K st' (i+1)
def stepY (P:Program) (T:Lay) (l:Nat) (xs:List V) (k:Nat) (o:Oper) (st:St) (i:Nat) (K:St->Nat->Prop):Prop:=
 match yv o st with
 | some (l',x)=>YK l xs k st o.dst i l' x K
 | none=>stepO P T o st fun st'=>K st' i
def awOI (P:Program) (T:Lay) (l:Nat) (xs:List V) (k:Nat) (ops:List Oper):List Oper->St->Nat->(St->Nat->Prop)->Prop
 | [],st,i,K=>K st i
 | o::rest,st,i,K=>match gdV ops o st.σ with
  | none=>False
  | some b=>gsel b (stepY P T l xs k o st i fun st' i'=>awOI P T l xs k ops rest st' i' K) (putK st o.dst .u fun st'=>awOI P T l xs k ops rest st' i K)
theorem opG_round {o:Oper} {lp:Nat} {f:FuncId} {tmps:Array Value} {assign body:Code} {next:Act->World->Prop} {Q:Exit->Act->World->Prop} (hr:(execOp a.eval o).run P w= .ok (.round lp f tmps assign body) w')
  (kk:RoundIn (fc none) 0 P lp f tmps assign body w' fun | .returned v,w''=>next (a.put o.dst v) w'' | .panicked chain,w''=>Q (.panic chain) a w'' | .outgrown,_=>LetsOut Q):opG rd P o a w next Q:=by
 refine ⟨fun _ _=>trivial,?_⟩;rw[Oper.semAt_eq _ _ _ (not_defer hr (fun d h=>by cases h)),hr];refine ⟨fun h=> ?_,?_⟩
 ·cases rd <;> cases h
 ·cases rd with
  | none=>exact kk
  | some _=>exact kk
theorem yv_some {o:Oper} {lp:Nat} {x:V} (h:yv o st=some (lp,x)):∃c f z,o.op= .call c/\c.callee= .value f/\c.args= #[z]/\vOf (opv st.σ f)=some (.val (.func (.yield lp) #[] #[]))/\vOf (opv st.σ z)=some x:=by
 unfold yv at h;split at h
 ·rename_i c hc;split at h
  ·rename_i f hf;split at h
   ·rename_i l' x' h1 h2;cases h
    replace h1:=yieldOf_some h1
    match hl:c.args.toList,h2 with
    | [],h2=>cases h2
    | [z],h2=>
     refine ⟨c,f,z,hc,hf,by apply Array.ext'; simpa using hl,h1,?_⟩;simp only[vsOf] at h2;cases hz:vOf (opv st.σ z) with
     | none=>rw[hz] at h2; simp at h2
     | some v=>rw[hz] at h2; simp at h2; rw[h2]
    | z::z'::r,h2=>
     simp only[vsOf] at h2;cases hz:vOf (opv st.σ z) <;> cases hz':vOf (opv st.σ z') <;> cases hr:vsOf (opv st.σ) r <;> simp[hz,hz',hr] at h2
   ·cases h
  ·cases h
 ·cases h
theorem wpOps_of_awOI {ops:Array Oper} {Kq:St->Nat->Prop} {Q:Exit->Act->World->Prop} (hJ:Itr P T l xs k J) (kq:∀i M N F0 w0 F ρ st a w,Cx T J K Fs ws i M N F0 w0->SimS P T M F0 w0 F ρ st a w->Kq st i->Q .normal a w):
  ∀(rest:List Oper) (n i:Nat) (M N:Nat->Prop) (F0:Frz) (w0:World) (F:Frz) (ρ:Nat->Nat) (st:St) (a:Act) (w:World),(∀j,rest[j]? = ops[n+j]?)->Cx T J K Fs ws i M N F0 w0->SimS P T M F0 w0 F ρ st a w->awOI P T l xs k ops.toList rest st i Kq->
   wpOpsIn (fc rd) 0 P ops Q (List.range' n rest.length) a w
 | [],n,i,M,N,F0,w0,F,ρ,st,a,w,_,C,S,h=>kq i M N F0 w0 F ρ st a w C S h
 | o::rest,n,i,M,N,F0,w0,F,ρ,st,a,w,hl,C,S,h=>by
  have h0:ops[n]? = some o:=by simpa using (hl 0).symm
  have hl':∀j,rest[j]? = ops[n+1+j]? := fun j=>by have:=hl (j+1); simpa [Nat.add_assoc,Nat.add_comm 1 j] using this
  simp only[awOI] at h;simp only[List.length_cons,List.range'_succ];rw[wpOpsIn_cons];unfold wpOpIn;simp only[h0];cases hg:gdV ops.toList o st.σ with
  | none=>rw[hg] at h; exact h.elim
  | some b=>
   rw[hg] at h;simp only at h;have hw:=Sim.wanted S hg;rw[hw];cases b with
   | true=>
    rw[gsel_true] at h;rw[if_pos rfl];unfold stepY at h;split at h
    ·rename_i l' x hy;obtain ⟨hle,hx,hik,hk⟩:=h;rw[hle] at hy;obtain ⟨c,f,z,e1,e2,e3,e4,e5⟩:=yv_some hy;have hfv:=rep_val_inv (Sim.good S |>.v e4);have hzv:=Sim.good S |>.v e5;obtain ⟨fn,tmps,assign,body,hrun,hR⟩:=hJ.rd i x (a.eval z) (nowN N w0 w) F w hx hik hzv S.sees (Sim.laid S) (nowN_b C S) (C.now hJ.st S);refine opG_round (lp:=l) (f:=fn) (tmps:=tmps) (assign:=assign) (body:=body) (w':=w) ?_ (hR.mono ?_)
     ·unfold execOp; rw[e1];simp[resolve,e2,e3,hfv,Deferred.ofValue,invoke,hrun]
     ·rintro e w1 ⟨F1,rfl,hmv,hj⟩;obtain ⟨C1,S1⟩:=Cx.step C S hJ.st hmv hj;obtain ⟨st',S',hK⟩:=putK_sound (tv:= .v (.val (.bool (decide (i+1<k))))) (x:= .bool (decide (i+1<k))) S1 (Rep.val _) trivial hk;exact wpOps_of_awOI hJ kq rest (n+1) (i+1) _ _ _ _ F1 ρ st' _ w1 hl' C1 S' hK
    ·exact stepO_sound S h fun F' ρ' st' a' w' S' hK=>wpOps_of_awOI hJ kq rest (n+1) i M N F0 w0 F' ρ' st' a' w' hl' C S' hK
   | false=>
    rw[gsel_false] at h;simp only[Bool.false_eq_true,if_false];obtain ⟨st',S',hK⟩:=putK_sound (tv:= .u) (x:=undef) S rfl trivial h;exact ⟨fun _ _=>trivial,wpOps_of_awOI hJ kq rest (n+1) i M N F0 w0 F ρ st' _ w hl' C S' hK⟩
theorem awI_regL {id:Nat} {ops:Array Oper} (h:awOI P T l xs k ops.toList ops.toList st i (Q .nm)):awI P T l xs k rd (.region id ops false) st i Q:=fun J hJ K Fs ws M N F0 w0 F ρ a w _ C S=>by
 refine wpIn_region ?_;have:=wpOps_of_awOI (rd:=rd) (Kq:=Q .nm) (Q:=PostI P T J K Fs ws Q) hJ (fun i M N F0 w0 F ρ st a w C S hK=>⟨i,M,N,F0,w0,F,ρ,st,C,S,hK⟩) ops.toList 0 i M N F0 w0 F ρ st a w (by simp) C S h;simpa [List.range_eq_range'] using this
end Go.Ab
namespace Go.Ab
open Go.RowKit
variable {P : Program} {T : Lay}
variable {w w' w'' : World} {M N K E : Nat -> Prop} {F0 F F' F'' Fs : Frz} {w0 ws : World} {ρ : Nat -> Nat} {a aR : Act} {st : St}
variable {J : Gst} {i : Nat} {rd : Option Nat} {l k : Nat} {xs : List V} {rec : Nat -> Loop} {Sf : Nat -> St} {I : Nat -> Nat}
structure RJ (P:Program) (T:Lay) (J:Gst) (K:Nat->Prop) (Fs:Frz) (ws:World) (E:Nat->Prop) (l:Nat) (rec:Nat->Loop) (Sf:Nat->St) (I:Nat->Nat) (aR:Act) (j:Nat) (Nin:Nat->Prop) (F:Frz) (w:World):Prop where
 body:∃ ρ M N,SimS P T M F w F ρ (Sf j) aR w/\J (I j) N F w/\(∀q,M q->q<w.heap.size->N q/\¬Nin q)/\(∀q,N q->q<w.heap.size)/\(∀q,K q\/E q\/q=l->N q/\¬M q/\¬Nin q)/\∀q,Nin q->N q
 rc:w.heap[l]? = some (.loop (rec j))
 eo:∀q,E q->w.heap[q]? = some (.deferred (some []))
 mv:Mv T K Fs ws F w
theorem RJ.stab (hJ:Stab T J) (hz:∀j id,look id (Sf j).h≠none->id<999000):Stab T (RJ P T J K Fs ws E l rec Sf I aR):=by
 intro j Nin F w Nin' F' w' h hm h1 h2;obtain ⟨⟨ρ,M,N,S0,hj,hM,hN,hK,hin⟩,hrc,heo,hmv⟩:=h;have hkw:∀q,(K q\/E q\/q=l)->w'.heap[q]? = w.heap[q]? := fun q hq=>hm.block q ⟨hN q (hK q hq).1,(hK q hq).2.2⟩;refine ⟨⟨ρ,mvM M (fun _=>False) w w',fun q=>N q\/(w.heap.size<=q/\q<w'.heap.size),?_,?_,?_,?_,?_,?_⟩,(hkw l (.inr (.inr rfl))).trans hrc,fun q hq=>(hkw q (.inr (.inl hq))).trans (heo q hq),hmv.trans (hm.mono fun q hq=>⟨hN q (hK q (.inl hq)).1,(hK q (.inl hq)).2.2⟩)⟩
 ·have S1:=Sim.move S0 (E:=fun _=>False) (fun _ _ _ h=>h) (fun _ h=>h.elim) aR.defers (.inr ⟨rfl,fun _ _ h=>h⟩) hm (fun q h1 h2 _=>⟨h2,(hM q h1 h2).2⟩);exact Sim.rez S1 (hz j)
 ·refine hJ (I j) N F w _ F' w' hj (hm.mono fun q hq=>⟨hq.1,fun hq'=>hq.2 (hin q hq')⟩) (fun q hq=> ?_) (fun q hq=> .inl hq);rcases hq with hq | hq
  ·exact ⟨.inl hq,Nat.lt_of_lt_of_le (hN q hq) hm.size⟩
  ·exact ⟨.inr hq.1,hq.2⟩
 ·rintro q (⟨q1,q2,_⟩ | q1) hlt
  ·refine ⟨.inl (hM q q1 q2).1,fun hq=> ?_⟩;rcases (h1 q hq).1 with hq | hq
   ·exact (hM q q1 q2).2 hq
   ·omega
  ·omega
 ·rintro q (hq | hq)
  ·exact Nat.lt_of_lt_of_le (hN q hq) hm.size
  ·exact hq.2
 ·intro q hq;obtain ⟨q1,q2,q3⟩:=hK q hq;have hlt:=hN q q1;refine ⟨.inl q1,?_,fun hq'=> ?_⟩
  ·rintro (⟨q4,_⟩ | q4)
   ·exact q2 q4
   ·have:=hm.size; omega
  ·rcases (h1 q hq').1 with q4 | q4
   ·exact q3 q4
   ·omega
 ·intro q hq;obtain ⟨q1,q2⟩:=h1 q hq;rcases q1 with q1 | q1
  ·exact .inl (hin q q1)
  ·exact .inr ⟨q1,q2⟩
theorem Sim.reframe {n:Nat} {t2:List (Nat×TV)} {h:List (Nat×Blk)} {o:List (TypeId×List Nat)} {a3:Act} (S:SimS P T M F0 w0 F ρ ⟨n,t2,h,o⟩ a3 w) (hn:aR.tmps.size=n) (hd:aR.defers=[]) (t0:List (Nat×TV))
    (htm:∀i tv,look i t0=some tv->∃x,aR.tmps[i]? = some x/\RepT F ρ tv x) (hwf:∀i tv,look i t0=some tv->wfT h tv) (hoc:∀(q:Nat) e c,o[q]? = some (e,c)->∀z∈c,1000000000<=z):SimS P T M F0 w0 F ρ ⟨n,t0,h,o⟩ aR w:=by
  have hh:∀(q:Nat) e c,o[q]? = some (e,c)->∀z∈c,held aR w ρ z=held a3 w ρ z:=fun q e c hq z hz=>by
    have:=hoc q e c hq z hz;rw[held_cell (by omega),held_cell (by omega)]
  have hs:a3.tmps.size=n:=S.n;have hnn:=S.nn
  exact { n := hn
          df:=by rw[hd]; trivial
          sees:=S.sees,lay:=S.lay,le:=S.le,new:=S.new,newm:=S.newm,bel:=S.bel,hM:=S.hM
          tm:=htm
          wf:=hwf
          hp:=S.hp
          nn:=by rw[hn,<- hs]; exact hnn
          z:=S.z,nb:=S.nb,inj:=S.inj
          ow:=fun j e c hj=>by
            obtain ⟨v,h1,h2⟩:=S.ow j e c hj;exact ⟨v,fun i hi=>by rw[hh j e c hj i hi]; exact h1 i hi,h2⟩
          od:=fun j j' e c e' c' hne hj hj' i hi i' hi' v v' g e1 e2=>S.od j j' e c e' c' hne hj hj' i hi i' hi' v v' g (by rw[<- hh j e c hj i hi]; exact e1) (by rw[<- hh j' e' c' hj' i' hi']; exact e2)
          oc:=S.oc }
theorem Sim.wider {M':Nat->Prop} {ds:List Deferred} (S:SimS P T M F w F ρ st a w) (hM:∀q,M q->M' q) (hl:∀g,T.r g≠none->¬M' g) (hd:DfOk ds M' w):SimS P T M' F w F ρ st { a with defers:=ds } w:=
  { n:=S.n,df:=hd,sees:=S.sees,lay:=⟨S.lay.1,hl⟩,le:=S.le,new:=fun _ _ e=> .inl e,newm:=fun _ _ e=> .inl e,bel:=BelM.refl _ _,hM:=fun j hj=>hM j (S.hM j hj),tm:=S.tm,wf:=S.wf
    hp:=fun id k e=>⟨(S.hp id k e).1,hM _ (S.hp id k e).2.1,(S.hp id k e).2.2⟩
    nn:=S.nn,z:=S.z,nb:=S.nb,inj:=S.inj
    ow:=fun j e c hj=>by
      obtain ⟨v,h1,⟨m,xs,h2,h3⟩,h4⟩:=S.ow j e c hj;exact ⟨v,fun i hi=>h1 i hi,⟨m,xs,h2,fun g hg=>⟨hM g (h3 g hg).1,(h3 g hg).2⟩⟩,h4⟩
    od:=fun j j' e c e' c' hne hj hj' i hi i' hi' v v' g e1 e2=>S.od j j' e c e' c' hne hj hj' i hi i' hi' v v' g e1 e2
    oc:=S.oc }
def toCode:AX->Code
 | .nm=> .skip
 | .rt=> .ret
 | .ex id=> .exit id
def jmp:AX->Option Code
 | .nm=>none
 | e=>some (toCode e)
def recOf (fn:FuncId) (tmps:Array Value) (ps:Array Tmp) (assign body:Code) (D kk:Nat) (c:AX) (j:Nat):Loop:=
 { state:=if j<kk then .ready else .done,pending:=if j<kk then none else jmp c,fn,tmps,params:=ps,assign,body,defers:=D }
theorem RJ.round {ys:List V} {kk p n D:Nat} {cc:AX} {fn:FuncId} {assign body:Code} {t0:List (Nat×TV)} {h:Nat->List (Nat×Blk)} {o:Nat->List (TypeId×List Nat)} {nmf:Nat->Nat} {lo:Nat}
  (hfn:(fc none).fn fn) (hJ:Itr P T lo xs k J) (hcc:cc≠ .nm) (hp:p<n) (hn:aR.tmps.size=n) (hd:aR.defers=[]) (hKl:¬K l) (hEl:¬E l)
  (hwf:∀j q tv,look q t0=some tv->wfT (h j) tv) (hnm:∀j id k,look id (h j)=some k->k.nm=some (nmf id)) (hz:∀j id,look id (h j)≠none->id<999000) (hoc:∀(j q:Nat) e c,(o j)[q]? = some (e,c)->∀z∈c,1000000000<=z)
  (hr:∀j x lr,ys[j]? = some x->j<kk->aw P T assign ⟨n,(p,.v x)::t0,h j,o j⟩ fun e st1=>e= .nm/\awI P T lo xs k (some lr) body st1 (I j) fun e st2 i2=>i2=I (j+1)/\(∃kp2 t2,keepS kp2 st2=some ⟨n,t2,h (j+1),o (j+1)⟩)/\e=if j+1<kk then .nm else cc):
  ∀j x v Nin F w,ys[j]? = some x->j<kk->Rep F x v->Sees F w->Laid T F w->(∀q,Nin q->q<w.heap.size)->RJ P T J K Fs ws E l (recOf fn aR.tmps #[p] assign body D kk cc) (fun j=>⟨n,t0,h j,o j⟩) I aR j Nin F w->
  YieldAt (fc none) 0 P l #[v] w fun e w'=>∃F',e= .returned (.bool (decide (j+1<kk)))/\Mv T Nin F w F' w'/\RJ P T J K Fs ws E l (recOf fn aR.tmps #[p] assign body D kk cc) (fun j=>⟨n,t0,h j,o j⟩) I aR (j+1) Nin F' w':=by
 intro j x v Nin F w hx hjk hxv _ _ hNb ⟨⟨ρ,M,N,S0,hj,hM,hN,hK,hin⟩,hrc,heo,hmv⟩;have hlt:=heap_lt hrc;have hMl:¬M l:=(hK l (.inr (.inr rfl))).2.1;have hy:=run_yield (P:=P) (args:= #[v]) hrc (by simp[recOf]);refine ⟨fn,_,assign,body,hy,roundIn_of_wpIn hfn ?_⟩;have hnn:aR.tmps.size<=999000:=S0.nn
 have S1:SimS P T M F w F ρ ⟨n,(p,.v x)::t0,h j,o j⟩ (aR.put (some p) v) w:=by
  have:=Sim.put (d:=some p) (tv:= .v x) (x:=v) S0 hxv trivial (fun d' e=>by
   cases e;refine ⟨hp,fun q e c hq hm=> ?_⟩;have:=hoc j q e c hq p hm
   omega)
  have e:=σ_cons ⟨n,t0,h j,o j⟩ p (.v x) (h j) (o j);unfold SimS;rw[show (St.mk n ((p,.v x)::t0) (h j) (o j)).σ=_ from e];exact this
 have hact:({ tmps:=((recOf fn aR.tmps #[p] assign body D kk cc j).params.zip #[v]).foldl (fun tmps (t,a)=>tmps.setIfInBounds t a) (recOf fn aR.tmps #[p] assign body D kk cc j).tmps,defers:=[] } : Act)=aR.put (some p) v:=by
  simp[recOf,Act.put,hd]
 rw[hact];have hA:=hr j x l hx hjk;unfold aw at hA;refine wpIn_mono (hA (some l) M F w F ρ _ w (fun l' e=>by cases e; exact ⟨hMl,_,hrc⟩) S1) ?_;intro e a1 w1 hh;cases e with
 | exit id=>obtain ⟨_,_,_,_,he,_⟩:=hh; cases he
 | ret=>obtain ⟨_,_,_,_,he,_⟩:=hh; cases he
 | goto l=>exact hh
 | panic c=>exact hh
 | outgrown=>exact hh
 | normal=>
 obtain ⟨F1,ρ1,st1,S1',-,hB⟩:=hh;have hl1:w1.heap[l]? = some (.loop (recOf fn aR.tmps #[p] assign body D kk cc j)):=(S1'.bel.block l hlt hMl).trans hrc;have hready:(recOf fn aR.tmps #[p] assign body D kk cc j).state= .ready:=if_pos hjk;obtain ⟨rb,hrb⟩:∃rb,({ recOf fn aR.tmps #[p] assign body D kk cc j with state:= .busy } : Loop)=rb:=⟨_,rfl⟩;refine ⟨_,run_beginRound hl1 hready,?_⟩;rw[hrb];have hput:Mv T (fun q=>q≠l) F1 w1 F1 (w1.putObj l (.loop rb)):=Mv.put S1'.sees (Sim.laid S1') hl1 rfl (fun _ _ h=>by cases h) rfl (fun h=>h rfl);have hl2:(w1.putObj l (.loop rb)).heap[l]? = some (.loop rb):=World.putObj_heap_same (heap_lt hl1);have hs2:(w1.putObj l (.loop rb)).heap.size=w1.heap.size:=by simp
 obtain ⟨w2,hw2⟩:∃w2,w1.putObj l (.loop rb)=w2:=⟨_,rfl⟩;rw[hw2] at hput hl2 hs2 ⊢;have S2:=Sim.move S1' (E:=fun _=>False) (fun _ _ _ h=>h) (fun _ h=>h.elim) a1.defers (.inr ⟨rfl,fun _ _ h=>h⟩) hput (fun q h1 _ _ he=>hMl (he▸h1));have hwle:w.heap.size<=w1.heap.size:=S1'.bel.size;have hNM:∀q,Nin q->¬M q:=fun q hq hm=>(hM q hm (hNb q hq)).2 hq
 have hKr:∀q,(K q\/Nin q\/E q\/q=l)->N q/\¬M q:=fun q hq=>by
  rcases hq with hq | hq | hq | hq
  ·exact ⟨(hK q (.inl hq)).1,(hK q (.inl hq)).2.1⟩
  ·exact ⟨hin q hq,hNM q hq⟩
  ·exact ⟨(hK q (.inr (.inl hq))).1,(hK q (.inr (.inl hq))).2.1⟩
  ·exact ⟨(hK q (.inr (.inr hq))).1,(hK q (.inr (.inr hq))).2.1⟩
 have C2:Cx T J (fun q=>K q\/Nin q\/E q\/q=l) (cutF F F1) w2 (I j) (mvM M (fun _=>False) w1 w2) (nowN N w w1) (cutF F F1) w2:=by
  refine ⟨?_,fun q hq hlt=> ?_,fun q hq=> ?_,fun q hq=>⟨.inl (hKr q hq).1,?_⟩,Mv.refl (cutF_sees hput.sees) (cutF_laid hput.lay)⟩
  ·refine hJ.st (I j) N F w _ _ w2 hj (((Sim.mv S1' fun q hq hm=>hq.2 (hM q hm hq.1).1).trans (hput.mono fun q hq he=>hq.2 (by rw[he]; exact (hK l (.inr (.inr rfl))).1))).cut) (fun q hq=> ?_) fun q hq=> .inl hq;rcases hq with hq | hq
   ·exact ⟨.inl hq,by have:=hN q hq; omega⟩
   ·exact ⟨.inr hq.1,by omega⟩
  ·rcases hq with ⟨h1,h2,_⟩ | h1
   ·by_cases hq:q<w.heap.size
    ·exact .inl (hM q h1 hq).1
    ·exact .inr ⟨by omega,h2⟩
   ·omega
  ·rcases hq with hq | hq
   ·have:=hN q hq; omega
   ·omega
  ·rintro (⟨h1,_⟩ | h1)
   ·exact (hKr q hq).2 h1
   ·have:=hN q (hKr q hq).1; omega
 refine wpIn_mono (hB J hJ _ (cutF F F1) w2 _ _ (cutF F F1) w2 F1 ρ1 a1 w2 (fun l' e=>by cases e; exact ⟨.inr (.inr (.inr rfl)),_,hl2⟩) C2 S2) ?_
 have fin:∀(e:AX) (a3:Act) (w3:World),PB P T J (fun q=>K q\/Nin q\/E q\/q=l) (cutF F F1) w2 (fun e st2 i2=>i2=I (j+1)/\(∃kp2 t2,keepS kp2 st2=some ⟨n,t2,h (j+1),o (j+1)⟩)/\e=if j+1<kk then .nm else cc) e a3 w3->
   ∃v w',(Instr.endRound l (jmp e)).run P w3= .ok v w'/\∃F',Ending.returned v= .returned (.bool (decide (j+1<kk)))/\Mv T Nin F w F' w'/\RJ P T J K Fs ws E l (recOf fn aR.tmps #[p] assign body D kk cc) (fun j=>⟨n,t0,h j,o j⟩) I aR (j+1) Nin F' w':=by
  rintro e a3 w3 ⟨i3,M3,N3,F03,w03,F3,ρ3,st3,C3,S3,rfl,⟨kp2,t2,hk2⟩,hec⟩;have hM3:∀q,(K q\/Nin q\/E q\/q=l)->¬M3 q:=fun q hq=>(C3.kn q hq).2;have hlt3:∀q,(K q\/Nin q\/E q\/q=l)->q<w03.heap.size:=fun q hq=>C3.nb q (C3.kn q hq).1;have hl3:w3.heap[l]? = some (.loop rb):=(S3.bel.block l (hlt3 l (.inr (.inr (.inr rfl)))) (hM3 l (.inr (.inr (.inr rfl))))).trans ((C3.mv.block l (.inr (.inr (.inr rfl)))).trans hl2)
  have hrec:({ rb with state:=if (jmp e).isNone then .ready else .done,pending:=jmp e } : Loop)=recOf fn aR.tmps #[p] assign body D kk cc (j+1):=by
   rw[<- hrb,hec];unfold recOf;by_cases hjj:j+1<kk
   ·simp[hjj,jmp]
   ·cases cc with
    | nm=>exact absurd rfl hcc
    | rt=>simp[hjj,jmp]
    | ex id=>simp[hjj,jmp]
  have hval:(jmp e).isNone=decide (j+1<kk):=by
   rw[hec];by_cases hjj:j+1<kk
   ·simp[hjj,jmp]
   ·cases cc with
    | nm=>exact absurd rfl hcc
    | rt=>simp[hjj,jmp]
    | ex id=>simp[hjj,jmp]
  have hrun:=run_endRound (P:=P) (jmp e) hl3;rw[hrec,hval] at hrun;refine ⟨_,_,hrun,F3,rfl,?_⟩;have hput3:Mv T (fun q=>q≠l) F3 w3 F3 (w3.putObj l (.loop (recOf fn aR.tmps #[p] assign body D kk cc (j+1)))):=Mv.put S3.sees (Sim.laid S3) hl3 rfl (fun _ _ h=>by cases h) rfl (fun h=>h rfl);have hl4:(w3.putObj l (.loop (recOf fn aR.tmps #[p] assign body D kk cc (j+1)))).heap[l]? = some (.loop (recOf fn aR.tmps #[p] assign body D kk cc (j+1))):=World.putObj_heap_same (heap_lt hl3);have hs4:(w3.putObj l (.loop (recOf fn aR.tmps #[p] assign body D kk cc (j+1)))).heap.size=w3.heap.size:=by simp
  obtain ⟨w4,hw4⟩:∃w4,w3.putObj l (.loop (recOf fn aR.tmps #[p] assign body D kk cc (j+1)))=w4:=⟨_,rfl⟩;rw[hw4] at hput3 hl4 hs4 ⊢
  have hnl:∀q,(K q\/Nin q\/E q)->q≠l:=fun q hq he=>by
   subst he;rcases hq with hq | hq | hq
   ·exact hKl hq
   ·exact (hK q (.inr (.inr rfl))).2.2 hq
   ·exact hEl hq
  have hup:∀q,(K q\/Nin q\/E q)->K q\/Nin q\/E q\/q=l:=fun q hq=>by
   rcases hq with hq | hq | hq
   ·exact .inl hq
   ·exact .inr (.inl hq)
   ·exact .inr (.inr (.inl hq))
  have hall:Mv T (fun q=>K q\/Nin q\/E q) F w F3 w4:=
   ((((Sim.mv S1' fun q hq=>(hKr q (hup q hq)).2).trans (hput.mono hnl).cut).trans (C3.mv.mono hup)).trans (Sim.mv S3 fun q hq=>hM3 q (hup q hq))).trans (hput3.mono hnl)
  refine ⟨hall.mono fun q hq=> .inr (.inl hq),⟨ρ3,mvM M3 (fun _=>False) w3 w4,nowN N3 w03 w3,?_,?_,?_,?_,?_,?_⟩,hl4,fun q hq=>(hall.block q (.inr (.inr hq))).trans (heo q hq),hmv.trans (hall.mono fun q hq=> .inl hq)⟩
  ·have S4:=keepS_sound hk2 S3
   have S5:=Sim.reframe (aR:=aR) S4 hn hd t0 (fun q tv e=>by
    obtain ⟨y,h1,h2⟩:=S0.tm q tv e;refine ⟨y,h1,?_⟩
    have hid:∀id,look id (h j)≠none->look id (h (j+1))≠none->ρ3 id=ρ id:=fun id e1 e2=>by
     obtain ⟨k1,hk1⟩:=Option.ne_none_iff_exists'.1 e1;obtain ⟨k3,hk3⟩:=Option.ne_none_iff_exists'.1 e2;have:=S0.nb id k1 _ hk1 (hnm j id k1 hk1);have:=S4.nb id k3 _ hk3 (hnm (j+1) id k3 hk3);omega
    have w1':=hwf j q tv e;have w2':=hwf (j+1) q tv e;cases tv with
    | v u=>exact Rep.mono hall.le h2
    | p id off=>show y=_; rw[hid id w1' w2']; exact h2
    | m id=>show y=_; rw[hid id w1' w2']; exact h2
    | s id off m size=>obtain ⟨cap,g1,g2,g3,g4⟩:=h2; exact ⟨cap,g1,g2,g3,by rw[hid id w1' w2']; exact g4⟩
    | u=>exact h2) (hwf (j+1)) (hoc (j+1))
   have S6:=Sim.move S5 (E:=fun _=>False) (fun _ _ _ h=>h) (fun _ h=>h.elim) aR.defers (.inr ⟨rfl,fun _ _ h=>h⟩) hput3 (fun q h1 _ _ he=>hM3 l (.inr (.inr (.inr rfl))) (he▸h1));exact Sim.rez S6 (hz (j+1))
  ·refine hJ.st (I (j+1)) _ F3 w3 _ F3 w4 (C3.now hJ.st S3) (hput3.mono fun q hq he=>hq.2 (by rw[he]; exact .inl (C3.kn l (.inr (.inr (.inr rfl)))).1)) (fun q hq=>⟨.inl hq,by have:=nowN_b C3 S3 q hq; omega⟩) fun q hq=>hq
  ·rintro q (⟨h1,h2,_⟩ | h1) hq
   ·exact ⟨nowN_m C3 q h1 h2,fun hn'=>hM3 q (.inr (.inl hn')) h1⟩
   ·omega
  ·intro q hq;have:=nowN_b C3 S3 q hq;omega
  ·intro q hq
   have hq':K q\/Nin q\/E q\/q=l:=by
    rcases hq with hq | hq | hq
    ·exact .inl hq
    ·exact .inr (.inr (.inl hq))
    ·exact .inr (.inr (.inr hq))
   refine ⟨.inl (C3.kn q hq').1,?_,(hK q hq).2.2⟩;rintro (⟨h1,_⟩ | h1)
   ·exact hM3 q hq' h1
   ·have:=hlt3 q hq'; have:=S3.bel.size; omega
  ·intro q hq;exact .inl (C3.kn q (.inr (.inl hq))).1
 intro e a3 w3 hq;cases e with
 | normal=>exact fin .nm a3 w3 hq
 | exit id=>exact fin (.ex id) a3 w3 hq
 | ret=>exact fin .rt a3 w3 hq
 | goto l=>exact (show False from hq).elim
 | panic c=>exact (show False from hq).elim
 | outgrown=>exact (show False from hq).elim
theorem toCode_wp {cc:AX} (hcc:cc≠ .nm) {Q:AX->St->Nat->Prop} (h:PB P T J K Fs ws Q cc a w):(toCode cc).wpIn (fc none) 0 P (PostI P T J K Fs ws Q) a w:=by
 cases cc with
 | nm=>exact absurd rfl hcc
 | rt=>exact wpIn_ret h
 | ex id=>exact wpIn_exit h
theorem named_obj {b:Nat} {kb:Blk} (h:RepB F w b kb) (hn:kb.nm≠none) {d:Option (List Deferred)} : w.heap[b]? ≠ some (.deferred d):=fun e=>by
 cases kb with
 | var cs _ _=>obtain ⟨xs,ty,h1,_⟩:=h; rw[e] at h1; cases h1
 | con cs=>exact hn rfl
 | map es _=>obtain ⟨xs,ck,h1,_⟩:=h; rw[e] at h1; cases h1
 | itr es c _=>obtain ⟨m,seen,xs,ck,h1,_⟩:=h; rw[e] at h1; cases h1
set_option maxHeartbeats 1000000 in
theorem awI_range {g:Operand} {assign body:Code} {Q:AX->St->Nat->Prop} {gf:FuncId} {cap:List V} (ys:List V) (kk p:Nat) (cc:AX) (kp:Kp) (t0:List (Nat×TV)) (h:Nat->List (Nat×Blk)) (o:Nat->List (TypeId×List Nat)) (nmf:Nat->Nat) (I:Nat->Nat)
  (hkk:0<kk) (hcc:cc≠ .nm) (hg:vOf (opv st.σ g)=some (.func gf cap)) (hden:DenI P T gf cap ys) (h0:keepS kp st=some ⟨st.n,t0,h 0,o 0⟩) (hI:I 0=i) (hp:p<st.n)
  (hwf:∀j q tv,look q t0=some tv->wfT (h j) tv) (hnm:∀j id k,look id (h j)=some k->k.nm=some (nmf id)) (hz:∀j id,look id (h j)≠none->id<999000) (hoc:∀(j q:Nat) e c,(o j)[q]? = some (e,c)->∀z∈c,1000000000<=z)
  (hr:∀j x lr,ys[j]? = some x->j<kk->aw P T assign ⟨st.n,(p,.v x)::t0,h j,o j⟩ fun e st1=>e= .nm/\awI P T l xs k (some lr) body st1 (I j) fun e st2 i2=>i2=I (j+1)/\(∃kp2 t2,keepS kp2 st2=some ⟨st.n,t2,h (j+1),o (j+1)⟩)/\e=if j+1<kk then .nm else cc)
  (hq:if kk<=ys.length then Q cc ⟨st.n,t0,h kk,o kk⟩ (I kk) else Q .nm ⟨st.n,t0,h ys.length,o ys.length⟩ (I ys.length)):awI P T l xs k none (.rangeFunc g #[p] assign body) st i Q:=fun J hJ K Fs ws M N F0 w0 F ρ a w _ C S=>by
 have S0:=keepS_sound h0 S;have hfv:=Sim.good S |>.v hg;generalize hfx:a.eval g=fx at hfv;cases hfv with
 | @func _ _ caps hl hh=>
 have hsz:a.tmps.size=st.n:=S.n;have hnn:a.tmps.size<=999000:=S.nn;have hle:w0.heap.size<=w.heap.size:=S.bel.size;have hdef:=DfOk.mem S.df;refine wpIn_rangeFunc ?_;intro fn hfn;obtain ⟨lr,hlr⟩:∃lr,w.heap.size+1=lr:=⟨_,rfl⟩;obtain ⟨W1,hW1⟩:∃W1,(w.alloc (.deferred (some []))).alloc (.loop (recOf fn a.tmps #[p] assign body w.heap.size kk cc 0))=W1:=⟨_,rfl⟩
 have hrec0:recOf fn a.tmps #[p] assign body w.heap.size kk cc 0= { state:= .ready,pending:=none,fn,tmps:=a.tmps,params:= #[p],assign,body,defers:=w.heap.size } := by
  unfold recOf; rw[if_pos hkk,if_pos hkk]
 have hs1:W1.heap.size=w.heap.size+2:=by rw[<- hW1]; simp
 have hL1:W1.heap[lr]? = some (.loop (recOf fn a.tmps #[p] assign body w.heap.size kk cc 0)):=by
  rw[<- hW1,<- hlr]; have:=World.alloc_heap_new (w.alloc (.deferred (some []))) (.loop (recOf fn a.tmps #[p] assign body w.heap.size kk cc 0)); rwa [World.size_alloc] at this
 have hD1:W1.heap[w.heap.size]? = some (.deferred (some [])):=by
  rw[<- hW1]; exact (Below.heap_alloc _ _ _ (by simp)).trans (World.alloc_heap_new w _)
 have hm1:Mv T (fun q=>q<w.heap.size) F w F (w.alloc (.deferred (some []))):=Mv.alloc S.sees (Sim.laid S) _ fun _ h=>h
 have hmv:Mv T (fun q=>q<w.heap.size) F w F W1:=by
  rw[<- hW1];exact hm1.trans (Mv.alloc hm1.sees hm1.lay _ fun q hq=>by simp; omega)
 have henter:(Instr.enterLoop fn a.tmps #[p] assign body none).run P w= .ok (lr,[mark w.heap.size]) W1:=by
  rw[run_enterLoop_outer,<- hrec0,hlr,hW1]; rfl
 have hE:∀q,(q=w.heap.size\/mark q∈a.defers)->q<=w.heap.size:=fun q hq=>by
  rcases hq with rfl | hq
  ·exact Nat.le_refl _
  ·exact Nat.le_of_lt (heap_lt (hdef q hq).2)
 have hKw:∀q,K q->q<w.heap.size:=fun q hq=>Nat.lt_of_lt_of_le (C.nb q (C.kn q hq).1) hle
 have hKE:∀q,K q->¬(q=w.heap.size\/mark q∈a.defers):=fun q hq he=>by
  rcases he with he | he
  ·have:=hKw q hq; omega
  ·exact (C.kn q hq).2 (hdef q he).1
 have hEh:∀q,(q=w.heap.size\/mark q∈a.defers)->W1.heap[q]? = some (.deferred (some [])):=fun q hq=>by
  rcases hq with rfl | hq
  ·exact hD1
  ·exact (hmv.block q (heap_lt (hdef q hq).2)).trans (hdef q hq).2
 have R0:RJ P T J K Fs ws (fun q=>q=w.heap.size\/mark q∈a.defers) lr (recOf fn a.tmps #[p] assign body w.heap.size kk cc) (fun j=>⟨st.n,t0,h j,o j⟩) I { a with defers:=[] } 0 (fun _=>False) F W1:=by
  refine ⟨⟨ρ,mvM M (fun q=>q=w.heap.size\/mark q∈a.defers) w W1,fun q=>nowN N w0 w q\/(w.heap.size<=q/\q<W1.heap.size),?_,?_,?_,?_,?_,fun _ h=>h.elim⟩,hL1,hEh,(C.mv.trans (Sim.mv S fun q hq=>(C.kn q hq).2)).trans (hmv.mono hKw)⟩
  ·refine Sim.rez (Sim.move S0 (fun id kb e he=> ?_) (fun g hg xs t z e=> ?_) [] (.inl rfl) hmv fun q _ h2 _=>h2) (hz 0)
   ·have hb:=hnm 0 id kb e;have h3:=(S0.hp id kb e).2.2;rcases he with he | he
    ·omega
    ·exact named_obj (S0.hp id kb e).1 (by rw[hb]; simp) (hdef _ he).2
   ·rcases hg with rfl | hg
    ·have:=heap_lt e; omega
    ·rw[(hdef g hg).2] at e; cases e
  ·rw[hI];refine hJ.st i _ F w _ F W1 (C.now hJ.st S) (hmv.mono fun q hq=>hq.1) (fun q hq=> ?_) fun q hq=> .inl hq;rcases hq with hq | hq
   ·exact ⟨.inl hq,by have:=nowN_b C S q hq; omega⟩
   ·exact ⟨.inr hq.1,hq.2⟩
  ·rintro q (⟨h1,h2,_⟩ | h1) hq
   ·exact ⟨.inl (nowN_m C q h1 h2),fun h=>h⟩
   ·omega
  ·rintro q (hq | hq)
   ·have:=nowN_b C S q hq; omega
   ·exact hq.2
  ·intro q hq;refine ⟨?_,?_,fun h=>h⟩
   ·rcases hq with hq | hq | hq
    ·exact .inl (.inl (C.kn q hq).1)
    ·rcases hq with rfl | hq
     ·exact .inr ⟨Nat.le_refl _,by omega⟩
     ·exact .inl (nowN_m C q (hdef q hq).1 (heap_lt (hdef q hq).2))
    ·exact .inr ⟨by omega,by omega⟩
   ·rintro (⟨h1,h2,h3⟩ | h1)
    ·rcases hq with hq | hq | hq
     ·exact (C.kn q hq).2 h1
     ·exact h3 hq
     ·omega
    ·rcases hq with hq | hq | hq
     ·have:=hKw q hq; omega
     ·have:=hE q hq; omega
     ·omega
 have hKl:¬K lr:=fun hq=>by have:=hKw lr hq; omega
 have hEl:¬(lr=w.heap.size\/mark lr∈a.defers):=fun hq=>by have:=hE lr hq; omega
 have hround:=RJ.round (P:=P) (T:=T) (J:=J) (K:=K) (E:=fun q=>q=w.heap.size\/mark q∈a.defers) (Fs:=Fs) (ws:=ws) (aR:= { a with defers:=[] }) (l:=lr) (k:=k) (xs:=xs) (I:=I) (ys:=ys) (kk:=kk) (p:=p) (n:=st.n) (D:=w.heap.size) (cc:=cc) (fn:=fn) (assign:=assign) (body:=body) (t0:=t0) (h:=h) (o:=o) (nmf:=nmf) (lo:=l)
  hfn hJ hcc hp hsz rfl hKl hEl hwf hnm hz hoc hr
 have hItr:Itr P T lr ys kk (RJ P T J K Fs ws (fun q=>q=w.heap.size\/mark q∈a.defers) lr (recOf fn a.tmps #[p] assign body w.heap.size kk cc) (fun j=>⟨st.n,t0,h j,o j⟩) I { a with defers:=[] }):=
  ⟨RJ.stab hJ.st hz,fun j x v Nin F w hx hj hv hs hl hb hR=>hround j x v Nin F w hx hj hv hs hl hb hR⟩
 have hcall:=hden.2 W1 F caps.toList lr kk _ hkk hItr hmv.sees hmv.lay ⟨by simpa using hl,fun j c y e1 e2=>hh j c y e1 (by simpa using e2)⟩ R0;rw[Array.toArray_toList] at hcall;refine ⟨lr,[mark w.heap.size],W1,{ target:= .fn (.func gf) caps,args:= #[.func (.yield lr) #[] #[]] },W1,gf,#[.func (.yield lr) #[] #[]]++caps,W1,henter,?_,?_,?_,fun h=>(by cases h),?_⟩
 ·simp only[resolve,hfx];simp[go_sem]
 ·intro f' _; trivial
 ·have:=hden.1 (#[.func (.yield lr) #[] #[]]++caps) W1;simp[invoke,go_sem,this]
 ·show CallsIn (fc none) 0 P gf _ W1 _
  refine CallsIn.mono hcall ?_;rintro e W2 ⟨⟨v,rfl⟩,Nin,F2,⟨⟨ρ2,M2,N2,S2,hj2,hM2,hN2,hK2,hin2⟩,hrc2,heo2,hmv2⟩⟩
  have hbusy:(recOf fn a.tmps #[p] assign body w.heap.size kk cc (min kk ys.length)).state≠ .busy:=by
   unfold recOf; split <;> simp
  refine ⟨_,_,run_endLoop hrc2 hbusy,?_⟩;obtain ⟨rx,hrx⟩:∃rx,({ recOf fn a.tmps #[p] assign body w.heap.size kk cc (min kk ys.length) with state:= .exhausted } : Loop)=rx:=⟨_,rfl⟩;rw[hrx];have hput:Mv T (fun q=>q≠lr) F2 W2 F2 (W2.putObj lr (.loop rx)):=Mv.put S2.sees (Sim.laid S2) hrc2 rfl (fun _ _ h=>by cases h) rfl (fun h=>h rfl);have hs3:(W2.putObj lr (.loop rx)).heap.size=W2.heap.size:=by simp
  obtain ⟨W3,hW3⟩:∃W3,W2.putObj lr (.loop rx)=W3:=⟨_,rfl⟩;rw[hW3] at hput hs3 ⊢;have hMl:=(hK2 lr (.inr (.inr rfl))).2.1;have S3:=Sim.rez (Sim.move S2 (E:=fun _=>False) (fun _ _ _ h=>h) (fun _ h=>h.elim) [] (.inl rfl) hput (fun q h1 _ _ he=>hMl (he▸h1))) (hz _);have hE3:∀q,(q=w.heap.size\/mark q∈a.defers)->W3.heap[q]? = some (.deferred (some [])):=fun q hq=>(hput.block q fun he=>hEl (he▸hq)).trans (heo2 q hq)
  have hdf:DfOk ([mark w.heap.size]++a.defers) (fun q=>mvM M2 (fun _=>False) W2 W3 q\/q=w.heap.size\/mark q∈a.defers) W3:=by
   refine ⟨w.heap.size,rfl,.inr (.inl rfl),hE3 _ (.inl rfl),fun d' hd' he=> ?_,?_⟩
   ·rw[he] at hd';have:=heap_lt (hdef _ hd').2;omega
   ·exact S.df.re fun D hD _ _=>⟨.inr (.inr hD),hE3 _ (.inr hD)⟩
  have S4:=Sim.wider (ds:=[mark w.heap.size]++a.defers) (M':=fun q=>mvM M2 (fun _=>False) W2 W3 q\/q=w.heap.size\/mark q∈a.defers) S3 (fun q hq=> .inl hq) (fun g hg hh=>by
   rcases hh with hh | hh
   ·exact S3.lay.2 g hg hh
   ·obtain ⟨ys',hy'⟩:=Option.ne_none_iff_exists'.1 hg;obtain ⟨_,_,_,h1⟩:=laid_block hput.lay hy'
    rw[hE3 g hh] at h1; cases h1) hdf
  have C4:Cx T J K Fs ws (I (min kk ys.length)) (fun q=>mvM M2 (fun _=>False) W2 W3 q\/q=w.heap.size\/mark q∈a.defers) N2 F2 W3:=by
   refine ⟨?_,?_,fun q hq=>by have:=hN2 q hq; omega,fun q hq=>⟨(hK2 q (.inl hq)).1,?_⟩,hmv2.trans (hput.mono fun q hq he=>hKl (he▸hq))⟩
   ·exact hJ.st _ N2 F2 W2 N2 F2 W3 hj2 (hput.mono fun q hq he=>hq.2 (by rw[he]; exact (hK2 lr (.inr (.inr rfl))).1)) (fun q hq=>⟨.inl hq,by have:=hN2 q hq; omega⟩) fun q hq=>hq
   ·rintro q ((⟨h1,h2,_⟩ | h1) | hq) hlt
    ·exact (hM2 q h1 h2).1
    ·omega
    ·exact (hK2 q (.inr (.inl hq))).1
   ·rintro ((⟨h1,_⟩ | h1) | h1)
    ·exact (hK2 q (.inl hq)).2.1 h1
    ·have:=hN2 q (hK2 q (.inl hq)).1; omega
    ·exact hKE q hq h1
  have S5:SimS P T (fun q=>mvM M2 (fun _=>False) W2 W3 q\/q=w.heap.size\/mark q∈a.defers) F2 W3 F2 ρ2 ⟨st.n,t0,h (min kk ys.length),o (min kk ys.length)⟩ { a with defers:=[mark w.heap.size]++a.defers } W3:=S4;by_cases hc:kk<=ys.length
  ·rw[if_pos hc] at hq;rw[Nat.min_eq_left hc] at S5 C4 ⊢
   have hpend:(recOf fn a.tmps #[p] assign body w.heap.size kk cc kk).pending=some (toCode cc):=by
    cases cc with
    | nm=>exact absurd rfl hcc
    | rt=>simp[recOf,jmp]
    | ex id=>simp[recOf,jmp]
   rw[hpend];exact toCode_wp hcc ⟨_,_,_,_,_,_,_,_,C4,S5,hq⟩
  ·rw[if_neg hc] at hq;rw[Nat.min_eq_right (by omega)] at S5 C4 ⊢
   have hpend:(recOf fn a.tmps #[p] assign body w.heap.size kk cc ys.length).pending=none:=by
    simp only[recOf];rw[if_pos (by omega)]
   rw[hpend];exact ⟨_,_,_,_,_,_,_,_,C4,S5,hq⟩
theorem calls_of_wpI {f:FuncId} {fn:Func} {c:Code} {args:Array Value} {R:Ending->World->Prop} {Q:AX->St->Nat->Prop} (hf:P.funcs[f]? = some fn) (hb:fn.body=some c)
  (h:wpG none P c (PostI P T J K Fs ws Q) { tmps:=args++Array.replicate (fn.ntmps-args.size) undef,defers:=[] } w)
  (hk:∀e i M N F0 w0 F ρ st a w',Cx T J K Fs ws i M N F0 w0->SimS P T M F0 w0 F ρ st a w'->a.defers=[]->Q e st i->(∀id,e≠ .ex id)->∃v,(results fn a.tmps).run P w'= .ok v w'/\R (.returned v) w') (hex:∀id st i,¬Q (.ex id) st i):Calls P f args w R:=by
 have leave:∀(ds:List Deferred) (e:AX) (i:Nat) (M N:Nat->Prop) (F0:Frz) (w0:World) (F:Frz) (ρ:Nat->Nat) (st:St) (a:Act) (w':World),Cx T J K Fs ws i M N F0 w0->SimS P T M F0 w0 F ρ st a w'->a.defers=ds->Q e st i->(∀id,e≠ .ex id)->LeavesInM Fence.wide 0 P fn a.tmps R ds .returning w':=by
  intro ds
  induction ds with
  | nil=>intro e i M N F0 w0 F ρ st a w' C S hd hq he; exact hk e i M N F0 w0 F ρ st a w' C S hd hq he
  | cons d ds ih=>
   intro e i M N F0 w0 F ρ st a w' C S hd hq he;obtain ⟨D,h1,h2,S'⟩:=Sim.unmark S hd;exact ⟨by simp,.inl ⟨D,_,by rw[h1]; rfl,run_takeDeferred h2,ih e i M N F0 w0 F ρ st { a with defers:=ds } _ C S' rfl hq he⟩⟩
 refine (callsIn_wide (n:=0)).1 (callsIn_of_wp_marks hf hb trivial (wpIn_mono h ?_));intro e a w' hq;cases e with
 | normal=>obtain ⟨i,M,N,F0,w0,F,ρ,st,C,S,hq⟩:=hq; exact leave _ .nm i M N F0 w0 F ρ st a w' C S rfl hq (fun _ h=>by cases h)
 | ret=>obtain ⟨i,M,N,F0,w0,F,ρ,st,C,S,hq⟩:=hq; exact leave _ .rt i M N F0 w0 F ρ st a w' C S rfl hq (fun _ h=>by cases h)
 | exit id=>obtain ⟨i,M,N,F0,w0,F,ρ,st,C,S,hq⟩:=hq; exact (hex id st i hq).elim
 | goto l=>exact hq.elim
 | panic ch=>exact hq.elim
 | outgrown=>exact hq.elim
theorem itr_none:Itr P T l [] k (fun _ _ _ _=>True):=⟨fun _ _ _ _ _ _ _ _ _ _ _=>trivial,fun i x v N F w hx=>by simp at hx⟩
theorem den_of_bodyI {f:FuncId} {fn:Func} {c:Code} {args:List V} {r:V} (_hm:P.follows .mixedOrders=true) (hE:Enters P f) (hf:P.funcs[f]? = some fn) (hb:fn.body=some c) (n:Nat) (hn:n=max fn.ntmps args.length)
  (h:awI P T 0 [] 0 none c { n:=n,t:=args0 0 args,h:=[],o:=[] } 0 (fun e st _=>fpost P fn.results.toList r e st)) (hnn:n<=999000:=by decide):Den P T f args r:=by
 refine ⟨hE,fun w F xs hF hT ha=> ?_⟩
 have C:Cx T (fun _ _ _ _=>True) (fun q=>q<w.heap.size) F w 0 (fun g=>w.heap.size<=g) (fun q=>q<w.heap.size) F w:=
  ⟨trivial,fun q h1 h2=>h2,fun q hq=>hq,fun q hq=>⟨hq,fun h=>by omega⟩,Mv.refl hF hT⟩
 have S:=sim0 (P:=P) hF hT ha n hn hnn;refine calls_of_wpI hf hb (h _ itr_none _ F w _ _ F w F id _ w (fun _ e=>by cases e) C S) ?_ (fun id st _ hq=>hq);intro e i M N F0 w0 F' ρ st a w' C S hd hq he
 have hq':(∃v,resS P st fn.results.toList=some v/\Wk v r)\/∃v,resS P (frzF fn.results.toList st) fn.results.toList=some v/\Wk v r:=by
  cases e with
  | nm=>exact hq
  | rt=>exact hq
  | ex id=>exact absurd rfl (he id)
 have ext:∀ {F':Frz} {st:St},SimS P T M F0 w0 F' ρ st a w'->Ext F w F' w':=fun S=>by
  have m:=C.mv.trans (Sim.mv S fun q hq=>(C.kn q hq).2);exact ⟨m.le,m.sees,fun p v e=>(m.new p v e).imp id fun h=>Nat.le_of_not_lt h,fun b xs e=>(m.newm b xs e).imp id fun h=>Nat.le_of_not_lt h,⟨m.os,m.tape,m.output,m.size,fun q hq=>m.block q hq⟩⟩
 rcases hq' with ⟨v,hr,hw⟩ | ⟨v,hr,hw⟩
 ·obtain ⟨y,h1,h2⟩:=resS_sound S hr;exact ⟨y,h1,y,F',rfl,ext S,rep_wk hw h2⟩
 ·obtain ⟨F',S⟩:=frzF_sound fn.results.toList S;obtain ⟨y,h1,h2⟩:=resS_sound S hr;exact ⟨y,h1,y,F',rfl,ext S,rep_wk hw h2⟩
theorem denI_of_body {f:FuncId} {fn:Func} {c:Code} {cap xs:List V} (_hm:P.follows .mixedOrders=true) (hE:Enters P f) (hf:P.funcs[f]? = some fn) (hb:fn.body=some c) (hres:fn.results= #[]) (n:Nat) (hn:n=max fn.ntmps (cap.length+1))
  (h:∀l k,0<k->awI P T l xs k none c { n:=n,t:=args0 0 (.val (.func (.yield l) #[] #[])::cap),h:=[],o:=[] } 0 (fun e _ i=>(∀id,e≠ .ex id)/\i=min k xs.length)) (hnn:n<=999000:=by decide):DenI P T f cap xs:=by
 refine ⟨hE,fun w F cs l k J hk hJ hF hT ha hj=>callsIn_wide.2 ?_⟩
 have ha':Reps F (.val (.func (.yield l) #[] #[])::cap) (.func (.yield l) #[] #[]::cs):=⟨by simp[ha.1],fun j v x e1 e2=>by
  cases j with
  | zero=>simp at e1 e2; subst e1 e2; exact .val _
  | succ j=>exact ha.2 j v x (by simpa using e1) (by simpa using e2)⟩
 have C:Cx T J (fun _=>False) F w 0 (fun g=>w.heap.size<=g) (fun _=>False) F w:=
  ⟨hj,fun q h1 h2=>by omega,fun q hq=>hq.elim,fun q hq=>hq.elim,Mv.refl hF hT⟩
 have S:=sim0 (P:=P) hF hT ha' n (by simpa using hn) hnn;have hargs:(#[.func (.yield l) #[] #[]]++cs.toArray:Array Value)=(.func (.yield l) #[] #[]::cs).toArray:=by simp
 rw[hargs];refine calls_of_wpI hf hb (h l k hk J hJ _ F w _ _ F w F id _ w (fun _ e=>by cases e) C S) ?_ (fun id st _ hq=>hq.1 id rfl);intro e i M N F0 w0 F' ρ st a w' C S hd hq he;refine ⟨.tuple #[],?_,⟨_,rfl⟩,nowN N w0 w',F',?_⟩
 ·simp[results_eq,hres]
 ·rw[<- hq.2]; exact C.now hJ.st S
end Go.Ab
namespace Go.Ab
open Go.RowKit
variable {P : Program} {T : Lay} {lo k i : Nat} {xs : List V} {rd : Option Nat} {st : St} {Q : AX -> St -> Nat -> Prop}
def awOIc (P:Program) (T:Lay) (lo:Nat) (xs:List V) (k:Nat) (l rest:List Oper) (K:St->Nat->Prop) (i:Nat):St->Prop:=fun st=>awOI P T lo xs k l rest st i K
theorem awOIc_app (l rest:List Oper) (K:St->Nat->Prop) (n:Nat) (t:List (Nat×TV)) (h:List (Nat×Blk)) (o:List (TypeId×List Nat)):awOIc P T lo xs k l rest K i ⟨n,t,h,o⟩=awOI P T lo xs k l rest ⟨n,t,h,o⟩ i K:=rfl
theorem awOI_nil (l:List Oper) (st:St) (K:St->Nat->Prop):awOI P T lo xs k l [] st i K=K st i:=rfl
def YKc (lo:Nat) (xs:List V) (k:Nat) (st:St) (d:Option Tmp) (i l':Nat) (x:V) (K:Nat->St->Prop):Prop:=
 l'=lo/\xs[i]? = some x/\i<k/\putK st d (.v (.val (.bool (decide (i+1<k))))) (K (i+1))
def stepIc (P:Program) (T:Lay) (lo:Nat) (xs:List V) (k:Nat) (o:Oper) (st:St) (i:Nat) (K:Nat->St->Prop):Prop:=
 match yv o st with
 | some (l',x)=>YKc lo xs k st o.dst i l' x K
 | none=>stepO P T o st (K i)
theorem awOI_cons (l:List Oper) (o:Oper) (rest:List Oper) (st:St) (K:St->Nat->Prop):awOI P T lo xs k l (o::rest) st i K=match gdV l o st.σ with
  | none=>False
  | some b=>gsel b (stepIc P T lo xs k o st i (awOIc P T lo xs k l rest K)) (putK st o.dst .u (awOIc P T lo xs k l rest K i)):=rfl
theorem awI_reg {id:Nat} {ops:Array Oper} {l:List Oper} (hl:ops.toList=l) (h:awOI P T lo xs k l l st i (Q .nm)):awI P T lo xs k rd (.region id ops false) st i Q:=by subst hl; exact awI_regL h
theorem awI_lift {c:Code} (h:aw P T c st fun e st'=>Q e st' i):awI P T lo xs k rd c st i Q:=awI_of h fun _ _ h=>h
theorem awI_cond_t {x y:Code} {o:Operand} (hb:vOf (opv st.σ o)=some (.val (.bool true))) (h:awI P T lo xs k rd x st i Q):awI P T lo xs k rd (.cond o x y) st i Q:=awI_cond hb (fun _=>h) fun e=>by cases e
theorem awI_cond_f {x y:Code} {o:Operand} (hb:vOf (opv st.σ o)=some (.val (.bool false))) (h:awI P T lo xs k rd y st i Q):awI P T lo xs k rd (.cond o x y) st i Q:=awI_cond hb (fun e=>by cases e) fun _=>h
def sqkI (P:Program) (T:Lay) (lo:Nat) (xs:List V) (k:Nat) (rd:Option Nat) (y:Code) (Q:AX->St->Nat->Prop):AX->St->Nat->Prop
 | .nm,st,i=>awI P T lo xs k rd y st i Q
 | e,st,i=>Q e st i
theorem sqkI_nm (y:Code) (st:St):sqkI P T lo xs k rd y Q .nm st i=awI P T lo xs k rd y st i Q:=rfl
theorem sqkI_ex (y:Code) (id:Nat) (st:St):sqkI P T lo xs k rd y Q (.ex id) st i=Q (.ex id) st i:=rfl
theorem sqkI_rt (y:Code) (st:St):sqkI P T lo xs k rd y Q .rt st i=Q .rt st i:=rfl
theorem awI_seqk {x y:Code} (h:awI P T lo xs k rd x st i (sqkI P T lo xs k rd y Q)):awI P T lo xs k rd (.seq x y) st i Q:=awI_seq (awI_mono h fun e st i h=>by cases e <;> exact h)
theorem blkI_nm (id:Nat) (st:St):blkI id Q .nm st i=Q .nm st i:=rfl
theorem blkI_rt (id:Nat) (st:St):blkI id Q .rt st i=Q .rt st i:=rfl
theorem blkI_same (id:Nat) (st:St):blkI id Q (.ex id) st i=Q .nm st i:=by simp[blkI]
theorem blkI_other {id j:Nat} (st:St) (h:Nat.beq j id=false):blkI id Q (.ex j) st i=Q (.ex j) st i:=by
 have:j≠id:=fun e=>by subst e; simp at h
 simp[blkI,this]
theorem sqI_nm (A:St->Nat->Prop) (st:St):sqI A Q .nm st i=A st i:=rfl
theorem sqI_ex (A:St->Nat->Prop) (id:Nat) (st:St):sqI A Q (.ex id) st i=Q (.ex id) st i:=rfl
theorem sqI_rt (A:St->Nat->Prop) (st:St):sqI A Q .rt st i=Q .rt st i:=rfl
@[congr] theorem awOI_cg {l rest : List Oper} {st st' : St} {K : St -> Nat -> Prop} (h : st = st') : awOI P T lo xs k l rest st i K = awOI P T lo xs k l rest st' i K := by rw [h]
@[congr] theorem awI_cg {c : Code} {st st' : St} (h : st = st') : awI P T lo xs k rd c st i Q = awI P T lo xs k rd c st' i Q := by rw [h]
@[congr] theorem awOIc_cg {l rest : List Oper} {K : St -> Nat -> Prop} : awOIc P T lo xs k l rest K = awOIc P T lo xs k l rest K := rfl
@[congr] theorem sqkI_cg {y : Code} : sqkI P T lo xs k rd y Q = sqkI P T lo xs k rd y Q := rfl
@[congr] theorem sqI_cg {A : St -> Nat -> Prop} : sqI A Q = sqI A Q := rfl
@[congr] theorem blkI_cg {id : Nat} : blkI id Q = blkI id Q := rfl
theorem runI {p q r:Prop} (hr:r) (h:q) (e:r->q->p:=by
    intro hr h
    repeat (first
      | with_reducible refine appO_k ?_
      | with_reducible refine appC_k ?_
      | refine awI_seqk ?_
      | refine awI_block ?_
      | refine awI_skip ?_
      | refine awI_ret ?_
      | refine awI_exit ?_
      | with_reducible refine And.intro (by clear h; (first | omega | (simp only[List.length_append,List.length_cons,List.length_nil,List.length_drop,List.length_take,List.length_map]; omega))) ?_
      | refine awI_reg rfl ?_
      | refine awI_lift (aw_drw3 (by rfl) rfl (by kernel_rfl) (by (simp only[takeE_cons,takeE_nil,isEnd,Bool.false_eq_true,eq_self,if_false,if_true]) <;> exact rfl) (by (simp only[dropE_cons,dropE_nil,isEnd,Bool.false_eq_true,eq_self,if_false,if_true]) <;> exact rfl) (by rfl) (by (try simp only[frzR,frzC,frz1,frzB,opv_tmp,σ_mk,look_cons',look_nil,Nat.reduceEqDiff,↓reduceIte]) <;> exact rfl) (by rfl) ?_)
      | refine awI_lift (aw_drw (by rfl) rfl (by kernel_rfl) (by rfl) (by (try simp only[frzR,frzC,frz1,frzB,opv_tmp,σ_mk,look_cons',look_nil,Nat.reduceEqDiff,↓reduceIte]) <;> exact rfl) ?_)
      | (refine awI_cond_t ?_ ?_
         · (simp only[opv_tmp,σ_mk,look_cons',Nat.reduceEqDiff,↓reduceIte,vOf_v]; done))
      | (refine awI_cond_f ?_ ?_
         · (simp only[opv_tmp,σ_mk,look_cons',Nat.reduceEqDiff,↓reduceIte,vOf_v]; done))
      | (simp (config:= {maxSteps:=1000000,implicitDefEqProofs:=false}) (disch:=(first | omega | (simp only[List.length_append,List.length_cons,List.length_nil,List.length_drop,List.length_take,List.length_map]; omega))) only[↓awOI_cons,awOI_nil,awOIc_app,stepIc,yv,yieldOf,List.isEmpty_nil,sqkI_nm,sqkI_ex,sqkI_rt,sqI_nm,sqI_ex,sqI_rt,blkI_nm,blkI_rt,blkI_same,blkI_other,↓awO_cons,awO_nil,↓awD_cons,awD_nil,↓awE_cons,awE_nil,stepE,↓awC_cons,awC_nil,effD,stepC,↓gsel_true,↓gsel_false,stepO,stpOL,stepD,gdV,movK,putK,retK,retD,retM,evK,awOk_app,awDk_app,awEk_app,awCk_app,awk_app,
          opv_tmp,opv_func,opv_int,opv_bool,opv_nil,opv_nili,opv_tup,opv_str,opv_mapnil,opv_fnil,vOf_v,vOf_p,vOf_s,vOf_m,nu_v,nu_p,nu_m,nu_s,tvsOf,cutS_in,cutS_no,idxS_in,cutV_nn,cutV_ns,cutV_sn,cutV_ss,clearK,argsT,re,σ_mk,args0,unT_nil,unT_v,unT_u,unT_p,unT_m,unT_s,remj_nil,remj_cons,unH_nil,unH_cons,remo_nil,addo_nil,delo_nil,remo_cons,addo_cons,delo_cons,flt_nil,flt_cons,ctn_nil,ctn_cons,ownOf,owner,appK,appL,appS,appX,
          look_cons',look_nil,seth,setAt,ldK,ldO,stO,remBs,hasC_nil,hasC_cons,any_nil',any_cons',tmpOf_t,tmpOf_c,tmpOf_f,vN_v,vN_p,vN_m,nmOf_var,nmOf_map,nmOf_con,mref_m,mref_v,findN,findK_nil,findK_v,findK_m,findK_c,findK_vs,findK_ms,mapN,mapB_m,agg_cell,agg_agg,plc,pid,pof,mpc,setbs,setb,lk,bk,backO,remK,lentO,Blk.wn,Blk.nm,nam,Nat.reduceDiv,Nat.reduceMod,Nat.reduceEqDiff,Nat.reduceBEq,Nat.reduceBNe,↓reduceIte,Nat.reduceAdd,Nat.reduceMul,Nat.reduceLT,Nat.reduceLeDiff,Nat.reduceSub,and_t,Bool.or_true,Bool.or_false,Bool.true_or,Bool.false_or,Bool.and_true,Bool.true_and,Bool.and_false,Bool.false_and,Option.isSome_none,Bool.false_eq_true,reduceCtorEq,
          sqk_nm,sqk_ex,sqk_rt,sq_nm,sq_ex,sq_rt,blk_nm,blk_rt,blk_same,blk_other,
          evq,evb,behind,memV,ld_cell,ld_agg,takeN,fld_eq,sl_eq,arr_eq,arr_no,arr_str,str_eq,bool_eq,ifc_eq,int_eq,und_eq,map_eq,zero_eq,zsome_eq,zok_eq,appok_eq,places_eq,zv_eq,eqt_eq,mapE,eqCells,eqC,nilK,keyT_str,keyT_int,okVal_s,okVal_i,okVal_b,ofVal_s0,ofVal_i,ofVal_b,Option.getD_none,Option.getD_some,cells_cell,cells_agg,info_cell,info_agg,
          idxV,bytV,minV,binV,intOp,strOp,eqOp,convV,capV,capsV,lenV,sliceV,optV,vsOf,partsV,bsV,fillV,oneV,V.one,V.cells,okNot,upsert,keyEq,frzR,frzC,frz1,frzB,
          List.drop_succ_cons,List.drop_zero,List.take_succ_cons,List.take_zero,List.length_cons,List.length_nil,List.nil_append,List.cons_append,List.append_nil,Option.map_some,Option.map_none,Option.bind_some,Option.bind_none,Option.some.injEq,Option.isSome_some,
          List.getElem?_cons_zero,List.getElem?_cons_succ,List.getElem?_map,List.length_map,nat_nn,toNat_cast,b_ft,b_tf,nn_t,ite_le_t,toNat_s,toNat_p,one_int,one_bool,one_nil,one_nili,wrap8_in,tdiv_10,tmod_10,ten_ne,List.size_toArray,eq_self,if_false,if_true,Int.reduceToNat,Int.reduceLE,Int.reduceLT,Int.reduceEq,Int.reduceNeg,Nat.mul_one,Nat.one_mul,Nat.zero_add,Nat.add_zero,wrap_in,dec_lt_t,dec_lt_f,dec_le_t,dec_le_f,dec_eq_t,dec_eq_f,decide_true,decide_false,Bool.not_true,Bool.not_false,cond_true,cond_false,beq_self_eq_true,hr]))
    exact h):p:=e hr h
end Go.Ab
namespace Go.Ab
open Go.RowKit
variable {P : Program} {T : Lay} {lo k i : Nat} {xs : List V} {rd : Option Nat} {st : St} {Q : AX -> St -> Nat -> Prop}
theorem yk {d:Option Tmp} {x:V} {K:Nat->St->Prop} (hx:xs[i]? = some x) (hi:i<k) (h1:i+1<k->putK st d (.v (.val (.bool true))) (K (i+1))) (h2:¬i+1<k->putK st d (.v (.val (.bool false))) (K (i+1))):YKc lo xs k st d i lo x K:=
 ⟨rfl,hx,hi,by
  by_cases h:i+1<k
  ·rw[decide_eq_true h]; exact h1 h
  ·rw[decide_eq_false h]; exact h2 h⟩
def endI (k:Nat) (xs:List V):AX->St->Nat->Prop:=fun e _ i=>(∀id,e≠ .ex id)/\i=min k xs.length
theorem endI_rt (h:i=min k xs.length):endI k xs .rt st i:=⟨(fun _ h=>by cases h),h⟩
theorem endI_nm (h:i=min k xs.length):endI k xs .nm st i:=⟨(fun _ h=>by cases h),h⟩
theorem denI_of_bodyE {f:FuncId} {fn:Func} {c:Code} {cap xs:List V} (hm:P.follows .mixedOrders=true) (hE:Enters P f) (hf:P.funcs[f]? = some fn) (hb:fn.body=some c) (hres:fn.results= #[]) (n:Nat) (hn:n=max fn.ntmps (cap.length+1))
  (h:∀l k,0<k->awI P T l xs k none c { n:=n,t:=args0 0 (.val (.func (.yield l) #[] #[])::cap),h:=[],o:=[] } 0 (endI k xs)) (hnn:n<=999000:=by decide):DenI P T f cap xs:=denI_of_body hm hE hf hb hres n hn h hnn
def fpI (P:Program) (rs:List ResultVar) (r:V):AX->St->Nat->Prop:=fun e st _=>fpost P rs r e st
theorem fpI_rt {rs:List ResultVar} {r:V} (h:fpost P rs r .rt st):fpI P rs r .rt st i:=h
theorem den_of_bodyF {f:FuncId} {fn:Func} {c:Code} {args:List V} {r:V} (hm:P.follows .mixedOrders=true) (hE:Enters P f) (hf:P.funcs[f]? = some fn) (hb:fn.body=some c) (n:Nat) (hn:n=max fn.ntmps args.length)
  (h:awI P T 0 [] 0 none c { n:=n,t:=args0 0 args,h:=[],o:=[] } 0 (fpI P fn.results.toList r)) (hnn:n<=999000:=by decide):Den P T f args r:=den_of_bodyI hm hE hf hb n hn h hnn
def lpkI {α:Type} (kp:Kp) (R:α->Prop) (m:α->Nat) (Sf:α->St) (ix:α->Nat) (y:α):St->Nat->Prop:=fun st' i'=>∃z',R z'/\m z'<m y/\i'=ix z'/\keepS kp st'=some (Sf z')
theorem loopI {α:Type} {x:Code} (kp:Kp) (R:α->Prop) (m:α->Nat) (Sf:α->St) (ix:α->Nat) (x0:α) (hR:R x0) (hi:ix x0=i)
  (hr:∀z,R z->awI P T lo xs k rd x (Sf z) (ix z) (sqI (lpkI kp R m Sf ix z) Q)) (h0:keepS kp st=some (Sf x0):=by rfl):awI P T lo xs k rd (.loop x) st i Q:=awI_loop kp R m Sf ix x0 hR hi h0 hr
theorem roundI {α:Type} {kp:Kp} {R:α->Prop} {m:α->Nat} {Sf:α->St} {ix:α->Nat} {y:α} (z:α) (hR:R z) (hm:m z<m y) (hi:i=ix z) (hk:keepS kp st=some (Sf z):=by rfl):lpkI kp R m Sf ix y st i:=⟨z,hR,hm,hi,hk⟩
structure Rng where
 t0:List (Nat×TV)
 h:Nat->List (Nat×Blk)
 o:Nat->List (TypeId×List Nat)
 I:Nat->Nat
def rdI (g:Rng) (n kk:Nat) (cc:AX) (j:Nat):AX->St->Nat->Prop:=fun e st2 i2=>i2=g.I (j+1)/\(∃kp2 t2,keepS kp2 st2=some ⟨n,t2,g.h (j+1),g.o (j+1)⟩)/\e=if j+1<kk then .nm else cc
def rbI (P:Program) (T:Lay) (lo:Nat) (xs:List V) (k lr:Nat) (body:Code) (g:Rng) (n kk:Nat) (cc:AX) (j:Nat):AX->St->Prop:=fun e st1=>e= .nm/\awI P T lo xs k (some lr) body st1 (g.I j) (rdI g n kk cc j)
theorem rbI_nm {lr:Nat} {body:Code} {g:Rng} {n kk:Nat} {cc:AX} {j:Nat} (h:awI P T lo xs k (some lr) body st (g.I j) (rdI g n kk cc j)):rbI P T lo xs k lr body g n kk cc j .nm st:=⟨rfl,h⟩
theorem rdI_on {g:Rng} {n kk:Nat} {cc:AX} {j:Nat} (kp2:Kp) (t2:List (Nat×TV)) (hi:i=g.I (j+1)) (h:j+1<kk) (hk:keepS kp2 st=some ⟨n,t2,g.h (j+1),g.o (j+1)⟩:=by rfl):rdI g n kk cc j .nm st i:=⟨hi,⟨kp2,t2,hk⟩,(if_pos h).symm⟩
theorem rdI_off {g:Rng} {n kk:Nat} {cc:AX} {j:Nat} (kp2:Kp) (t2:List (Nat×TV)) (hi:i=g.I (j+1)) (h:¬j+1<kk) (hk:keepS kp2 st=some ⟨n,t2,g.h (j+1),g.o (j+1)⟩:=by rfl):rdI g n kk cc j cc st i:=⟨hi,⟨kp2,t2,hk⟩,(if_neg h).symm⟩
@[congr] theorem rbI_cg {lr : Nat} {body : Code} {g : Rng} {n kk : Nat} {cc : AX} {j : Nat} {e : AX} : rbI P T lo xs k lr body g n kk cc j e st = rbI P T lo xs k lr body g n kk cc j e st := rfl
@[congr] theorem rdI_cg {g : Rng} {n kk : Nat} {cc : AX} {j : Nat} {e : AX} : rdI g n kk cc j e st i = rdI g n kk cc j e st i := rfl
@[congr] theorem lpkI_cg {α : Type} {kp : Kp} {R : α -> Prop} {m : α -> Nat} {Sf : α -> St} {ix : α -> Nat} {y : α} : lpkI kp R m Sf ix y st i = lpkI kp R m Sf ix y st i := rfl
@[congr] theorem YKc_cg {d : Option Tmp} {l' : Nat} {x : V} {K : Nat -> St -> Prop} : YKc lo xs k st d i l' x K = YKc lo xs k st d i l' x K := rfl
@[congr] theorem endI_cg {e : AX} : endI k xs e st i = endI k xs e st i := rfl
@[congr] theorem fpI_cg {rs : List ResultVar} {r : V} {e : AX} : fpI P rs r e st i = fpI P rs r e st i := rfl
theorem rangeI {g:Operand} {assign body:Code} {gf:FuncId} {cap:List V} (ys:List V) (kk p:Nat) (cc:AX) (kp:Kp) (G:Rng) (nmf:Nat->Nat)
  (hkk:0<kk) (hden:DenI P T gf cap ys) (hI:G.I 0=i)
  (hnm:∀j id k,look id (G.h j)=some k->k.nm=some (nmf id)) (hz:∀j id,look id (G.h j)≠none->id<999000) (hwf:∀j q tv,look q G.t0=some tv->wfT (G.h j) tv) (hoc:∀(j q:Nat) e c,(G.o j)[q]? = some (e,c)->∀z∈c,1000000000<=z)
  (hr:∀j x lr,ys[j]? = some x->j<kk->aw P T assign ⟨st.n,(p,.v x)::G.t0,G.h j,G.o j⟩ (rbI P T lo xs k lr body G st.n kk cc j))
  (h1:kk<=ys.length->Q cc ⟨st.n,G.t0,G.h kk,G.o kk⟩ (G.I kk)) (h2:¬kk<=ys.length->Q .nm ⟨st.n,G.t0,G.h ys.length,G.o ys.length⟩ (G.I ys.length))
  (hcc:cc≠ .nm:=by intro h; cases h) (hg:vOf (opv st.σ g)=some (.func gf cap):=by rfl) (h0:keepS kp st=some ⟨st.n,G.t0,G.h 0,G.o 0⟩:=by rfl) (hp:p<st.n:=by exact of_decide_eq_true (by rfl)):awI P T lo xs k none (.rangeFunc g #[p] assign body) st i Q:=
 awI_range ys kk p cc kp G.t0 G.h G.o nmf G.I hkk hcc hg hden h0 hI hp hwf hnm hz hoc hr (by
  by_cases h:kk<=ys.length
  ·rw[if_pos h]; exact h1 h
  ·rw[if_neg h]; exact h2 h)
theorem wf_all {h:List (Nat×Blk)} {t0:List (Nat×TV)} (H:t0.all (fun z=>match z.2 with
  | .p id _=>(look id h).isSome
  | .m id=>(look id h).isSome
  | .s id _ _ _=>(look id h).isSome
  | _=>true)=true):∀q tv,look q t0=some tv->wfT h tv:=fun q tv e=>by
 have hm:=look_mem e;have:=List.all_eq_true.1 H _ hm;cases tv with
 | v x=>trivial
 | u=>trivial
 | p id off=>simp only at this; intro hn; rw[hn] at this; cases this
 | m id=>simp only at this; intro hn; rw[hn] at this; cases this
 | s id off n size=>simp only at this; intro hn; rw[hn] at this; cases this
end Go.Ab
