/- A part of this claim. -/
import Derived.Test.YtkmmdckcdgopgaaGreatDoorBaC
import Derived.Sort.Grow
namespace Go.Ab
open Go.RowKit
variable {P : Program} {T : Lay}
theorem WkB.self (cs:List V) (nm:Option Nat) (kk:Option (TypeId×Nat×Nat)):WkB (.var cs nm kk) (.var cs nm kk):=by
 have:=WkB.var (cs0:=cs) (cs:=cs) (ex:=[]) (nm:=nm) (nm':=nm) (kk:=kk) (kk':=kk) (Wks.refl cs) (.inr rfl) (.inr rfl)
 rwa [List.append_nil] at this
theorem finS {rs:List ResultVar} {bs':List (Nat×Blk)} {r r':TV} {st:St} (hB:∀x∈bs',∃b,look x.1 st.h=some b∧WkB b x.2) (h3:WkT r' r) (h2:resT P st rs=some r':=by rfl):fpostS P rs bs' [] r .rt st:=⟨hB,trivial,r',h2,h3⟩
theorem finS1 {rs:List ResultVar} {i:Nat} {cs:List V} {nm:Option Nat} {kk:Option (TypeId×Nat×Nat)} {r r':TV} {st:St} (h3:WkT r' r) (hB:look i st.h=some (.var cs nm kk):=by rfl) (h2:resT P st rs=some r':=by rfl):fpostS P rs [(i,.var cs nm kk)] [] r .rt st:=
 finS (fun x hx=>by simp only[List.mem_singleton] at hx; subst hx; exact ⟨_,hB,WkB.self cs nm kk⟩) h3 h2
theorem finVr {rs:List ResultVar} {Post:List (Nat×Blk)→Blk→V→Prop} {ks:List (Nat×Blk)} {i:Nat} {cs:List V} {nm:Option Nat} {kk:Option (TypeId×Nat×Nat)} {r r':V} {st:St} (hP:Post ks (.var cs nm kk) r) (hB:∀x∈ks,∃cs' nm' kk',x.2= .var cs' nm' kk'∧look x.1 st.h=some (.var cs' nm' kk'))
  (hi:look i st.h=some (.var cs nm kk)) (hn:i ∉ ks.map (·.1)) (h3:Wk r' r) (h2:resS P st rs=some r'):∀ {e:AX},(∀id,e≠ .ex id)→fpostV P rs Post e st:=fun {e} he=>by
 have:∃ks b r,Post ks b r∧(∀x∈ks,∃b0,look x.1 st.h=some b0∧WkB b0 x.2)∧(∃id b0,look id st.h=some b0∧WkB b0 b∧id ∉ ks.map (·.1))∧∃r',resS P st rs=some r'∧Wk r' r:=
  ⟨ks,_,r,hP,fun x hx=>by obtain ⟨c,n,k,e1,e2⟩:=hB x hx; exact ⟨_,e2,by rw[e1]; exact WkB.self c n k⟩,⟨i,_,hi,WkB.self cs nm kk,hn⟩,r',h2,h3⟩
 cases e with
 | nm=>exact this
 | rt=>exact this
 | ex id=>exact absurd rfl (he id)
end Go.Ab
namespace Go.Ab
open Go.RowKit Go.Proofs
variable {P : Program} {T : Lay}
def noMk:List Oper→Bool
 | []=>true
 | o::r=>(match o.op with
  | .makeFunc .. => false
  | _=>true) && noMk r
theorem aw_regN {id:Nat} {ops:Array Oper} {l:List Oper} {st:St} {Q:AX→St→Prop} (hl:ops.toList=l) (_hn:noMk l=true) (h:awO P T l l st (Q .nm)):aw P T (.region id ops false) st Q:=aw_reg hl h
theorem runMk {p q r:Prop} (hr:r) (h:q) (e:r→q→p:=by
    intro hr h
    repeat (first
      | with_reducible refine appO_k ?_
      | with_reducible refine appC_k ?_
      | refine aw_seq ?_
      | refine aw_block ?_
      | refine aw_skip ?_
      | refine aw_ret ?_
      | refine aw_exit ?_
      | with_reducible refine And.intro (by clear h; (first | omega | (simp only[List.length_append,List.length_cons,List.length_nil,List.length_drop,List.length_take,List.length_map]; omega))) ?_
      | refine aw_regN rfl rfl ?_
      | refine aw_drw3 (by rfl) rfl (by kernel_rfl) (by (simp only[takeE_cons,takeE_nil,isEnd,Bool.false_eq_true,eq_self,if_false,if_true]) <;> exact rfl) (by (simp only[dropE_cons,dropE_nil,isEnd,Bool.false_eq_true,eq_self,if_false,if_true]) <;> exact rfl) (by rfl) (by (try simp only[frzR,frzC,frz1,frzB,opv_tmp,σ_mk,look_cons',look_nil,Nat.reduceEqDiff,↓reduceIte]) <;> exact rfl) (by rfl) ?_
      | refine aw_drw (by rfl) rfl (by kernel_rfl) (by rfl) (by (try simp only[frzR,frzC,frz1,frzB,opv_tmp,σ_mk,look_cons',look_nil,Nat.reduceEqDiff,↓reduceIte]) <;> exact rfl) ?_
      | (refine aw_cond_t ?_ ?_
         · (simp only[opv_tmp,σ_mk,look_cons',Nat.reduceEqDiff,↓reduceIte,vOf_v]; done))
      | (refine aw_cond_f ?_ ?_
         · (simp only[opv_tmp,σ_mk,look_cons',Nat.reduceEqDiff,↓reduceIte,vOf_v]; done))
      | (simp (config:= {maxSteps:=1000000,implicitDefEqProofs:=false}) (disch:=(first | omega | (simp only[List.length_append,List.length_cons,List.length_nil,List.length_drop,List.length_take,List.length_map]; omega))) only[↓awO_cons,awO_nil,↓awD_cons,awD_nil,↓awE_cons,awE_nil,stepE,↓awC_cons,awC_nil,effD,stepC,↓gsel_true,↓gsel_false,stepO,stpOL,stepD,gdV,movK,putK,retK,retD,retM,evK,awOk_app,awDk_app,awEk_app,awCk_app,awk_app,
          opv_tmp,opv_func,opv_int,opv_bool,opv_nil,opv_nili,opv_tup,opv_str,opv_mapnil,opv_fnil,vOf_v,vOf_p,vOf_s,vOf_m,nu_v,nu_p,nu_m,nu_s,tvsOf,cutS_in,cutS_no,idxS_in,cutV_nn,cutV_ns,cutV_sn,cutV_ss,clearK,argsT,re,σ_mk,args0,unT_nil,unT_v,unT_u,unT_p,unT_m,unT_s,remj_nil,remj_cons,unH_nil,unH_cons,remo_nil,addo_nil,delo_nil,remo_cons,addo_cons,delo_cons,flt_nil,flt_cons,ctn_nil,ctn_cons,ownOf,owner,appK,appL,appS,appX,
          look_cons',look_nil,seth,setAt,ldK,ldO,stO,remBs,hasC_nil,hasC_cons,any_nil',any_cons',tmpOf_t,tmpOf_c,tmpOf_f,vN_v,vN_p,vN_m,nmOf_var,nmOf_map,nmOf_con,mref_m,mref_v,findN,findK_nil,findK_v,findK_m,findK_c,findK_vs,findK_ms,mapN,mapB_m,agg_cell,agg_agg,plc,pid,pof,mpc,setbs,setb,lk,bk,backO,remK,lentO,Blk.wn,Blk.nm,nam,Nat.reduceDiv,Nat.reduceMod,Nat.reduceEqDiff,Nat.reduceBEq,Nat.reduceBNe,↓reduceIte,Nat.reduceAdd,Nat.reduceMul,Nat.reduceLT,Nat.reduceLeDiff,Nat.reduceSub,and_t,Bool.or_true,Bool.or_false,Bool.true_or,Bool.false_or,Bool.and_true,Bool.true_and,Bool.and_false,Bool.false_and,Option.isSome_none,Bool.false_eq_true,reduceCtorEq,
          sqk_nm,sqk_ex,sqk_rt,sq_nm,sq_ex,sq_rt,blk_nm,blk_rt,blk_same,blk_other,
          evq,evb,behind,memV,ld_cell,ld_agg,takeN,fld_eq,sl_eq,arr_eq,arr_no,arr_str,str_eq,bool_eq,ifc_eq,int_eq,und_eq,map_eq,zero_eq,zsome_eq,zok_eq,appok_eq,places_eq,zv_eq,eqt_eq,mapE,eqCells,eqC,nilK,keyT_str,keyT_int,okVal_s,okVal_i,okVal_b,ofVal_s0,ofVal_i,ofVal_b,Option.getD_none,Option.getD_some,cells_cell,cells_agg,info_cell,info_agg,
          idxV,bytV,minV,binV,intOp,strOp,eqOp,convV,capV,capsV,lenV,sliceV,optV,vsOf,partsV,bsV,fillV,oneV,V.one,V.cells,okNot,upsert,keyEq,frzR,frzC,frz1,frzB,
          List.drop_succ_cons,List.drop_zero,List.take_succ_cons,List.take_zero,List.length_cons,List.length_nil,List.nil_append,List.cons_append,List.append_nil,Option.map_some,Option.map_none,Option.bind_some,Option.bind_none,Option.some.injEq,Option.isSome_some,
          List.getElem?_cons_zero,List.getElem?_cons_succ,List.getElem?_map,List.length_map,nat_nn,toNat_cast,b_ft,b_tf,nn_t,ite_le_t,toNat_s,toNat_p,one_int,one_bool,one_nil,one_nili,wrap8_in,tdiv_10,tmod_10,ten_ne,List.size_toArray,eq_self,if_false,if_true,Int.reduceToNat,Int.reduceLE,Int.reduceLT,Int.reduceEq,Int.reduceNeg,Nat.mul_one,Nat.one_mul,Nat.zero_add,Nat.add_zero,wrap_in,dec_lt_t,dec_lt_f,dec_le_t,dec_le_f,dec_eq_t,dec_eq_f,decide_true,decide_false,Bool.not_true,Bool.not_false,cond_true,cond_false,beq_self_eq_true,hr]))
    exact h):p:=e hr h
theorem sorted_heap {w:World} {b n:Nat} {zs:Array Int} {os:Array Obj} {q:Nat} (hq:q<w.heap.size):
  (Sort.grow (Sort.putRow (Value.int .i64) (Sort.ahead w n) b 0 zs) os).heap[q]? = if b=q then (w.heap[q]?).map (Sort.onCells (Sort.putCells (Value.int .i64) 0 zs)) else w.heap[q]? := by
 show ((w.heap.modify b _)++os)[q]? = _
 rw[Array.getElem?_append_left (by simpa using hq),Array.getElem?_modify]
def sortI (l:List Int):List Int:=l.mergeSort fun x y=>decide (x≤y)
theorem sortI_len (l:List Int):(sortI l).length=l.length:=List.length_mergeSort l
theorem look_one {α:Type} {i j:Nat} {x y:α} (h:look i [(j,x)]=some y):i=j∧y=x:=by
 rw[look_cons] at h
 split at h
 ·cases h; exact ⟨‹_›,rfl⟩
 ·cases h
theorem denS_sort {f : FuncId} (hE : Enters P f) (hc : ∀ (blk cap : Nat) (zs : List Int) (w : World),Sort.Holds (Value.int .i64) w blk 0 zs.toArray → blk < w.heap.size → zs.length < 4611686018427387904 →
      Calls P f #[.slice (some ⟨blk,0,none⟩) zs.length cap] w fun e w'=>e= .returned (.tuple #[])∧∃n os,w'=Sort.grow (Sort.putRow (Value.int .i64) (Sort.ahead w n) blk 0 (zs.mergeSort fun x y=>decide (x≤y)).toArray) os)
    (zs:List Int) (kk:Option (TypeId×Nat×Nat)) (hl:zs.length≤1048576):
    DenS P T f [(999000,.var (zs.map fun x=>V.val (.int .i64 x)) none kk)] [] [.s 999000 0 zs.length 1] [(999000,.var ((sortI zs).map fun x=>V.val (.int .i64 x)) none kk)] [] (.v (.tup [])):=by
  refine ⟨hE,fun w F ρ X xs hF hL hD hx=> ?_⟩
  obtain ⟨hx1,hx2⟩:=hx
  match xs,hx1 with
  | [x],_=>
  obtain ⟨cap,c1,c2,c3,rfl⟩:=hx2 0 _ x rfl rfl
  obtain ⟨⟨ys,ty,e1,e2,e3,e4,e5⟩,hX,hlt⟩:=hD.hp 999000 _ rfl
  have hys:∀(j:Nat) (z:Int),zs[j]? = some z→ys[j]? = some (.int .i64 z):=fun j z hz=>by
    have hj:=(List.getElem?_eq_some_iff.1 hz).1
    have h1:j<ys.size:=by rw[List.length_map] at e2; omega
    have:=e4 j (V.val (.int .i64 z)) ys[j] (by rw[List.getElem?_map,hz]; rfl) (Array.getElem?_eq_getElem h1)
    rw[Array.getElem?_eq_getElem h1,rep_val_inv this]
  have hH:Sort.Holds (Value.int .i64) w (ρ 999000) 0 zs.toArray:=fun j hj=>by
    simp only[List.size_toArray] at hj
    constructor
    · have h1:=hys j zs[j] (List.getElem?_eq_getElem hj)
      simp only[World.cell?,e1,Nat.zero_add]
      rw[h1]
      simp[hj]
    · simp[World.frozen?,e1]
  refine (hc (ρ 999000) cap zs w hH hlt (by omega)).mono ?_
  rintro e w' ⟨rfl,n,os,rfl⟩
  obtain ⟨Z,hZ⟩:∃Z,sortI zs=Z:=⟨_,rfl⟩
  have hlen:Z.length=zs.length:=by rw[← hZ,sortI_len]
  rw[show (zs.mergeSort fun x y=>decide (x≤y))=Z from hZ,hZ]
  have hk:∀q,q<w.heap.size→q≠ρ 999000→(Sort.grow (Sort.putRow (Value.int .i64) (Sort.ahead w n) (ρ 999000) 0 Z.toArray) os).heap[q]? = w.heap[q]? := fun q hq hne=>by
    rw[sorted_heap hq,if_neg (Ne.symm hne)]
  have hb:(Sort.grow (Sort.putRow (Value.int .i64) (Sort.ahead w n) (ρ 999000) 0 Z.toArray) os).heap[ρ 999000]? = some (.cells (Sort.putCells (Value.int .i64) 0 Z.toArray ys) ty.1 (0,0)):=by
    rw[sorted_heap hlt,if_pos rfl,e1]; rfl
  have hsz:w.heap.size≤(Sort.grow (Sort.putRow (Value.int .i64) (Sort.ahead w n) (ρ 999000) 0 Z.toArray) os).heap.size:=by simp
  generalize hw':Sort.grow (Sort.putRow (Value.int .i64) (Sort.ahead w n) (ρ 999000) 0 Z.toArray) os=w' at hk hb hsz
  have hws:(Sort.putCells (Value.int .i64) 0 Z.toArray ys).size=ys.size:=by simp[Sort.putCells]
  have hsees:Sees F w':=⟨fun p v e=>by
      have h1:=hF p v e
      rw[← h1]
      exact World.cell?_of_block (hk _ (cell_lt h1) (e5 p v e)),fun b xs e=>by
      obtain ⟨ck,h1⟩:=hF.m b xs e
      refine ⟨ck,(hk b (map_lt hF e) ?_).trans h1⟩
      rintro rfl
      rw[e1] at h1; cases h1⟩
  refine ⟨_,F,rfl,⟨Le.refl F,hsees,fun _ _ h=> .inl h,fun _ _ h=> .inl h,by rw[← hw']; rfl,by rw[← hw']; rfl,by rw[← hw']; rfl,hsz,fun q hq hn=>hk q hq (fun he=>hn (he▸hX))⟩,?_,.tup rfl (fun j c x h=>nomatch h)⟩
  refine { hp:=fun id k h=> ?_,nb:=fun id k b h hb=> ?_,inj:=fun id id' k k' h h' _=> ?_,ow:=(fun j e c h=>nomatch h),od:=(fun j j' e c e' c' _ h=>nomatch h),oc:=(fun j e c h=>nomatch h),lay:=fun g hg hX'=> ?_ }
  · obtain ⟨rfl,rfl⟩:=look_one h
    refine ⟨⟨_,⟨ty.1,ty.2.size hws⟩,hb,by rw[hws,List.length_map,hlen]; rw[List.length_map] at e2; exact e2,fun c hc=> ?_,fun j c x h1 h2=> ?_,e5⟩,.inl hX,Nat.lt_of_lt_of_le hlt hsz⟩
    · obtain ⟨z,-,rfl⟩:=List.mem_map.1 hc; rfl
    · rw[List.getElem?_map,Option.map_eq_some_iff] at h1
      obtain ⟨z,hz,rfl⟩:=h1
      have hj:=(List.getElem?_eq_some_iff.1 hz).1
      simp only[Sort.putCells,Array.getElem?_mapIdx,Option.map_eq_some_iff] at h2
      obtain ⟨y,hy,rfl⟩:=h2
      rw[if_pos ⟨Nat.zero_le _,by simpa using hj⟩]
      have:Z.toArray[j-0]! = z:=by
        obtain ⟨hj',rfl⟩:=List.getElem?_eq_some_iff.1 hz
        simp[hj']
      rw[this]
      exact .val _
  · obtain ⟨rfl,rfl⟩:=look_one h
    cases hb
  · rw[(look_one h).1,(look_one h').1]
  · rcases hX' with hX' | hX'
    · exact hD.lay g hg hX'
    · obtain ⟨xs,hxs⟩:=Option.ne_none_iff_exists'.1 hg
      obtain ⟨⟨ty,fz,h1⟩,-⟩:=hL.2 g xs hxs
      have:=heap_lt h1
      omega
theorem frzt1_r {t id r n cap size:Nat} {e:TypeId} {cs:List V} {nm:Option Nat} {st:St} (h1:look t st.t=some (.v (.val (.slice (some ⟨r,0,none⟩) n cap)))) (hf:findN r st.h=some id) (h2:look id st.h=some (.var cs nm (some (e,size,cap)))) (h3:n≤cap) (h4:n*size≤cs.length):
  frzt1 t st= { st with t:=(t,.v (.slice size (chunk 0 n size cs)))::st.t,h:=frz1 id (seth id (.var cs) st.h),o:=remo t st.o } := by
 unfold frzt1; rw[h1]; simp only; rw[hf]; simp only; rw[h2]; simp only; rw[if_pos ⟨trivial,h3,h4⟩]
theorem finFr {t id r n cap size:Nat} {e:TypeId} {cs:List V} {nm:Option Nat} {st:St} {v:V} (hr:Wk (.slice size (chunk 0 n size cs)) v) (h3:n≤cap) (h4:n*size≤cs.length) (hf:findN r st.h=some id) (h1:look t st.t=some (.v (.val (.slice (some ⟨r,0,none⟩) n cap))):=by rfl) (h2:look id st.h=some (.var cs nm (some (e,size,cap))):=by rfl):fpost P [.tmp t] v .rt st:=by
 refine .inr ⟨_,?_,hr⟩
 show resS P (frzt1 t st) _=_
 rw[frzt1_r h1 hf h2 h3 h4]
 exact resS1 (by simp only[resV,σ_mk,look_cons',↓reduceIte,vOf_v])
theorem chunk_one {α:Type} (f:α→V) (l:List α):chunk 0 l.length 1 (l.map f)=l.map fun x=>[f x]:=by
 apply List.ext_getElem?
 intro i
 simp only[chunk,List.getElem?_map,Nat.zero_add,Nat.mul_one]
 by_cases h:i<l.length
 ·rw[List.getElem?_range h,List.getElem?_eq_getElem h]
  simp only[Option.map_some]
  rw[List.drop_eq_getElem_cons (by simpa using h)]
  simp
 ·rw[List.getElem?_eq_none (by simpa using h),List.getElem?_eq_none (by omega)]; rfl
end Go.Ab
namespace Go.Ab
open Go.RowKit
variable {P : Program} {T : Lay}
inductive Otree where
 | done
 | one (i:Nat) (r:Otree)
 | alt (i:Nat) (r more:Otree)
 | nil
 | sort (r:Otree)
def isPure (o:Oper):Bool:=o.guard.isNone && match o.op with
 | .fieldAddr .. => true
 | .move _=>true
 | _=>false
def Otree.has (j:Nat):Otree→Bool
 | .alt i _ more=>i == j || more.has j
 | _=>false
def Otree.dep:Otree→Nat
 | .done=>0
 | .one _ r=>r.dep+1
 | .alt _ r more=>max (r.dep+1) more.dep
 | .nil=>0
 | .sort r=>r.dep
def okT (ops:Array Oper):Bool→Otree→Array Bool→Bool
 | b,.done,li=> !b && (Region.ready .any ops li).isEmpty
 | b,.one i r,li=> !b && (Region.ready .any ops li).contains i && Region.free .any ops li i && ((ops[i]?).map isPure == some true) && okT ops false r (li.setIfInBounds i true)
 | b,.alt i r more,li=>(b || ((Region.ready .any ops li).contains i && (Region.ready .any ops li).all fun j=>j == i || more.has j)) && okT ops false r (li.setIfInBounds i true) && okT ops true more li
 | b,.nil,_=>b
 | b,.sort r,li=> !b && okT ops false r li
def plainOps (ops:Array Oper):Bool:=ops.all fun o=>match o.op with
 | .defer _=>false
 | .select .. => false
 | _=>true
def okTree (ops:Array Oper) (t:Otree):Bool:=plainOps ops && okT ops false t (Array.replicate ops.size false) && Nat.ble t.dep ops.size
def stepI (P:Program) (T:Lay) (l:List Oper) (i:Nat) (st:St) (K:St→Prop):Prop:=match l[i]? with
 | none=>False
 | some o=>match gdV l o st.σ with
  | none=>False
  | some b=>gsel b (stepO P T o st K) (putK st o.dst .u K)
def nrmT:List Oper→List (Nat×TV)→List (Nat×TV)
 | [],t=>t
 | o::l,t=>match o.dst with
  | none=>nrmT l t
  | some d=>match look d t with
   | some tv=>nrmT l ((d,tv)::remj d t)
   | none=>nrmT l t
def awT (P:Program) (T:Lay) (l:List Oper) (K:St→Prop):Otree→St→Prop
 | .done,st=>K { st with t:=nrmT l st.t }
 | .one i r,st=>stepI P T l i st (awT P T l K r)
 | .alt i r more,st=>stepI P T l i st (awT P T l K r)∧awT P T l K more st
 | .nil,_=>True
 | .sort r,st=>awT P T l K r { st with t:=nrmT l st.t }
theorem remj_other {j i:Nat} : ∀ {l:List (Nat×TV)},i≠j→look i (remj j l)=look i l
 | [],_=>rfl
 | (k,x)::r,h=>by
  rw[remj_cons]
  split
  ·rename_i hk
   rw[remj_other h,look_cons,if_neg (by omega)]
  ·rw[look_cons,look_cons,remj_other h]
theorem nrmT_look:∀(l:List Oper) (t:List (Nat×TV)) (i:Nat),look i (nrmT l t)=look i t
 | [],_,_=>rfl
 | o::l,t,i=>by
  unfold nrmT
  split
  ·exact nrmT_look l t i
  ·rename_i d _
   split
   ·rename_i tv htv
    rw[nrmT_look l,look_cons]
    split
    ·rename_i e; rw[e,htv]
    ·rename_i e; rw[remj_other e]
   ·exact nrmT_look l t i
section
variable {ops : Array Oper} {rd : Option Nat} {w0 w : World} {M : Nat → Prop} {F0 F : Frz} {ρ : Nat → Nat} {a : Act} {st : St} {Q : Exit → Act → World → Prop}
theorem opG_put {oj:Oper} {d:Option Tmp} {v:Value} (hnd:∀c,oj.op≠ .defer c) (hsj:∀cs b,oj.op≠ .select cs b) (h1:∀d',d=some d'→d' ∉ oj.looksAt ops) (h2:∀d',d=some d'→oj.dst≠some d') (hQ:∀c a w,¬Q (.panic c) a w)
  {I:Act→Prop} (hI:∀u,I (a.put oj.dst u)) (hI':∀dd,I ({ a with defers:=dd::a.defers }.put oj.dst undef)) {K:Act→World→Prop} (h:opG rd P oj (a.put d v) w K Q):opG rd P oj a w (fun a' w'=>I a'∧K (a'.put d v) w') Q:=by
 refine ⟨fun _ _=>trivial,?_⟩
 have h:=h.2
 rw[Oper.semAt_eq _ _ _ hnd,execOp_put (ops:=ops) oj hsj a d v h1] at h
 rw[Oper.semAt_eq _ _ _ hnd]
 generalize (execOp a.eval oj).run P w=r at *
 cases r with
 | ok x w'=>
  cases x <;> simp only[Oper.uponIn] at h ⊢
  case value u=>exact ⟨hI u,by rw[← Act.put_comm a v u h2]; exact h⟩
  case skip=>exact ⟨hI _,by rw[← Act.put_comm a v undef h2]; exact h⟩
  case defer dd=>exact ⟨hI' dd,by rw[← Act.put_comm _ v undef h2,← Act.put_defers]; exact h⟩
  case enter f args=>
   refine ⟨h.1,CallsIn.mono h.2 fun e w'' he=> ?_⟩
   cases e with
   | returned u=>exact ⟨hI u,by rw[← Act.put_comm a v u h2]; exact he⟩
   | panicked c=>exact (hQ _ _ _ he).elim
   | outgrown=>exact he
  case row row args=>exact ⟨h.1,RowsIn.mono h.2 fun u w'' he=>⟨hI u,by rw[← Act.put_comm a v u h2]; exact he⟩⟩
  case round l f tmps assign body=>
   refine ⟨h.1,RoundIn.mono h.2 fun e w'' he=> ?_⟩
   cases e with
   | returned u=>exact ⟨hI u,by rw[← Act.put_comm a v u h2]; exact he⟩
   | panicked c=>exact (hQ _ _ _ he).elim
   | outgrown=>exact he
 | halt x w'=>
  cases x <;> simp only[Oper.uponIn] at h ⊢
  case panic u=>exact (hQ _ _ _ h).elim
theorem plain_spec (h:plainOps ops=true) {j:Nat} {o:Oper} (ho:ops[j]? = some o):(∀c,o.op≠ .defer c)∧∀cs b,o.op≠ .select cs b:=by
 have:=Array.all_eq_true_iff_forall_mem.1 h o (Array.mem_of_getElem? ho)
 refine ⟨fun c e=> ?_,fun cs b e=> ?_⟩
 ·rw[e] at this; cases this
 ·rw[e] at this; cases this
theorem any_first {i:Nat} {oi:Oper} {v:Value} (hi:ops[i]? = some oi) (hg:oi.guard=none) (hpl:plainOps ops=true) (hQ:∀c a w,¬Q (.panic c) a w):
  ∀(fuel:Nat) (li:Array Bool) (a:Act) (w:World),(∀j oj,ops[j]? = some oj→j≠i→li.getD j true=false→(∀e∈oj.after,Region.binds .any e=true→e.on≠i)→oi.apart ops oj=true)→
   i∈Region.ready .any ops li→(∀w,(execOp a.eval oi).run P w= .ok (.value v) w)→
   wpAnyIn (fc rd) 0 P .any ops Q fuel (li.setIfInBounds i true) (a.put oi.dst v) w→wpAnyIn (fc rd) 0 P .any ops Q (fuel+1) li a w:=by
 have self:∀ {K:Act→World→Prop} {a:Act} {w:World},(∀w,(execOp a.eval oi).run P w= .ok (.value v) w)→K (a.put oi.dst v) w→wpOpIn (fc rd) 0 P ops Q i K a w:=fun {K a w} hy hK=>by
  unfold wpOpIn
  simp only[hi]
  have hw:Region.wanted oi (yielded ops a.tmps)=true:=by unfold Region.wanted; rw[hg]
  rw[hw,if_pos rfl]
  exact opG_value (hy w) hK
 intro fuel
 induction fuel with
 | zero=>
  intro li a w _ hr hy H
  refine ⟨fun h=>(by rw[h] at hr; cases hr),fun j hj=> ?_⟩
  by_cases hji:j=i
  ·subst hji; exact self hy H
  ·have:=ready_mono hj hji
   rw[H.1] at this
   cases this
 | succ fuel ih=>
  intro li a w hfree hr hy H
  refine ⟨fun h=>(by rw[h] at hr; cases hr),fun j hj=> ?_⟩
  by_cases hji:j=i
  ·subst hji; exact self hy H
  ·have h1:=H.2 j (ready_mono hj hji)
   obtain ⟨hjun,oj,hoj,hall⟩:=mem_ready.1 hj
   have hnot:∀e∈oj.after,Region.binds .any e=true→e.on≠i:=fun e he hb heq=>by
    have g1:=hall e he hb
    have g0:=(mem_ready.1 hr).1
    rw[heq] at g1
    rcases Nat.lt_or_ge i li.size with h' | h'
    ·simp[h'] at g0 g1; rw[g0] at g1; cases g1
    ·simp[Array.getElem?_eq_none h'] at g1
   obtain ⟨p1,p2,p3⟩:=Oper.apart_spec (hfree j oj hoj hji hjun hnot)
   obtain ⟨q1,q2⟩:=plain_spec hpl hoj
   have hsi:=(plain_spec hpl hi).2
   have hfree':∀k ok,ops[k]? = some ok→k≠i→(li.setIfInBounds j true).getD k true=false→(∀e∈ok.after,Region.binds .any e=true→e.on≠i)→oi.apart ops ok=true:=fun k ok hk hki hun hno=>by
    refine hfree k ok hk hki ?_ hno
    by_cases hjk:j=k
    ·subst hjk; exact hjun
    ·rw[getD_set_ne true hjk] at hun; exact hun
   have next:∀a' w',((∀w,(execOp a'.eval oi).run P w= .ok (.value v) w)∧wpAnyIn (fc rd) 0 P .any ops Q fuel ((li.setIfInBounds i true).setIfInBounds j true) (a'.put oi.dst v) w')→wpAnyIn (fc rd) 0 P .any ops Q (fuel+1) (li.setIfInBounds j true) a' w':=fun a' w' h3=>
    ih (li.setIfInBounds j true) a' w' hfree' (ready_mono hr (Ne.symm hji)) h3.1 (by rw[Array.setIfInBounds_comm _ _ hji]; exact h3.2)
   refine wpOpIn_mono next ?_
   unfold wpOpIn at h1 ⊢
   simp only[hoj] at h1 ⊢
   rw[wanted_put (ops:=ops) oj a oi.dst v p1] at h1
   split
   ·rename_i hw
    rw[if_pos hw] at h1
    exact opG_put (ops:=ops) q1 q2 p1 p2 hQ (I:=fun a'=>∀w,(execOp a'.eval oi).run P w= .ok (.value v) w) (fun u=>by rw[execOp_put (ops:=ops) oi hsi a oj.dst u p3]; exact hy)
     (fun dd=>by rw[execOp_put (ops:=ops) oi hsi { a with defers:=dd::a.defers } oj.dst undef p3]; exact hy) h1
   ·rename_i hw
    rw[if_neg hw] at h1
    refine ⟨fun _ _=>trivial,?_,?_⟩
    ·rw[execOp_put (ops:=ops) oi hsi a oj.dst undef p3]; exact hy
    ·rw[← Act.put_comm a v undef p2]; exact h1.2
theorem pure_all {o:Oper} {K:St→Prop} (S:SimS P T M F0 w0 F ρ st a w) (hp:isPure o=true) (h:stepO P T o st K):∃v,∀w,(execOp a.eval o).run P w= .ok (.value v) w:=by
 simp only[isPure,Bool.and_eq_true] at hp
 obtain ⟨-,hp⟩:=hp
 split at hp
 ·rename_i s x f ho
  have h':evK P o st K:=by unfold stepO at h; rw[ho] at h; exact h
  unfold evK at h'
  rw[ho] at h'
  have G:=Sim.good S
  cases hf:fldV P s f with
  | none=>
   exfalso
   simp only[evq,hf,evb] at h'
  | some q=>
   obtain ⟨off,ft⟩:=q
   have hx:∃ad,a.eval x= .pointer (some ad):=by
    cases hxv:opv st.σ x with
    | none=>exfalso; simp only[evq,hf,hxv,evb] at h'
    | some tv=>
     cases tv with
     | v y=>
      cases y with
      | row cs=>
       obtain ⟨ad,g,hv,-⟩:=rep_row_inv (show Rep F (.row cs) (a.eval x) from G.opr x _ hxv)
       exact ⟨ad,hv⟩
      | _=>exfalso; simp only[evq,hf,hxv,evb] at h'
     | p id o'=>exact ⟨_,show a.eval x=_ from G.opr x _ hxv⟩
     | _=>exfalso; simp only[evq,hf,hxv,evb] at h'
   obtain ⟨ad,had⟩:=hx
   refine ⟨.pointer (some (ad.add off)),fun w=> ?_⟩
   have:=fieldAt_run (P:=P) hf ad w
   unfold execOp
   rw[ho]
   simp only[had]
   simp[this,Result.andThen]
 ·rename_i x ho
  exact ⟨a.eval x,fun w=>by unfold execOp; rw[ho]; rfl⟩
 ·cases hp
theorem ready_op {i:Nat} {li:Array Bool} (h:i∈Region.ready .any ops li):∃o,ops[i]? = some o:=by
 obtain ⟨-,o,ho,-⟩:=mem_ready.1 h
 exact ⟨o,ho⟩
theorem stepI_sound {i:Nat} {o:Oper} {K:St→Prop} {next:Act→World→Prop} (hi:ops[i]? = some o) (S:SimS P T M F0 w0 F ρ st a w) (h:stepI P T ops.toList i st K)
  (k:∀F' ρ' st' a' w',SimS P T M F0 w0 F' ρ' st' a' w'→K st'→next a' w'):wpOpIn (fc rd) 0 P ops Q i next a w:=by
 unfold stepI at h
 have hi':ops.toList[i]? = some o:=by simpa using hi
 rw[hi'] at h
 simp only at h
 cases hg:gdV ops.toList o st.σ with
 | none=>rw[hg] at h; exact h.elim
 | some b=>
  rw[hg] at h
  unfold wpOpIn
  simp only[hi]
  rw[Sim.wanted S hg]
  cases b with
  | true=>
   simp only[gsel_true] at h
   rw[if_pos rfl]
   exact stepO_sound S h k
  | false=>
   simp only[gsel_false] at h
   rw[if_neg (by simp)]
   obtain ⟨st',S',hK⟩:=putK_sound (tv:= .u) (x:=undef) S rfl trivial h
   exact ⟨fun _ _=>trivial,k F ρ st' _ w S' hK⟩
theorem tree_sound {K:St→Prop} (hpl:plainOps ops=true) (hQ:∀c a w,¬Q (.panic c) a w) (hK:∀F' ρ' st' a' w',SimS P T M F0 w0 F' ρ' st' a' w'→K st'→Q .normal a' w'):∀(t:Otree) (b:Bool) (li:Array Bool) (fuel:Nat) (F:Frz) (ρ:Nat→Nat) (st:St) (a:Act) (w:World),
  okT ops b t li=true→t.dep≤fuel→SimS P T M F0 w0 F ρ st a w→awT P T ops.toList K t st→
  (b=false→wpAnyIn (fc rd) 0 P .any ops Q fuel li a w)∧(∀i,t.has i=true→i∈Region.ready .any ops li→∀f',fuel=f'+1→wpOpIn (fc rd) 0 P ops Q i (wpAnyIn (fc rd) 0 P .any ops Q f' (li.setIfInBounds i true)) a w)
 | .done,b,li,fuel,F,ρ,st,a,w,ho,hd,S,h=>by
  simp only[okT,Bool.and_eq_true,Bool.not_eq_true'] at ho
  have hr:Region.ready .any ops li=[]:=List.isEmpty_iff.1 ho.2
  refine ⟨fun _=> ?_,fun i hi=>(by cases hi)⟩
  have hq:Q .normal a w:=hK F ρ { st with t:=nrmT ops.toList st.t } a w (by
   have e:(St.mk st.n (nrmT ops.toList st.t) st.h st.o).σ=st.σ:=funext fun i=>nrmT_look _ _ _
   show Sim P T M F0 w0 F ρ st.n (St.mk st.n (nrmT ops.toList st.t) st.h st.o).σ st.h st.o a w
   rw[e]; exact S) h
  cases fuel with
  | zero=>exact ⟨hr,hq⟩
  | succ n=>exact ⟨fun _=>hq,by rw[hr]; simp⟩
 | .sort r,b,li,fuel,F,ρ,st,a,w,ho,hd,S,h=>by
  simp only[okT,Bool.and_eq_true,Bool.not_eq_true'] at ho
  have S':SimS P T M F0 w0 F ρ { st with t:=nrmT ops.toList st.t } a w:=by
   have e:(St.mk st.n (nrmT ops.toList st.t) st.h st.o).σ=st.σ:=funext fun i=>nrmT_look _ _ _
   show Sim P T M F0 w0 F ρ st.n (St.mk st.n (nrmT ops.toList st.t) st.h st.o).σ st.h st.o a w
   rw[e]; exact S
  exact ⟨fun _=>(tree_sound hpl hQ hK r false li fuel F ρ _ a w ho.2 hd S' h).1 rfl,fun i hi=>by cases hi⟩
 | .nil,b,li,fuel,F,ρ,st,a,w,ho,hd,S,h=>by
  simp only[okT] at ho
  subst ho
  exact ⟨fun e=>(by cases e),fun i hi=>(by cases hi)⟩
 | .one i r,b,li,fuel,F,ρ,st,a,w,ho,hd,S,h=>by
  simp only[okT,Bool.and_eq_true,Bool.not_eq_true'] at ho
  obtain ⟨⟨⟨⟨h1,h2⟩,h3⟩,h4⟩,h5⟩:=ho
  simp only[Otree.dep] at hd
  refine ⟨fun _=> ?_,fun i hi=>(by cases hi)⟩
  obtain ⟨f',rfl⟩:∃f',fuel=f'+1:=⟨fuel-1,by omega⟩
  have hri:i∈Region.ready .any ops li:=by simpa using h2
  obtain ⟨o,hoi⟩:=ready_op hri
  rw[hoi] at h4
  have hp:isPure o=true:=by simpa using h4
  have hg:o.guard=none:=by
   simp only[isPure,Bool.and_eq_true] at hp
   exact Option.isNone_iff_eq_none.1 hp.1
  simp only[awT] at h
  have hs:stepO P T o st (awT P T ops.toList K r):=by
   unfold stepI at h
   have hi':ops.toList[i]? = some o:=by simpa using hoi
   rw[hi'] at h
   simp only[gdV,hg,gsel_true] at h
   exact h
  obtain ⟨v,hv⟩:=pure_all S hp hs
  refine any_first (P:=P) hoi hg hpl hQ f' li a w (Region.free_spec hoi h3) hri hv ?_
  have:=stepO_sound (rd:=rd) (Q:=Q) (next:=wpAnyIn (fc rd) 0 P .any ops Q f' (li.setIfInBounds i true)) S hs fun F' ρ' st' a' w' S' hK'=>(tree_sound hpl hQ hK r false _ f' F' ρ' st' a' w' h5 (by omega) S' hK').1 rfl
  have h6:=this.2
  rw[Oper.semAt_eq _ _ _ (plain_spec hpl hoi).1,hv w] at h6
  exact h6
 | .alt i r more,b,li,fuel,F,ρ,st,a,w,ho,hd,S,h=>by
  simp only[okT,Bool.and_eq_true] at ho
  obtain ⟨⟨h1,h2⟩,h3⟩:=ho
  simp only[Otree.dep] at hd
  simp only[awT] at h
  obtain ⟨hs,hm⟩:=h
  have key:∀j,(Otree.alt i r more).has j=true→j∈Region.ready .any ops li→∀f',fuel=f'+1→wpOpIn (fc rd) 0 P ops Q j (wpAnyIn (fc rd) 0 P .any ops Q f' (li.setIfInBounds j true)) a w:=fun j hj hr f' hf=>by
   simp only[Otree.has,Bool.or_eq_true,beq_iff_eq] at hj
   rcases hj with rfl | hj
   ·obtain ⟨o,hoi⟩:=ready_op hr
    exact stepI_sound hoi S hs fun F' ρ' st' a' w' S' hK'=>(tree_sound hpl hQ hK r false _ f' F' ρ' st' a' w' h2 (by omega) S' hK').1 rfl
   ·exact (tree_sound hpl hQ hK more true li fuel F ρ st a w h3 (by omega) S hm).2 j hj hr f' hf
  refine ⟨fun hb=> ?_,key⟩
  subst hb
  simp only[Bool.false_or,Bool.and_eq_true,List.all_eq_true] at h1
  obtain ⟨h0,h1⟩:=h1
  obtain ⟨f',rfl⟩:∃f',fuel=f'+1:=⟨fuel-1,by omega⟩
  refine ⟨fun h=> ?_,fun j hj=> ?_⟩
  ·rw[h] at h0; cases h0
  ·exact key j (by
    have:=h1 j hj
    simp only[Bool.or_eq_true,beq_iff_eq] at this
    simp only[Otree.has,Bool.or_eq_true,beq_iff_eq]
    exact this.imp Eq.symm id) hj f' rfl
end
theorem aw_tree [hm:Mixed P] {id:Nat} {ops:Array Oper} {l:List Oper} {st:St} {Q:AX→St→Prop} (t:Otree) (k:awT P T l (Q .nm) t st) (hl:ops.toList=l:=by rfl) (hB:okTree ops t=true:=by kernel_rfl):aw P T (.region id ops true) st Q:=by
 subst hl
 refine awL_sem ?_
 intro rd M F0 w0 F ρ a w Q' id S hQ
 simp only[okTree,Bool.and_eq_true] at hB
 obtain ⟨⟨h1,h2⟩,h3⟩:=hB
 have hx:Ext F w F w.drew:=(Ext.refl S.sees).drew
 have:=(tree_sound (rd:=rd) (Q:=fun e a w=>match e with | .normal=>∃F' ρ' st',SimS P T M F0 w0 F' ρ' st' a w∧Q .nm st' | _=>False) h1 (fun _ _ _ h=>h) (fun F' ρ' st' a' w' S' hK=>⟨F',ρ',st',S',hK⟩) t false _ ops.size F ρ st a w.drew h2 (Nat.le_of_ble_eq_true h3) (Sim.ext S hx) k).1 rfl
 refine wpIn_mono (wpIn_region_any hm.eq this) ?_
 intro e a' w' hq
 cases e with
 | normal=>obtain ⟨F',ρ',st',S',hK⟩:=hq; exact hQ F' ρ' st' a' w' S' hK
 | _=>exact hq.elim
def awTk (P:Program) (T:Lay) (l:List Oper) (K:St→Prop) (r:Otree):St→Prop:=fun st=>awT P T l K r st
theorem awT_done {l:List Oper} {K:St→Prop} {st:St} : awT P T l K .done st=K { st with t:=nrmT l st.t } := rfl
theorem awT_one {l:List Oper} {K:St→Prop} {st:St} {i:Nat} {r:Otree} : awT P T l K (.one i r) st=stepI P T l i st (awTk P T l K r):=rfl
theorem awT_alt {l:List Oper} {K:St→Prop} {st:St} {i:Nat} {r more:Otree} : awT P T l K (.alt i r more) st=(stepI P T l i st (awTk P T l K r)∧awT P T l K more st):=rfl
theorem awT_sort {l:List Oper} {K:St→Prop} {st:St} {r:Otree} : awT P T l K (.sort r) st=awTk P T l K r { st with t:=nrmT l st.t } := rfl
theorem awT_nil {l:List Oper} {K:St→Prop} {st:St} : awT P T l K .nil st=True:=rfl
theorem awTk_app {l:List Oper} {K:St→Prop} {st:St} {r:Otree} : awTk P T l K r st=awT P T l K r st:=rfl
@[congr] theorem awT_cg {l : List Oper} {K : St → Prop} {r : Otree} {st st' : St} (h : st = st') : awT P T l K r st = awT P T l K r st' := by rw [h]
@[congr] theorem awTk_cg {l : List Oper} {K : St → Prop} {r : Otree} : awTk P T l K r = awTk P T l K r := rfl
theorem runTree {p q r:Prop} (hr:r) (h:q) (e:r→q→p:=by
    intro hr h
    repeat (first
      | with_reducible refine appO_k ?_
      | with_reducible refine appC_k ?_
      | refine aw_seq ?_
      | refine aw_block ?_
      | refine aw_skip ?_
      | refine aw_ret ?_
      | refine aw_exit ?_
      | with_reducible refine And.intro (by clear h; (first | omega | (simp only[List.length_append,List.length_cons,List.length_nil,List.length_drop,List.length_take,List.length_map]; omega))) ?_
      | refine aw_reg rfl ?_
      | refine aw_drw3 (by rfl) rfl (by kernel_rfl) (by (simp only[takeE_cons,takeE_nil,isEnd,Bool.false_eq_true,eq_self,if_false,if_true]) <;> exact rfl) (by (simp only[dropE_cons,dropE_nil,isEnd,Bool.false_eq_true,eq_self,if_false,if_true]) <;> exact rfl) (by rfl) (by (try simp only[frzR,frzC,frz1,frzB,opv_tmp,σ_mk,look_cons',look_nil,Nat.reduceEqDiff,↓reduceIte]) <;> exact rfl) (by rfl) ?_
      | refine aw_drw (by rfl) rfl (by kernel_rfl) (by rfl) (by (try simp only[frzR,frzC,frz1,frzB,opv_tmp,σ_mk,look_cons',look_nil,Nat.reduceEqDiff,↓reduceIte]) <;> exact rfl) ?_
      | (refine aw_cond_t ?_ ?_
         · (simp only[opv_tmp,σ_mk,look_cons',Nat.reduceEqDiff,↓reduceIte,vOf_v]; done))
      | (refine aw_cond_f ?_ ?_
         · (simp only[opv_tmp,σ_mk,look_cons',Nat.reduceEqDiff,↓reduceIte,vOf_v]; done))
      | (simp (config:= {maxSteps:=1000000,implicitDefEqProofs:=false}) (disch:=(first | omega | (simp only[List.length_append,List.length_cons,List.length_nil,List.length_drop,List.length_take,List.length_map]; omega))) only[↓awT_done,↓awT_one,↓awT_alt,↓awT_sort,awT_nil,awTk_app,stepI,nrmT,and_self,and_true,↓awO_cons,awO_nil,↓awD_cons,awD_nil,↓awE_cons,awE_nil,stepE,↓awC_cons,awC_nil,effD,stepC,↓gsel_true,↓gsel_false,stepO,stpOL,stepD,gdV,movK,putK,retK,retD,retM,evK,awOk_app,awDk_app,awEk_app,awCk_app,awk_app,
          opv_tmp,opv_func,opv_int,opv_bool,opv_nil,opv_nili,opv_tup,opv_str,opv_mapnil,opv_fnil,vOf_v,vOf_p,vOf_s,vOf_m,nu_v,nu_p,nu_m,nu_s,tvsOf,cutS_in,cutS_no,idxS_in,cutV_nn,cutV_ns,cutV_sn,cutV_ss,clearK,argsT,re,σ_mk,args0,unT_nil,unT_v,unT_u,unT_p,unT_m,unT_s,remj_nil,remj_cons,unH_nil,unH_cons,remo_nil,addo_nil,delo_nil,remo_cons,addo_cons,delo_cons,flt_nil,flt_cons,ctn_nil,ctn_cons,ownOf,owner,appK,appL,appS,appX,
          look_cons',look_nil,seth,setAt,ldK,ldO,stO,remBs,hasC_nil,hasC_cons,any_nil',any_cons',tmpOf_t,tmpOf_c,tmpOf_f,vN_v,vN_p,vN_m,nmOf_var,nmOf_map,nmOf_con,mref_m,mref_v,findN,findK_nil,findK_v,findK_m,findK_c,findK_vs,findK_ms,mapN,mapB_m,agg_cell,agg_agg,plc,pid,pof,mpc,setbs,setb,lk,bk,backO,remK,lentO,Blk.wn,Blk.nm,nam,Nat.reduceDiv,Nat.reduceMod,Nat.reduceEqDiff,Nat.reduceBEq,Nat.reduceBNe,↓reduceIte,Nat.reduceAdd,Nat.reduceMul,Nat.reduceLT,Nat.reduceLeDiff,Nat.reduceSub,and_t,Bool.or_true,Bool.or_false,Bool.true_or,Bool.false_or,Bool.and_true,Bool.true_and,Bool.and_false,Bool.false_and,Option.isSome_none,Bool.false_eq_true,reduceCtorEq,
          sqk_nm,sqk_ex,sqk_rt,sq_nm,sq_ex,sq_rt,blk_nm,blk_rt,blk_same,blk_other,
          evq,evb,behind,memV,ld_cell,ld_agg,takeN,fld_eq,sl_eq,arr_eq,arr_no,arr_str,str_eq,bool_eq,ifc_eq,int_eq,und_eq,map_eq,zero_eq,zsome_eq,zok_eq,appok_eq,places_eq,zv_eq,eqt_eq,mapE,eqCells,eqC,nilK,keyT_str,keyT_int,okVal_s,okVal_i,okVal_b,ofVal_s0,ofVal_i,ofVal_b,Option.getD_none,Option.getD_some,cells_cell,cells_agg,info_cell,info_agg,
          idxV,bytV,minV,binV,intOp,strOp,eqOp,convV,capV,capsV,lenV,sliceV,optV,vsOf,partsV,bsV,fillV,oneV,V.one,V.cells,okNot,upsert,keyEq,frzR,frzC,frz1,frzB,
          List.drop_succ_cons,List.drop_zero,List.take_succ_cons,List.take_zero,List.length_cons,List.length_nil,List.nil_append,List.cons_append,List.append_nil,Option.map_some,Option.map_none,Option.bind_some,Option.bind_none,Option.some.injEq,Option.isSome_some,
          List.getElem?_cons_zero,List.getElem?_cons_succ,List.getElem?_map,List.length_map,nat_nn,toNat_cast,b_ft,b_tf,nn_t,ite_le_t,toNat_s,toNat_p,one_int,one_bool,one_nil,one_nili,wrap8_in,tdiv_10,tmod_10,ten_ne,List.size_toArray,eq_self,if_false,if_true,Int.reduceToNat,Int.reduceLE,Int.reduceLT,Int.reduceEq,Int.reduceNeg,Nat.mul_one,Nat.one_mul,Nat.zero_add,Nat.add_zero,wrap_in,dec_lt_t,dec_lt_f,dec_le_t,dec_le_f,dec_eq_t,dec_eq_f,decide_true,decide_false,Bool.not_true,Bool.not_false,cond_true,cond_false,beq_self_eq_true,hr]))
    exact h):p:=e hr h
end Go.Ab
namespace Go.Ab
open Go.RowKit
variable {P : Program} {T : Lay}
inductive Gnode where
 | fin
 | one (i k:Nat)
 | alt (l:List (Nat×Nat))
 | nam (id k:Nat)
structure Gent where
 li:List Bool
 d:Nat
 g:Gnode
def awGs (P:Program) (T:Lay) (l:List Oper) (R:Nat→St→Prop):List (Nat×Nat)→St→Prop
 | [],_=>True
 | (i,k)::r,st=>stepI P T l i st (R k)∧awGs P T l R r st
def awG (P:Program) (T:Lay) (l:List Oper) (K:St→Prop):List Gent→Nat→St→Prop
 | [],_,_=>False
 | _::r,k+1,st=>awG P T l K r k st
 | e::r,0,st=>match e.g with
  | .fin=>K { st with t:=nrmT l st.t }
  | .one i k=>stepI P T l i { st with t:=nrmT l st.t } (awG P T l K r k)
  | .alt js=>awGs P T l (awG P T l K r) js { st with t:=nrmT l st.t }
  | .nam id k=>∀b,awG P T l K r k { st with h:=nam id b st.h }
def Gent.to (r:List Gent) (e:Gent) (i k:Nat):Bool:=match r[k]? with
 | some e'=>e'.li == e.li.set i true && Nat.blt e'.d e.d
 | none=>false
def okG (ops:Array Oper):List Gent→Bool
 | []=>true
 | e::r=>okG ops r && match e.g with
  | .fin=>(Region.ready .any ops e.li.toArray).isEmpty
  | .one i k=>(Region.ready .any ops e.li.toArray).contains i && Region.free .any ops e.li.toArray i && ((ops[i]?).map isPure == some true) && e.to r i k
  | .nam _ k=>match r[k]? with
   | some e'=>e'.li == e.li && Nat.ble e'.d e.d
   | none=>false
  | .alt js=> !(Region.ready .any ops e.li.toArray).isEmpty && (Region.ready .any ops e.li.toArray).all (fun j=>js.any fun x=>x.1 == j) && js.all fun x=>e.to r x.1 x.2
def okGraph (ops:Array Oper) (t:List Gent):Bool:=plainOps ops && okG ops t && match t with
 | e::_=>e.li == List.replicate ops.size false && Nat.ble e.d ops.size
 | []=>false
theorem awGs_mem {l:List Oper} {R:Nat→St→Prop} {st:St} {x:Nat×Nat} : ∀ {js:List (Nat×Nat)},awGs P T l R js st→x∈js→stepI P T l x.1 st (R x.2)
 | y::r,h,hx=>by
  rcases List.mem_cons.1 hx with rfl | hx
  ·exact h.1
  ·exact awGs_mem h.2 hx
theorem to_spec {r:List Gent} {e:Gent} {i k:Nat} (h:e.to r i k=true):∃e',r[k]? = some e'∧e'.li=e.li.set i true∧e'.d<e.d:=by
 unfold Gent.to at h
 split at h
 ·rename_i e' he
  simp only[Bool.and_eq_true] at h
  exact ⟨e',he,eq_of_beq h.1,Nat.le_of_ble_eq_true h.2⟩
 ·cases h
section
variable {ops : Array Oper} {rd : Option Nat} {w0 w : World} {M : Nat → Prop} {F0 F : Frz} {ρ : Nat → Nat} {a : Act} {st : St} {Q : Exit → Act → World → Prop}
theorem sim_nrm {l:List Oper} (S:SimS P T M F0 w0 F ρ st a w):SimS P T M F0 w0 F ρ { st with t:=nrmT l st.t } a w:=by
 have e:(St.mk st.n (nrmT l st.t) st.h st.o).σ=st.σ:=funext fun i=>nrmT_look _ _ _
 show Sim P T M F0 w0 F ρ st.n (St.mk st.n (nrmT l st.t) st.h st.o).σ st.h st.o a w
 rw[e]; exact S
theorem graph_sound {K:St→Prop} (hpl:plainOps ops=true) (hQ:∀c a w,¬Q (.panic c) a w) (hK:∀F' ρ' st' a' w',SimS P T M F0 w0 F' ρ' st' a' w'→K st'→Q .normal a' w'):∀(t:List Gent) (k:Nat) (e:Gent) (fuel:Nat) (F:Frz) (ρ:Nat→Nat) (st:St) (a:Act) (w:World),
  okG ops t=true→t[k]? = some e→e.d≤fuel→SimS P T M F0 w0 F ρ st a w→awG P T ops.toList K t k st→wpAnyIn (fc rd) 0 P .any ops Q fuel e.li.toArray a w
 | [],k,e,fuel,F,ρ,st,a,w,ho,he,hd,S,h=>by cases he
 | x::r,k+1,e,fuel,F,ρ,st,a,w,ho,he,hd,S,h=>by
  simp only[okG,Bool.and_eq_true] at ho
  exact graph_sound hpl hQ hK r k e fuel F ρ st a w ho.1 (by simpa using he) hd S h
 | x::r,0,e,fuel,F,ρ,st,a,w,ho,he,hd,S,h=>by
  simp only[List.getElem?_cons_zero,Option.some.injEq] at he
  subst he
  simp only[okG,Bool.and_eq_true] at ho
  obtain ⟨ho,hx⟩:=ho
  have S':=sim_nrm (l:=ops.toList) S
  unfold awG at h
  cases hg:x.g with
  | fin=>
   rw[hg] at hx h
   have hr:Region.ready .any ops x.li.toArray=[]:=List.isEmpty_iff.1 hx
   have hq:Q .normal a w:=hK F ρ _ a w S' h
   cases fuel with
   | zero=>exact ⟨hr,hq⟩
   | succ n=>exact ⟨fun _=>hq,by rw[hr]; simp⟩
  | one i k=>
   rw[hg] at hx h
   simp only[Bool.and_eq_true] at hx
   obtain ⟨⟨⟨h2,h3⟩,h4⟩,h5⟩:=hx
   obtain ⟨e',he',hli,hlt⟩:=to_spec h5
   obtain ⟨f',rfl⟩:∃f',fuel=f'+1:=⟨fuel-1,by omega⟩
   have hri:i∈Region.ready .any ops x.li.toArray:=by simpa using h2
   obtain ⟨o,hoi⟩:=ready_op hri
   rw[hoi] at h4
   have hp:isPure o=true:=by simpa using h4
   have hgd:o.guard=none:=by
    simp only[isPure,Bool.and_eq_true] at hp
    exact Option.isNone_iff_eq_none.1 hp.1
   have hs:stepO P T o { st with t:=nrmT ops.toList st.t } (awG P T ops.toList K r k):=by
    simp only[stepI] at h
    have hi':ops.toList[i]? = some o:=by simpa using hoi
    rw[hi'] at h
    simp only[gdV,hgd,gsel_true] at h
    exact h
   obtain ⟨v,hv⟩:=pure_all S' hp hs
   refine any_first (P:=P) hoi hgd hpl hQ f' _ a w (Region.free_spec hoi h3) hri hv ?_
   have:=stepO_sound (rd:=rd) (Q:=Q) (next:=wpAnyIn (fc rd) 0 P .any ops Q f' (x.li.toArray.setIfInBounds i true)) S' hs fun F' ρ' st' a' w' S2 hK'=>by
    have:=graph_sound hpl hQ hK r k e' f' F' ρ' st' a' w' ho he' (by omega) S2 hK'
    rw[hli,← List.setIfInBounds_toArray] at this
    exact this
   have h6:=this.2
   rw[Oper.semAt_eq _ _ _ (plain_spec hpl hoi).1,hv w] at h6
   exact h6
  | nam id k=>
   rw[hg] at hx h
   simp only at hx h
   split at hx
   ·rename_i e' he'
    simp only[Bool.and_eq_true] at hx
    have h3:e'.d≤x.d:=Nat.le_of_ble_eq_true hx.2
    have:=graph_sound hpl hQ hK r k e' fuel F ρ _ a w ho he' (by omega) (Sim.nam S id) (h (ρ id))
    rw[eq_of_beq hx.1] at this
    exact this
   ·cases hx
  | alt js=>
   rw[hg] at hx h
   simp only[Bool.and_eq_true,List.all_eq_true,Bool.not_eq_true'] at hx
   obtain ⟨⟨h0,h1⟩,h2⟩:=hx
   have hdp:x.d≠0:=fun e0=>by
    cases hr:Region.ready .any ops x.li.toArray with
    | nil=>rw[hr] at h0; cases h0
    | cons j l=>
     obtain ⟨y,hy,-⟩:=List.any_eq_true.1 (h1 j (by rw[hr]; exact .head _))
     obtain ⟨e',-,-,hlt⟩:=to_spec (h2 y hy)
     omega
   obtain ⟨f',rfl⟩:∃f',fuel=f'+1:=⟨fuel-1,by omega⟩
   refine ⟨fun hr=> ?_,fun j hj=> ?_⟩
   ·rw[hr] at h0; cases h0
   ·obtain ⟨y,hy,hyj⟩:=List.any_eq_true.1 (h1 j hj)
    have hyj:=eq_of_beq hyj
    obtain ⟨e',he',hli,hlt⟩:=to_spec (h2 y hy)
    have hs:=awGs_mem h hy
    rw[hyj] at hs hli
    obtain ⟨o,hoi⟩:=ready_op hj
    refine stepI_sound hoi S' hs fun F' ρ' st' a' w' S2 hK'=> ?_
    have:=graph_sound hpl hQ hK r y.2 e' f' F' ρ' st' a' w' ho he' (by omega) S2 hK'
    rw[hli,← List.setIfInBounds_toArray] at this
    exact this
end
theorem aw_graph [hm:Mixed P] {id:Nat} {ops:Array Oper} {l:List Oper} {st:St} {Q:AX→St→Prop} (t:List Gent) (k:awG P T l (Q .nm) t 0 st) (hl:ops.toList=l:=by rfl) (hB:okGraph ops t=true:=by kernel_rfl):aw P T (.region id ops true) st Q:=by
 subst hl
 refine awL_sem ?_
 intro rd M F0 w0 F ρ a w Q' id S hQ
 simp only[okGraph,Bool.and_eq_true] at hB
 obtain ⟨⟨h1,h2⟩,h3⟩:=hB
 match t,h2,h3,k with
 | e::r,h2,h3,k=>
  simp only[Bool.and_eq_true] at h3
  obtain ⟨h3,h4⟩:=h3
  have hx:Ext F w F w.drew:=(Ext.refl S.sees).drew
  have:=graph_sound (rd:=rd) (Q:=fun e a w=>match e with | .normal=>∃F' ρ' st',SimS P T M F0 w0 F' ρ' st' a w∧Q .nm st' | _=>False) h1 (fun _ _ _ h=>h) (fun F' ρ' st' a' w' S' hK=>⟨F',ρ',st',S',hK⟩) (e::r) 0 e ops.size F ρ st a w.drew h2 rfl (Nat.le_of_ble_eq_true h4) (Sim.ext S hx) k
  rw[eq_of_beq h3] at this
  have hz:(List.replicate ops.size false).toArray=Array.replicate ops.size false:=by simp
  rw[hz] at this
  refine wpIn_mono (wpIn_region_any hm.eq this) ?_
  intro e a' w' hq
  cases e with
  | normal=>obtain ⟨F',ρ',st',S',hK⟩:=hq; exact hQ F' ρ' st' a' w' S' hK
  | _=>exact hq.elim
def awGk (P:Program) (T:Lay) (l:List Oper) (K:St→Prop) (r:List Gent) (k:Nat):St→Prop:=fun st=>awG P T l K r k st
theorem awGk_app {l:List Oper} {K:St→Prop} {st:St} {r:List Gent} {k:Nat} : awGk P T l K r k st=awG P T l K r k st:=rfl
theorem awG_fin {l:List Oper} {K:St→Prop} {st:St} {li:List Bool} {d:Nat} {r:List Gent} : awG P T l K (⟨li,d,.fin⟩::r) 0 st=K { st with t:=nrmT l st.t } := rfl
theorem awG_one {l:List Oper} {K:St→Prop} {st:St} {li:List Bool} {d:Nat} {r:List Gent} {i k:Nat} : awG P T l K (⟨li,d,.one i k⟩::r) 0 st=stepI P T l i { st with t:=nrmT l st.t } (awGk P T l K r k):=rfl
theorem awG_nam {l:List Oper} {K:St→Prop} {st:St} {li:List Bool} {d:Nat} {r:List Gent} {id k:Nat} : awG P T l K (⟨li,d,.nam id k⟩::r) 0 st=∀b,awG P T l K r k { st with h:=nam id b st.h } := rfl
theorem awG_next {l:List Oper} {K:St→Prop} {st:St} {e:Gent} {r:List Gent} {k:Nat} : awG P T l K (e::r) (k+1) st=awG P T l K r k st:=rfl
def awGsk (P:Program) (T:Lay) (l:List Oper) (K:St→Prop) (r:List Gent) (js:List (Nat×Nat)):St→Prop:=awGs P T l (awG P T l K r) js
theorem awG_alt {l:List Oper} {K:St→Prop} {st:St} {li:List Bool} {d:Nat} {r:List Gent} {js:List (Nat×Nat)} : awG P T l K (⟨li,d,.alt js⟩::r) 0 st=awGsk P T l K r js { st with t:=nrmT l st.t } := rfl
theorem awGs_nil {l:List Oper} {K:St→Prop} {st:St} {r:List Gent} : awGsk P T l K r [] st=True:=rfl
theorem awGs_cons {l:List Oper} {K:St→Prop} {st:St} {r:List Gent} {i k:Nat} {js:List (Nat×Nat)} : awGsk P T l K r ((i,k)::js) st=(stepI P T l i st (awGk P T l K r k)∧awGsk P T l K r js st):=rfl
@[congr] theorem awG_cg {l : List Oper} {K : St → Prop} {r : List Gent} {k : Nat} {st st' : St} (h : st = st') : awG P T l K r k st = awG P T l K r k st' := by rw [h]
@[congr] theorem awGsk_cg {l : List Oper} {K : St → Prop} {r : List Gent} {js : List (Nat × Nat)} {st st' : St} (h : st = st') : awGsk P T l K r js st = awGsk P T l K r js st' := by rw [h]
@[congr] theorem awGk_cg {l : List Oper} {K : St → Prop} {r : List Gent} {k : Nat} : awGk P T l K r k = awGk P T l K r k := rfl
theorem aw_keep {c:Code} {st st':St} {Q:AX→St→Prop} (k:Kp) (hk:keepS k st=some st') (h:aw P T c st' Q):aw P T c st Q:=aw_as (fun _ _ _ _ _ _ _ S=>keepS_sound hk S) h
theorem graph_to {α:Type} {l:List Oper} {K:St→Prop} {t:List Gent} {st:St} (good:α→Prop) (k:Kp) (S:α→St) (hc:∀st st',keepS k st=some st'→K st'→K st) (h:∀x,good x→K (S x))
  (hm:∀K':St→Prop,(∀st x,good x→keepS k st=some (S x)→K' st)→awG P T l K' t 0 st):awG P T l K t 0 st:=hm K fun st x hg hk=>hc st _ hk (h x hg)
def mid (k:Kp) (φ:Prop) (S:St) (Q:AX→St→Prop):AX→St→Prop
 | .nm,st=>φ∧keepS k st=some S
 | e,st=>Q e st
theorem mid_rt (k:Kp) (φ:Prop) (S:St) (Q:AX→St→Prop) (st:St):mid k φ S Q .rt st=Q .rt st:=rfl
theorem aw_mid {x y:Code} {st:St} {Q:AX→St→Prop} (k:Kp) (φ:Prop) (S:St) (h1:aw P T x st (mid k φ S Q)) (h2:φ→aw P T y S Q):aw P T (.seq x y) st Q:=awL_seq (awL_mono h1 fun e st' h=>by
 cases e with
 | nm=>exact aw_keep k h.2 (h2 h.1)
 | ex id=>exact h
 | rt=>exact h)
theorem midK {k : Kp} {φ : Prop} {S : St} {Q : AX → St → Prop} {st : St} (h : φ) (hk : keepS k st = some S := by
      first
      | rfl
      | (simp only[keepS,ownNils,keepT,keepH,keepO,look_cons',look_nil,Nat.reduceEqDiff,↓reduceIte,ownOf,ctn_cons,ctn_nil,Nat.reduceBEq,List.all_nil,remo_nil,remo_cons,Bool.or_false,Bool.or_true,beq_self_eq_true,okK,List.all_cons,ownNils,Bool.true_or,Bool.and_self,cond_true,decide_true,Nat.reduceLT]; rfl)):mid k φ S Q .nm st:=⟨h,hk⟩
theorem leafK {α : Type} {good : α → Prop} {k : Kp} {S : α → St} {K' : St → Prop} {st : St} (hK : ∀ st x,good x → keepS k st = some (S x) → K' st) (x : α) (hx : good x) (hk : keepS k st = some (S x) := by
      first
      | rfl
      | (simp only[keepS,ownNils,keepT,keepH,keepO,look_cons',look_nil,Nat.reduceEqDiff,↓reduceIte,ownOf,ctn_cons,ctn_nil,Nat.reduceBEq,List.all_nil,remo_nil,remo_cons,Bool.or_false,Bool.or_true,beq_self_eq_true,okK,List.all_cons,ownNils,Bool.true_or,Bool.and_self,cond_true,decide_true,Nat.reduceLT]; rfl)):K' st:=hK st x hx hk
abbrev tt:Bool:=true
abbrev ff:Bool:=false
theorem runGraph {p q r:Prop} (hr:r) (h:q) (e:r→q→p:=by
    intro hr h
    repeat (first
      | with_reducible refine appO_k ?_
      | with_reducible refine appC_k ?_
      | refine aw_seq ?_
      | refine aw_block ?_
      | refine aw_skip ?_
      | refine aw_ret ?_
      | refine aw_exit ?_
      | with_reducible refine And.intro (by clear h; (first | omega | (simp only[List.length_append,List.length_cons,List.length_nil,List.length_drop,List.length_take,List.length_map]; omega))) ?_
      | refine aw_reg rfl ?_
      | refine aw_drw3 (by rfl) rfl (by kernel_rfl) (by (simp only[takeE_cons,takeE_nil,isEnd,Bool.false_eq_true,eq_self,if_false,if_true]) <;> exact rfl) (by (simp only[dropE_cons,dropE_nil,isEnd,Bool.false_eq_true,eq_self,if_false,if_true]) <;> exact rfl) (by rfl) (by (try simp only[frzR,frzC,frz1,frzB,opv_tmp,σ_mk,look_cons',look_nil,Nat.reduceEqDiff,↓reduceIte]) <;> exact rfl) (by rfl) ?_
      | refine aw_drw (by rfl) rfl (by kernel_rfl) (by rfl) (by (try simp only[frzR,frzC,frz1,frzB,opv_tmp,σ_mk,look_cons',look_nil,Nat.reduceEqDiff,↓reduceIte]) <;> exact rfl) ?_
      | (refine aw_cond_t ?_ ?_
         · (simp only[opv_tmp,σ_mk,look_cons',Nat.reduceEqDiff,↓reduceIte,vOf_v]; done))
      | (refine aw_cond_f ?_ ?_
         · (simp only[opv_tmp,σ_mk,look_cons',Nat.reduceEqDiff,↓reduceIte,vOf_v]; done))
      | (simp (config:= {maxSteps:=1000000,implicitDefEqProofs:=false}) (disch:=(first | omega | (simp only[List.length_append,List.length_cons,List.length_nil,List.length_drop,List.length_take,List.length_map]; omega))) only[↓awG_fin,↓awG_one,↓awG_alt,↓awG_next,↓awG_nam,↓awGs_nil,↓awGs_cons,awGk_app,stepI,nrmT,and_self,and_true,↓awO_cons,awO_nil,↓awD_cons,awD_nil,↓awE_cons,awE_nil,stepE,↓awC_cons,awC_nil,effD,stepC,↓gsel_true,↓gsel_false,stepO,stpOL,stepD,gdV,movK,putK,retK,retD,retM,evK,awOk_app,awDk_app,awEk_app,awCk_app,awk_app,
          opv_tmp,opv_func,opv_int,opv_bool,opv_nil,opv_nili,opv_tup,opv_str,opv_mapnil,opv_fnil,vOf_v,vOf_p,vOf_s,vOf_m,nu_v,nu_p,nu_m,nu_s,tvsOf,cutS_in,cutS_no,idxS_in,cutV_nn,cutV_ns,cutV_sn,cutV_ss,clearK,argsT,re,σ_mk,args0,unT_nil,unT_v,unT_u,unT_p,unT_m,unT_s,remj_nil,remj_cons,unH_nil,unH_cons,remo_nil,addo_nil,delo_nil,remo_cons,addo_cons,delo_cons,flt_nil,flt_cons,ctn_nil,ctn_cons,ownOf,owner,appK,appL,appS,appX,
          look_cons',look_nil,seth,setAt,ldK,ldO,stO,remBs,hasC_nil,hasC_cons,any_nil',any_cons',tmpOf_t,tmpOf_c,tmpOf_f,vN_v,vN_p,vN_m,nmOf_var,nmOf_map,nmOf_con,mref_m,mref_v,findN,findK_nil,findK_v,findK_m,findK_c,findK_vs,findK_ms,mapN,mapB_m,agg_cell,agg_agg,plc,pid,pof,mpc,setbs,setb,lk,bk,backO,remK,lentO,Blk.wn,Blk.nm,nam,Nat.reduceDiv,Nat.reduceMod,Nat.reduceEqDiff,Nat.reduceBEq,Nat.reduceBNe,↓reduceIte,Nat.reduceAdd,Nat.reduceMul,Nat.reduceLT,Nat.reduceLeDiff,Nat.reduceSub,and_t,Bool.or_true,Bool.or_false,Bool.true_or,Bool.false_or,Bool.and_true,Bool.true_and,Bool.and_false,Bool.false_and,Option.isSome_none,Bool.false_eq_true,reduceCtorEq,
          sqk_nm,sqk_ex,sqk_rt,sq_nm,sq_ex,sq_rt,blk_nm,blk_rt,blk_same,blk_other,
          evq,evb,behind,memV,ld_cell,ld_agg,takeN,fld_eq,sl_eq,arr_eq,arr_no,arr_str,str_eq,bool_eq,ifc_eq,int_eq,und_eq,map_eq,zero_eq,zsome_eq,zok_eq,appok_eq,places_eq,zv_eq,eqt_eq,mapE,eqCells,eqC,nilK,keyT_str,keyT_int,okVal_s,okVal_i,okVal_b,ofVal_s0,ofVal_i,ofVal_b,Option.getD_none,Option.getD_some,cells_cell,cells_agg,info_cell,info_agg,
          idxV,bytV,minV,binV,intOp,strOp,eqOp,convV,capV,capsV,lenV,sliceV,optV,vsOf,partsV,bsV,fillV,oneV,V.one,V.cells,okNot,frzR,frzC,frz1,frzB,
          List.drop_succ_cons,List.drop_zero,List.take_succ_cons,List.take_zero,List.length_cons,List.length_nil,List.nil_append,List.cons_append,List.append_nil,Option.map_some,Option.map_none,Option.bind_some,Option.bind_none,Option.some.injEq,Option.isSome_some,
          List.getElem?_cons_zero,List.getElem?_cons_succ,List.getElem?_map,List.length_map,nat_nn,toNat_cast,b_ft,b_tf,nn_t,ite_le_t,toNat_s,toNat_p,one_int,one_bool,one_nil,one_nili,wrap8_in,tdiv_10,tmod_10,ten_ne,List.size_toArray,eq_self,if_false,if_true,Int.reduceToNat,Int.reduceLE,Int.reduceLT,Int.reduceEq,Int.reduceNeg,Nat.mul_one,Nat.one_mul,Nat.zero_add,Nat.add_zero,wrap_in,dec_lt_t,dec_lt_f,dec_le_t,dec_le_f,dec_eq_t,dec_eq_f,decide_true,decide_false,Bool.not_true,Bool.not_false,cond_true,cond_false,beq_self_eq_true,hr]))
    exact h):p:=e hr h
end Go.Ab
namespace Go.Ab
open Go.RowKit
variable {P : Program} {T : Lay}
def ownS (st:St) (t:Nat) (e:TypeId) (size n:Nat) (cs:List V):St:=⟨st.n,[(t,.v (.slice size (chunk 0 n size cs)))],[],[(e,[t])]⟩
theorem own_end {M:Nat→Prop} {F0 F:Frz} {w0 w:World} {ρ:Nat→Nat} {st:St} {a:Act} (S:SimS P T M F0 w0 F ρ st a w) {t id r n cap size:Nat} {cs:List V} {nm:Option Nat} {e:TypeId}
  (h1:look t st.t=some (.v (.val (.slice (some ⟨r,0,none⟩) n cap)))) (hf:findN r st.h=some id) (h2:look id st.h=some (.var cs nm (some (e,size,cap)))) (h3:n≤cap) (h4:cs.length=n*size) (hz:P.cellsOf e=size):
  ∃F',SimS P T M F0 w0 F' ρ (ownS st t e size n cs) a w:=by
 obtain ⟨kb,z1,z2⟩:=findN_some hf
 have hρ:=S.nb id kb r z1 z2
 obtain ⟨⟨xs,⟨ty,hty⟩,b1,b2,b3,b4,b5⟩,hB,hlt⟩:=S.hp id _ h2
 obtain ⟨hte,hxs,hcm⟩:=hty
 simp only at b1
 subst hte
 obtain ⟨x,g1,g2⟩:=S.tm t _ h1
 have g2:=rep_val_inv g2
 subst g2
 have hcell:∀q,w.cell? ⟨ρ id,q,none⟩=xs[q]? := fun q=>by simp[World.cell?,b1]
 have hcase:∀p v,addBlk F (ρ id) (n*size) xs p=some v→(p.block=ρ id∧p.spot=none∧p.off<n*size∧xs[p.off]? = some v)∨F p=some v:=fun p v e=>by
  rw[addBlk_app] at e
  split at e
  ·rename_i hc; exact .inl ⟨hc.1,hc.2.1,hc.2.2,e⟩
  ·exact .inr e
 have hle:Le F (addBlk F (ρ id) (n*size) xs):=⟨fun p v e=>by
  show (if p.block=ρ id∧p.spot=none∧p.off<n*size then xs[p.off]? else F p)=some v
  rw[if_neg (fun hc=>b5 p v e hc.1)]; exact e,fun _ _ e=>e⟩
 have htn:t<st.n:=by
  have:=(Array.getElem?_eq_some_iff.1 g1).1
  rw[← S.n]; exact this
 have hin:∀j c,cs[j]? = some c→addBlk F (ρ id) (n*size) xs ⟨ρ id,j,none⟩=some (xs.getD j undef):=fun j c hj=>by
  have hjl:=(List.getElem?_eq_some_iff.1 hj).1
  have hjx:j<xs.size:=Nat.lt_of_lt_of_le hjl b2
  rw[addBlk_app,if_pos ⟨rfl,rfl,(show j<n*size by omega)⟩]
  simp[hjx]
 refine ⟨addBlk F (ρ id) (n*size) xs,?_⟩
 refine { n:=S.n,df:=S.df,sees:=⟨fun p v e=> ?_,S.sees.m⟩,lay:=S.lay,le:=S.le.trans hle,new:=fun p v e=> ?_,newm:=S.newm,bel:=S.bel,hM:=S.hM,tm:=fun i tv e'=> ?_,wf:=fun i tv e'=> ?_,hp:=fun i k e'=>(by cases e'),nn:=S.nn,z:=fun i k hi e'=>(by cases e'),nb:=fun i k q e'=>(by cases e'),inj:=fun i i' k k' e'=>(by cases e'),ow:= ?_,od:= ?_,oc:= ?_ }
 ·rcases hcase p v e with ⟨h1,h2,h3,h4⟩ | h
  ·have:p=⟨ρ id,p.off,none⟩:=by cases p; simp only at h1 h2; subst h1 h2; rfl
   rw[this,hcell]; exact h4
  ·exact S.sees p v h
 ·rcases hcase p v e with ⟨h1,-⟩ | h
  ·exact .inr (by rw[h1]; exact hB)
  ·exact S.new p v h
 ·have e2:look i [(t,TV.v (.slice size (chunk 0 n size cs)))]=some tv:=e'
  obtain ⟨rfl,rfl⟩:=look_one e2
  refine ⟨_,g1,?_⟩
  have:=chunk_rep (F:=addBlk F (ρ id) (n*size) xs) (b:=ρ id) (g:=fun j=>xs.getD j undef) (cs:=cs) b3 hin (fun j c hj=>by
   have hjl:=(List.getElem?_eq_some_iff.1 hj).1
   have hjx:j<xs.size:=Nat.lt_of_lt_of_le hjl b2
   refine (b4 j c _ hj ?_).mono hle
   simp[hjx]) (off:=0) (n:=n) (size:=size) (cap:=cap) (by omega) h3 hcm
  rw[hρ] at this ⊢
  exact this
 ·have e2:look i [(t,TV.v (.slice size (chunk 0 n size cs)))]=some tv:=e'
  obtain ⟨rfl,rfl⟩:=look_one e2
  trivial
 ·intro j e' c hj
  have hj:[(ty,[t])][j]? = some (e',c):=hj
  match j,hj with
  | 0,hj=>
   simp only[List.getElem?_cons_zero,Option.some.injEq,Prod.mk.injEq] at hj
   obtain ⟨rfl,rfl⟩:=hj
   refine ⟨_,fun i hi=> ?_,⟨n,xs.toList.take (n*size),⟨?_,.inr ⟨r,cap,xs,rfl,Nat.zero_le _,?_,h3,hcm,by rw[hz]; exact hxs,by rw[hz]⟩⟩,fun g hg=> ?_⟩,fun i k e'=>(by cases e')⟩
   ·simp only[List.mem_singleton] at hi
    subst hi
    rw[held_tmp (by have:=S.nn; have:=S.n; omega)]
    exact g1
   ·rw[List.length_take,Array.length_toList,hxs,hz,Nat.min_eq_left (Nat.mul_le_mul_right _ h3)]
   ·rw[← hρ]; exact b1
   ·simp only[Value.ownBlock,Option.some.injEq] at hg
    subst hg
    refine ⟨by rw[← hρ]; exact hB,fun p v hp hpg=> ?_⟩
    rw[hz]
    rcases hcase p v hp with ⟨-,-,h3,-⟩ | h
    ·exact h3
    ·exact absurd (by rw[hpg,← hρ]) (b5 p v h)
  | j+1,hj=>simp at hj
 ·intro j j' e1 c e2 c' hne hj hj'
  have hj:[(ty,[t])][j]? = some (e1,c):=hj
  have hj':[(ty,[t])][j']? = some (e2,c'):=hj'
  match j,j',hj,hj' with
  | 0,0,_,_=>exact absurd rfl hne
  | 0,k+1,_,hj'=>simp at hj'
  | k+1,_,hj,_=>simp at hj
 ·intro j e1 c hj i hi hge
  have hj:[(ty,[t])][j]? = some (e1,c):=hj
  match j,hj with
  | 0,hj=>
   simp only[List.getElem?_cons_zero,Option.some.injEq,Prod.mk.injEq] at hj
   obtain ⟨rfl,rfl⟩:=hj
   simp only[List.mem_singleton] at hi
   subst hi
   have:=S.nn
   have:=S.n
   omega
  | j+1,hj=>simp at hj
def ownP (P:Program) (Q:AX→St→Prop):AX→St→Prop
 | .rt,st=>∃(t id r n cap size:Nat) (cs:List V) (nm:Option Nat) (e:TypeId),look t st.t=some (.v (.val (.slice (some ⟨r,0,none⟩) n cap)))∧findN r st.h=some id∧look id st.h=some (.var cs nm (some (e,size,cap)))∧n≤cap∧cs.length=n*size∧P.cellsOf e=size∧Q .rt (ownS st t e size n cs)
 | e,st=>Q e st
theorem aw_own {c:Code} {st:St} {Q:AX→St→Prop} (h:aw P T c st (ownP P Q)):aw P T c st Q:=awL_post h fun M F0 w0 F ρ st' a w e S hq=>by
 cases e with
 | nm=>exact ⟨F,ρ,st',S,hq⟩
 | ex id=>exact ⟨F,ρ,st',S,hq⟩
 | rt=>
  obtain ⟨t,id,r,n,cap,size,cs,nm,e,h1,h2,h3,h4,h5,h6,h7⟩:=hq
  obtain ⟨F2,S2⟩:=own_end S h1 h2 h3 h4 h5 h6
  exact ⟨F2,ρ,_,S2,h7⟩
theorem ownR {Q:AX→St→Prop} {st:St} {id r n cap size:Nat} {cs:List V} {nm:Option Nat} {e:TypeId} (t:Nat) (h3:n≤cap) (h4:cs.length=n*size) (hz:P.cellsOf e=size) (hq:Q .rt (ownS st t e size n cs)) (h2:findN r st.h=some id)
  (h1:look t st.t=some (.v (.val (.slice (some ⟨r,0,none⟩) n cap))):=by rfl) (h5:look id st.h=some (.var cs nm (some (e,size,cap))):=by rfl):ownP P Q .rt st:=⟨t,id,r,n,cap,size,cs,nm,e,h1,h2,h5,h3,h4,hz,hq⟩
theorem doneGraph {p r:Prop} (hr:r) (e:r→p:=by
    intro hr
    simp (config := {maxSteps := 1000000,implicitDefEqProofs := false}) (disch := (first | omega | (simp only [List.length_append,List.length_cons,List.length_nil,List.length_drop,List.length_take,List.length_map]; omega))) only [↓awG_fin,↓awG_one,↓awG_alt,↓awG_next,↓awG_nam,↓awGs_nil,↓awGs_cons,awGk_app,stepI,nrmT,and_self,and_true,↓awO_cons,awO_nil,↓awD_cons,awD_nil,↓awE_cons,awE_nil,stepE,↓awC_cons,awC_nil,effD,stepC,↓gsel_true,↓gsel_false,stepO,stpOL,stepD,gdV,movK,putK,retK,retD,retM,evK,awOk_app,awDk_app,awEk_app,awCk_app,awk_app,
          opv_tmp,opv_func,opv_int,opv_bool,opv_nil,opv_nili,opv_tup,opv_str,opv_mapnil,opv_fnil,vOf_v,vOf_p,vOf_s,vOf_m,nu_v,nu_p,nu_m,nu_s,tvsOf,cutS_in,cutS_no,idxS_in,cutV_nn,cutV_ns,cutV_sn,cutV_ss,clearK,argsT,re,σ_mk,args0,unT_nil,unT_v,unT_u,unT_p,unT_m,unT_s,remj_nil,remj_cons,unH_nil,unH_cons,remo_nil,addo_nil,delo_nil,remo_cons,addo_cons,delo_cons,flt_nil,flt_cons,ctn_nil,ctn_cons,ownOf,owner,appK,appL,appS,appX,
          look_cons',look_nil,seth,setAt,ldK,ldO,stO,remBs,hasC_nil,hasC_cons,any_nil',any_cons',tmpOf_t,tmpOf_c,tmpOf_f,vN_v,vN_p,vN_m,nmOf_var,nmOf_map,nmOf_con,mref_m,mref_v,findN,findK_nil,findK_v,findK_m,findK_c,findK_vs,findK_ms,mapN,mapB_m,agg_cell,agg_agg,plc,pid,pof,mpc,setbs,setb,lk,bk,backO,remK,lentO,Blk.wn,Blk.nm,nam,Nat.reduceDiv,Nat.reduceMod,Nat.reduceEqDiff,Nat.reduceBEq,Nat.reduceBNe,↓reduceIte,Nat.reduceAdd,Nat.reduceMul,Nat.reduceLT,Nat.reduceLeDiff,Nat.reduceSub,and_t,Bool.or_true,Bool.or_false,Bool.true_or,Bool.false_or,Bool.and_true,Bool.true_and,Bool.and_false,Bool.false_and,Option.isSome_none,Bool.false_eq_true,reduceCtorEq,
          sqk_nm,sqk_ex,sqk_rt,sq_nm,sq_ex,sq_rt,blk_nm,blk_rt,blk_same,blk_other,
          evq,evb,behind,memV,ld_cell,ld_agg,takeN,fld_eq,sl_eq,arr_eq,arr_no,arr_str,str_eq,bool_eq,ifc_eq,int_eq,und_eq,map_eq,zero_eq,zsome_eq,zok_eq,appok_eq,places_eq,zv_eq,eqt_eq,mapE,eqCells,eqC,nilK,keyT_str,keyT_int,okVal_s,okVal_i,okVal_b,ofVal_s0,ofVal_i,ofVal_b,Option.getD_none,Option.getD_some,cells_cell,cells_agg,info_cell,info_agg,
          idxV,bytV,minV,binV,intOp,strOp,eqOp,convV,capV,capsV,lenV,sliceV,optV,vsOf,partsV,bsV,fillV,oneV,V.one,V.cells,okNot,frzR,frzC,frz1,frzB,
          List.drop_succ_cons,List.drop_zero,List.take_succ_cons,List.take_zero,List.length_cons,List.length_nil,List.nil_append,List.cons_append,List.append_nil,Option.map_some,Option.map_none,Option.bind_some,Option.bind_none,Option.some.injEq,Option.isSome_some,
          List.getElem?_cons_zero,List.getElem?_cons_succ,List.getElem?_map,List.length_map,nat_nn,toNat_cast,b_ft,b_tf,nn_t,ite_le_t,toNat_s,toNat_p,one_int,one_bool,one_nil,one_nili,wrap8_in,tdiv_10,tmod_10,ten_ne,List.size_toArray,eq_self,if_false,if_true,Int.reduceToNat,Int.reduceLE,Int.reduceLT,Int.reduceEq,Int.reduceNeg,Nat.mul_one,Nat.one_mul,Nat.zero_add,Nat.add_zero,wrap_in,dec_lt_t,dec_lt_f,dec_le_t,dec_le_f,dec_eq_t,dec_eq_f,decide_true,decide_false,Bool.not_true,Bool.not_false,cond_true,cond_false,beq_self_eq_true,hr]):p:=e hr
end Go.Ab
namespace Go.Ab
open Go.RowKit
variable {P : Program} {T : Lay}
def lpv {α:Type} (k:α→Kp) (R:α→Prop) (m:α→Nat) (S:α→St) (y:α):St→Prop:=fun st'=>∃z,R z∧m z<m y∧keepS (k z) st'=some (S z)
theorem loopV {x:Code} {st:St} {Q:AX→St→Prop} {α:Type} (k:α→Kp) (R:α→Prop) (m:α→Nat) (S:α→St) (x0:α) (hR:R x0) (h0:keepS (k x0) st=some (S x0))
  (hr:∀y,R y→aw P T x (S y) (sq (lpv k R m S y) Q)):aw P T (.loop x) st Q:=by
 refine awL_loopV ⟨fun n st=>∃y,R y∧m y=n∧st=S y,m x0,⟨k x0,S x0,h0,x0,hR,rfl,rfl⟩,?_⟩
 rintro n st ⟨y,hy,rfl,rfl⟩
 refine awL_mono (hr y hy) fun e st' hq=> ?_
 cases e with
 | nm=>
  obtain ⟨z,hz,hlt,hk⟩:=hq
  exact ⟨k z,m z,S z,hlt,hk,z,hz,rfl,rfl⟩
 | rt=>exact hq
 | ex id=>exact hq
theorem roundV {α:Type} {k:α→Kp} {R:α→Prop} {m:α→Nat} {S:α→St} {y:α} {st:St} (z:α) (hR:R z) (hm:m z<m y) (hk:keepS (k z) st=some (S z)):lpv k R m S y st:=⟨z,hR,hm,hk⟩
end Go.Ab
namespace Go.Ab
open Go.RowKit
variable {P : Program} {T : Lay}
abbrev nilSt (st:St) (i:Nat):St:=⟨st.n,(i,.v (.val (.slice none 0 0)))::st.t,st.h,delo i st.o⟩
abbrev rowSt (st:St) (i d r cap:Nat) (e:TypeId) (size:Nat):St:=⟨st.n,(i,.v (.val (.slice (some ⟨r,0,none⟩) 0 cap)))::st.t,(d,.var [] (some r) (some (e,size,cap)))::st.h,delo i st.o⟩
theorem row_start {M:Nat→Prop} {F0 F:Frz} {w0 w:World} {ρ:Nat→Nat} {st:St} {a:Act} (S:SimS P T M F0 w0 F ρ st a w) {i d size:Nat} {e:TypeId}
  (h1:look i st.t=some (.v (.slice size []))) (ho:ownOf i st.o=some e) (hz:P.cellsOf e=size) (hd:d<st.n) (hdh:look d st.h=none):
  SimS P T M F0 w0 F ρ (nilSt st i) a w∨∃r cap,(∀id k q,look id st.h=some k→k.nm=some q→q≠r)∧cap≤maxLen∧SimS P T M F0 w0 F (fun j=>if j=d then r else ρ j) (rowSt st i d r cap e size) a w:=by
 obtain ⟨x,hx,hrep⟩:=S.tm i _ h1
 obtain ⟨j,c,hj,hic⟩:=ownOf_some ho
 have hil:i<st.n:=by
  have:=(Array.getElem?_eq_some_iff.1 hx).1
  rw[← S.n]; exact this
 have hheld:held a w ρ i=some x:=by
  rw[held_tmp (by have:=S.nn; have:=S.n; omega)]
  exact hx
 obtain ⟨-,⟨m,ys,hrow,hfz⟩,hloc⟩:=S.oval hj hic hheld
 have hown:∀(j':Nat) e' c',(delo i st.o)[j']? = some (e',c')→∀i'∈c',∀u g,held a w ρ i'=some u→x.ownBlock=some g→u.ownBlock≠some g:=fun j' e' c' hj' i' hi' u g hu hg=>by
  obtain ⟨g1,g2⟩:=delo_mem j' e' c' hj' hi'
  have hne:j≠j':=fun he=>by
   subst he
   rw[hj] at g1
   cases g1
   exact g2 hic
  exact S.od j j' e c e' c' hne hj g1 i hic i' hi' x u g hheld hu hg
 have S1:Sim P T M F0 w0 F ρ st.n st.σ st.h (delo i st.o) a w:=Sim.delo S i
 rcases hrow.2 with ⟨hv,-⟩ | ⟨g,cap,cur,hv,-,hg,-,hcm,hsz,-⟩
 ·left
  subst hv
  refine { S1 with tm:=fun k tv e'=> ?_,wf:=fun k tv e'=> ?_ }
  ·have e2:look k ((i,TV.v (.val (.slice none 0 0)))::st.t)=some tv:=e'
   rw[look_cons] at e2
   split at e2
   ·rename_i hk
    subst hk
    cases e2
    exact ⟨_,hx,Rep.val _⟩
   ·exact S1.tm k tv e2
  ·have e2:look k ((i,TV.v (.val (.slice none 0 0)))::st.t)=some tv:=e'
   rw[look_cons] at e2
   split at e2
   ·cases e2; trivial
   ·exact S1.wf k tv e2
 ·right
  subst hv
  have hm:m=0:=by
   obtain ⟨a0,c0,he⟩:=rep_slice_len hrep
   cases he
   rfl
  subst hm
  have hM:=(hfz g rfl).1
  refine ⟨g,cap,fun id k q hk hq he=> ?_,hcm,?_⟩
  ·have:=S.nb id k q hk hq
   subst he
   exact hloc id k hk (by rw[this]; rfl)
  have hlt:g<w.heap.size:=(Array.getElem?_eq_some_iff.1 hg).1
  have S2:=Sim.bind S1 (d:=d) (b:=g) (k:= .var [] (some g) (some (e,size,cap))) hd hdh
   ⟨cur,⟨e,rfl,by rw[hsz,hz],hcm⟩,hg,Nat.zero_le _,(fun _ h=>nomatch h),(fun _ _ _ h=>by simp at h),fun p v hp hpb=>by have:=(hfz g rfl).2 p v hp hpb; omega⟩
   hM hlt (fun id k' hk' he=>hloc id k' hk' (by rw[he]; rfl)) (fun j' e' c' hj' i' hi' u hu=>hown j' e' c' hj' i' hi' u g hu rfl) (fun q hq=>by cases hq; rfl)
  refine { S2 with tm:=fun k tv e'=> ?_,wf:=fun k tv e'=> ?_ }
  ·have e2:look k ((i,TV.v (.val (.slice (some ⟨g,0,none⟩) 0 cap)))::st.t)=some tv:=e'
   rw[look_cons] at e2
   split at e2
   ·rename_i hk
    subst hk
    cases e2
    exact ⟨_,hx,Rep.val _⟩
   ·exact S2.tm k tv e2
  ·have e2:look k ((i,TV.v (.val (.slice (some ⟨g,0,none⟩) 0 cap)))::st.t)=some tv:=e'
   rw[look_cons] at e2
   split at e2
   ·cases e2; trivial
   ·exact S2.wf k tv e2
theorem aw_row {c:Code} {st:St} {Q:AX→St→Prop} (i d:Nat) (e:TypeId) (size:Nat) (h1:look i st.t=some (.v (.slice size []))) (ho:ownOf i st.o=some e) (hz:P.cellsOf e=size) (hd:d<st.n) (hdh:look d st.h=none)
  (hn:aw P T c (nilSt st i) Q) (hr:∀r cap,(∀id k q,look id st.h=some k→k.nm=some q→q≠r)→cap≤maxLen→aw P T c (rowSt st i d r cap e size) Q):aw P T c st Q:=by
 unfold aw at hn hr ⊢
 intro rd M F0 w0 F ρ a w hR S
 rcases row_start S h1 ho hz hd hdh with S' | ⟨r,cap,g1,g2,S'⟩
 ·exact hn rd M F0 w0 F ρ a w hR S'
 ·exact hr r cap g1 g2 rd M F0 w0 F _ a w hR S'
end Go.Ab
