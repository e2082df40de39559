/- A part of this claim. -/
import Derived.Calls
import Derived.Orders
import Derived.Still
import Derived.Deep.LoopGhost
import Derived.Below
import Derived.Maps.AppendAt
import Derived.Laws.Cells
import Derived.IntWalk
import Derived.Laws.StructEq
import Derived.Lib.SmallJoins
import Derived.WideShapes
import Derived.MapKept
import Derived.Laws.Tables
import Derived.CallsIn
import Derived.OrdersIn
import Derived.RangeFuncCalls
import Derived.RangeFuncIn
import Derived.KernelRfl
set_option maxHeartbeats 1000000
theorem ul:type_of%@if_neg:=@if_neg
theorem um:type_of%@if_pos:=@if_pos
theorem un:type_of%@eq_false:=@eq_false
theorem uo:type_of%@eq_true:=@eq_true
theorem uq:type_of%@Nat.zero_le:=@Nat.zero_le
theorem ur:type_of%@decide_eq_true:=@decide_eq_true
theorem ut:type_of%@List.length_map:=@List.length_map
theorem uu:type_of%@Option.some.injEq:=@Option.some.injEq
theorem uv:type_of%@Nat.le_refl:=@Nat.le_refl
theorem uw:type_of%@Bool.and_eq_true:=@Bool.and_eq_true
theorem ux:type_of%@decide_eq_false:=@decide_eq_false
theorem uy:type_of%@if_true:=@if_true
theorem uz:type_of%@and_self_right:=@and_self_right
theorem va:type_of%@if_false:=@if_false
theorem vc:type_of%@List.mem_of_getElem?:=@List.mem_of_getElem?
theorem vd:type_of%@and_self_left:=@and_self_left
theorem ve:type_of%@List.length_append:=@List.length_append
theorem vf:type_of%@and_self:=@and_self
theorem vg:type_of%@List.mem_cons:=@List.mem_cons
theorem vj:type_of%@List.all_eq_true:=@List.all_eq_true
theorem vk:type_of%@List.take_length:=@List.take_length
theorem vl:type_of%@List.map_cons:=@List.map_cons
theorem vm:type_of%@List.getElem?_map:=@List.getElem?_map
theorem vn:type_of%@List.any_eq_false:=@List.any_eq_false
theorem vo:type_of%@Nat.lt_or_ge:=@Nat.lt_or_ge
theorem vp:type_of%@List.any_eq_true:=@List.any_eq_true
theorem vq:type_of%@Bool.false_eq_true:=@Bool.false_eq_true
theorem vr:type_of%@decide_eq_true_eq:=@decide_eq_true_eq
theorem vt:type_of%@List.append_assoc:=@List.append_assoc
theorem vw:type_of%@List.append_nil:=@List.append_nil
theorem vx:type_of%@Nat.zero_add:=@Nat.zero_add
theorem vy:type_of%@List.map_append:=@List.map_append
theorem vz:type_of%@List.length_take:=@List.length_take
theorem xa:type_of%@Nat.le_trans:=@Nat.le_trans
theorem xb:type_of%@List.getElem?_append_left:=@List.getElem?_append_left
theorem xc:type_of%@List.getElem?_of_mem:=@List.getElem?_of_mem
theorem xd:type_of%@Prod.mk.injEq:=@Prod.mk.injEq
theorem xe:type_of%@List.getElem?_append_right:=@List.getElem?_append_right
theorem xf:type_of%@Option.some.inj:=@Option.some.inj
theorem xg:type_of%@And.imp:=@And.imp
theorem xi:type_of%@List.mem_map:=@List.mem_map
theorem xj:type_of%@List.length_pos_iff:=@List.length_pos_iff
theorem xk:type_of%@Array.getElem?_eq_getElem:=@Array.getElem?_eq_getElem
theorem xl:type_of%@Array.ext':=@Array.ext'
theorem xm:type_of%@Bool.and_false:=@Bool.and_false
theorem xn:type_of%@List.take_of_length_le:=@List.take_of_length_le
theorem xo:type_of%@List.length_drop:=@List.length_drop
theorem xp:type_of%@of_decide_eq_true:=@of_decide_eq_true
theorem xq:type_of%@Eq.symm:=@Eq.symm
theorem xt:type_of%@List.getElem?_take:=@List.getElem?_take
theorem xu:type_of%@List.eq_nil_of_length_eq_zero:=@List.eq_nil_of_length_eq_zero
theorem xw:type_of%@List.find?_eq_none:=@List.find?_eq_none
theorem xx:type_of%@Bool.or_false:=@Bool.or_false
theorem xy:type_of%@List.mem_singleton:=@List.mem_singleton
theorem xz:type_of%@List.not_mem_nil:=@List.not_mem_nil
theorem ya:type_of%@or_false:=@or_false
theorem yb:type_of%@Bool.false_or:=@Bool.false_or
theorem yc:type_of%@Bool.true_and:=@Bool.true_and
theorem yd:type_of%@Nat.add_mul:=@Nat.add_mul
theorem ye:type_of%@Ne.symm:=@Ne.symm
theorem yf:type_of%@Nat.not_lt_zero:=@Nat.not_lt_zero
theorem yg:type_of%@and_assoc:=@and_assoc
theorem yh:type_of%@Nat.min_eq_left:=@Nat.min_eq_left
theorem yj:type_of%@Bool.true_or:=@Bool.true_or
theorem yk:type_of%@Option.ne_none_iff_exists':=@Option.ne_none_iff_exists'
theorem yl:type_of%@Option.bind_eq_some_iff:=@Option.bind_eq_some_iff
theorem ym:type_of%@List.drop_zero:=@List.drop_zero
theorem yn:type_of%@Nat.lt_of_lt_of_le:=@Nat.lt_of_lt_of_le
theorem yo:type_of%@Array.getElem?_eq_none:=@Array.getElem?_eq_none
theorem yp:type_of%@List.mem_filter:=@List.mem_filter
theorem yq:type_of%@List.mem_cons_of_mem:=@List.mem_cons_of_mem
theorem yt:type_of%@beq_self_eq_true:=@beq_self_eq_true
theorem yu:type_of%@List.mem_of_mem_take:=@List.mem_of_mem_take
theorem yw:type_of%@Option.isSome_iff_exists:=@Option.isSome_iff_exists
theorem yx:type_of%@Nat.succ_ne_zero:=@Nat.succ_ne_zero
theorem yy:type_of%@List.getElem?_eq_none:=@List.getElem?_eq_none
theorem yz:type_of%@Bool.eq_false_iff:=@Bool.eq_false_iff
theorem qv5:type_of%@List.mem_of_find?_eq_some:=@List.mem_of_find?_eq_some
theorem qv6:type_of%@Bool.or_true:=@Bool.or_true
theorem qv7:type_of%@Nat.mul_le_mul_right:=@Nat.mul_le_mul_right
theorem qv8:type_of%@Nat.le_of_ble_eq_true:=@Nat.le_of_ble_eq_true
theorem qv9:type_of%@decide_true:=@decide_true
theorem qva:type_of%@List.take_succ_eq_append_getElem:=@List.take_succ_eq_append_getElem
theorem qvb:type_of%@List.drop_eq_nil_of_le:=@List.drop_eq_nil_of_le
theorem qvc:type_of%@beq_iff_eq:=@beq_iff_eq
theorem qvd:type_of%@List.getD_eq_getElem?_getD:=@List.getD_eq_getElem?_getD
theorem qve:type_of%@Nat.add_assoc:=@Nat.add_assoc
theorem qvf:type_of%@Nat.add_comm:=@Nat.add_comm
theorem qvg:type_of%@Bool.false_and:=@Bool.false_and
theorem qvh:type_of%@List.mem_map_of_mem:=@List.mem_map_of_mem
theorem qvi:type_of%@Nat.mul_one:=@Nat.mul_one
theorem qvj:type_of%@Nat.mul_comm:=@Nat.mul_comm
theorem qvk:type_of%@List.foldl_append:=@List.foldl_append
theorem qvl:type_of%@Bool.not_false:=@Bool.not_false
theorem qvm:type_of%@List.map_take:=@List.map_take
theorem qvn:type_of%@List.map_drop:=@List.map_drop
theorem qvo:type_of%@UInt8.toNat_inj:=@UInt8.toNat_inj
theorem qvp:type_of%@List.mem_cons_self:=@List.mem_cons_self
theorem qvq:type_of%@List.drop_eq_getElem_cons:=@List.drop_eq_getElem_cons
theorem qvr:type_of%@List.mem_of_mem_drop:=@List.mem_of_mem_drop
theorem qvs:type_of%@List.find?_some:=@List.find?_some
theorem qvt:type_of%@Bool.or_eq_true:=@Bool.or_eq_true
theorem qvu:type_of%@Bool.not_eq_true':=@Bool.not_eq_true'
theorem qvv:type_of%@List.take_append_drop:=@List.take_append_drop
theorem qvw:type_of%@List.size_toArray:=@List.size_toArray
theorem qvx:type_of%@Nat.eq_of_beq_eq_true:=@Nat.eq_of_beq_eq_true
theorem qvy:type_of%@decide_eq_false_iff_not:=@decide_eq_false_iff_not
theorem qvz:type_of%@Nat.lt_irrefl:=@Nat.lt_irrefl
theorem qw0:type_of%@List.mem_append:=@List.mem_append
theorem qw1:type_of%@Nat.div_add_mod:=@Nat.div_add_mod
theorem qw2:type_of%@Bool.and_true:=@Bool.and_true
theorem qw3:type_of%@decide_false:=@decide_false
theorem qw4:type_of%@List.filter_append:=@List.filter_append
theorem qw5:type_of%@Bool.not_true:=@Bool.not_true
theorem qw6:type_of%@Bool.eq_iff_iff:=@Bool.eq_iff_iff
theorem qw7:type_of%@List.mem_iff_getElem?:=@List.mem_iff_getElem?
theorem qw8:type_of%@Nat.max_eq_left:=@Nat.max_eq_left
theorem qw9:type_of%@Bool.and_self:=@Bool.and_self
theorem qwa:type_of%@List.drop_succ_cons:=@List.drop_succ_cons
theorem qwb:type_of%@List.findIdx?_eq_some_iff_getElem:=@List.findIdx?_eq_some_iff_getElem
theorem qwc:type_of%@List.drop_drop:=@List.drop_drop
theorem qwd:type_of%@List.map_nil:=@List.map_nil
theorem qwe:type_of%@List.length_filter_le:=@List.length_filter_le
theorem qwf:type_of%@Array.getElem?_toList:=@Array.getElem?_toList
theorem qwg:type_of%@List.head?_eq_getElem?:=@List.head?_eq_getElem?
theorem qwh:type_of%@List.getElem?_drop:=@List.getElem?_drop
theorem qwi:type_of%@Array.getElem?_setIfInBounds_ne:=@Array.getElem?_setIfInBounds_ne
theorem qwj:type_of%@Array.getD_eq_getD_getElem?:=@Array.getD_eq_getD_getElem?
theorem qwk:type_of%@List.flatten_append:=@List.flatten_append
theorem qwl:type_of%@List.filter_cons_of_pos:=@List.filter_cons_of_pos
theorem qwm:type_of%@List.any_append:=@List.any_append
theorem qwn:type_of%@List.length_set:=@List.length_set
theorem qwo:type_of%@Decidable.not_not:=@Decidable.not_not
theorem qwp:type_of%@List.getElem_mem:=@List.getElem_mem
theorem qwq:type_of%@List.filter_cons:=@List.filter_cons
theorem qwr:type_of%@Nat.ble_eq_true_of_le:=@Nat.ble_eq_true_of_le
theorem qws:type_of%@List.filter_eq_self:=@List.filter_eq_self
theorem qwt:type_of%@List.findIdx?_eq_none_iff:=@List.findIdx?_eq_none_iff
theorem qwu:type_of%@Array.toList_map:=@Array.toList_map
theorem qwv:type_of%@Nat.add_sub_cancel:=@Nat.add_sub_cancel
theorem qww:type_of%@Nat.lt_trichotomy:=@Nat.lt_trichotomy
theorem qwx:type_of%@List.mem_append_left:=@List.mem_append_left
theorem qwy:type_of%@Nat.div_eq_of_lt:=@Nat.div_eq_of_lt
theorem qwz:type_of%@List.nodup_cons:=@List.nodup_cons
theorem qx0:type_of%@List.length_replicate:=@List.length_replicate
theorem qx1:type_of%@List.filter_cons_of_neg:=@List.filter_cons_of_neg
theorem qx2:type_of%@List.mem_append_right:=@List.mem_append_right
theorem omq{p:Prop}(h:p:=by omega):p:=h
theorem krq{p:Prop}(h:p:=by kernel_rfl):p:=h
theorem dcq{p:Prop}(h:p:=by decide):p:=h
theorem smq{p:Prop}(h:p:=by simp):p:=h
theorem rfq{p:Prop}(h:p:=by rfl):p:=h
theorem za{p:Prop}(h:p:=by refine run ?_;exact fin rfl):p:=h
theorem zb{p:Prop}(h:p:=by refine run ?_;refine hE () _ trivial ?_;exact bl [1,2] [1,2] rfl rfl rfl (fun _ _ e=>e) rfl):p:=h
theorem zc{p:Prop}(h:p:=by refine runW hx ?_;exact round (k+1,gm (l.take k) s d M) ⟨by simp only;omega,by simp only;rw[hts,mt,ul (by simp[ha]),vw],by simp only;omega⟩ (by simp only;omega)):p:=h
theorem zd{p:Prop}(h:p:=by rw[xe omq] at e1;rw[xe (by rw[ut];omega)] at e2;rw[ut,<- hl2] at e2;exact hh _ v x e1 (by simpa using e2)):p:=h
theorem ze{p:Prop}(h:p:=by exact round (k+1) hlt omq):p:=h
theorem zf{p:Prop}(h:p:=by refine runW hx ?_;exact fin rfl):p:=h
theorem zg{p:Prop}(h:p:=by exact⟨.slice none 0 0,smq,⟨0,[],co.nil _ _ _ _,fun g hg'=>by simp[Value.ownBlock] at hg'⟩,fun id k' _=>by simp[Value.ownBlock]⟩):p:=h
theorem zh{p:Prop}(h:p:=by refine runW hx ?_;exact round (k+1,ba (l.take k) s d) ⟨by simp only;omega,by simp only;rw[hts,sz ha],hm⟩ (by simp only;omega)):p:=h
theorem zi{p:Prop}(h:p:=by intro y hy;simp only[xy] at hy;subst hy;exact⟨999000,_,rfl,rfl,rfl,.inr rfl,rfl⟩):p:=h
theorem zj{p:Prop}(h:p:=by rw[hkv x (jhk hall hx (ur ha))];refine runD (ai hx ha) ?_;refine jc7 ((.one 0 (.one 1 (.one 5 (.alt 2 (.one 3 (.alt 4 (.alt 6 (.one 7 (.alt 8 .done .nil)) .nil) (.alt 6 (.alt 4 (.one 7 (.alt 8 .done .nil)) .nil) .nil))) (.alt 6 (.alt 2 (.one 3 (.alt 4 (.one 7 (.alt 8 .done .nil)) .nil)) .nil) .nil)))))) ?_;refine jby hx ?_;refine run ?_;exact finW (ee _ _ _ _ _)):p:=h
theorem zl{p:Prop}(h:p:=by rw[xb hj] at e1;rw[xb (by rw[ut];omega)] at e2;exact hh2 j v x e1 e2):p:=h
theorem zm{p:Prop}(h:p:=by rw[harr,<- this];simp[execOp,ho,resolve,hc,hfx,Deferred.ofValue,invoke]):p:=h
theorem zn{p:Prop}(h:p:=by refine runW (ai hx (ai hap (ai au (ai av ag)))) ?_;exact ze):p:=h
theorem zo{p:Prop}(h:p:=by refine runW (ai ha (ai (show (r.trg == [111,112,101,110,101,100])=true from ho) (ai hy he))) ?_;exact fin rfl):p:=h
theorem zp{p:Prop}(h:p:=by simp only[execOp,ho,resolve,hc,ha,hb,Sem.run_bind,Sem.run_pure,Result.andThen_ok,invoke,builtin,List.map_toArray,vl,qwd];rw[hrun];rfl):p:=h
theorem zq{p:Prop}(h:p:=by refine run ?_;exact finO (.refl _)):p:=h
theorem zr{p:Prop}(h:p:=by obtain⟨x0,hx0,_⟩:=S.tm i _ (jdu hv);have hlt:=(asi.1 hx0).1;have:=hv1 i hi0;rw[lj (by have:=S.nn;omega)] at this;simp[Act.eval,this]):p:=h
theorem zt{p:Prop}(h:p:=by rename_i he;subst he;exact e):p:=h
theorem zu{p:Prop}(h:p:=by refine run ?_;exact mi (.refl _)):p:=h
theorem zw{p:Prop}(h:p:=by rw[xe omq] at e1;rw[xe (by rw[ut];omega)] at e2;rw[ut,<- hl2] at e2;simp only[vm,msi] at e1;obtain⟨t,e1,rfl⟩:=e1;exact hh _ t x e1 (by simpa using e2)):p:=h
theorem zx{p:Prop}(h:p:=by refine runW (ai hx (un hm2)) ?_;exact round (k+1) ⟨hlt,hall'⟩ omq (done (by rw[hmvx,ux hm2];rfl))):p:=h
theorem zy{p:Prop}(h:p:=by exact round (k+1) omq omq):p:=h
theorem z5{p:Prop}(h:p:=by refine fin (ae ?_);simp):p:=h
theorem z6{p:Prop}(h:p:=by simp only;obtain⟨hlt',rfl⟩:=gsi.1 hx;rw[qva hlt',hall,vy];rfl):p:=h
theorem z7{p:Prop}(h:p:=by exact round (k+1,gm (l.take k) s d M++[x.id]) ⟨by simp only;omega,by simp only;rw[hts,mt,um ⟨ha,g⟩],by simp only[ve,List.length_cons,List.length_nil];omega⟩ (by simp only;omega)):p:=h
theorem z8{p:Prop}(h:p:=by simp only[qvw,ve,vz,xo,Array.length_toList];omega):p:=h
theorem z9{p:Prop}(h:p:=by rw[qva hlt,vy,vy];obtain⟨_,rfl⟩:=gsi.1 hx;rfl):p:=h
theorem zba{p:Prop}(h:p:=by refine run ?_;exact sm (.refl _)):p:=h
theorem zbb{p:Prop}(h:p:=by refine runW (ai rv (ai au (ai av ag))) ?_;exact⟨_,_,dl rfl,.refl _,.inl ⟨none,hs,rfl,rfl⟩⟩):p:=h
theorem zbc{p:Prop}(h:p:=by exact ky (.v (.refl _))):p:=h
theorem zbd{p:Prop}(h:p:=by obtain⟨b,hb⟩:=lh h1;obtain⟨b',hb'⟩:=lh h2;obtain⟨id,_,e1,e2,_⟩:=hlent' k b hb;obtain⟨id',_,e1',e2',_⟩:=hlent' k' b' hb';rw[e2,e2'] at he;subst he;exact jao hκ e1 e1'):p:=h
theorem zbe{p:Prop}(h:p:=by rw[um hv,Nat.min_eq_right omq];exact za):p:=h
theorem zbf{p:Prop}(h:p:=by subst hxy;refine runW (ai hx hy) ?_;exact round (k+1) ⟨omq,by rw[hall,jaq hd he];simp⟩ omq):p:=h
theorem zbg{p:Prop}(h:p:=by simp only[msi] at e;obtain⟨v,_,rfl⟩:=e;trivial):p:=h
theorem zbh{p:Prop}(h:p:=by refine runW (ai hx hm2) ?_;exact round (k+1) ⟨hlt,hall'⟩ omq (done (by rw[hmvx,hm2];rfl))):p:=h
theorem zbi{p:Prop}(h:p:=by rw[ul hv,yh omq];exact za):p:=h
theorem zbj{p:Prop}(h:p:=by refine run ?_;refine round (k+1,m.length) ⟨by simp only;omega,by simp only;rw[qt hps];omega,fun _=>hhas,hgo _ omq omq⟩ (by simp only;omega) ?_;simp only;rw[<- hnew];rfl):p:=h
theorem zbk{p:Prop}(h:p:=by exact finW (ee _ _ _ _ _)):p:=h
theorem zbl{p:Prop}(h:p:=by refine rc hlen ?_;refine runW e4 ?_;exact round (k',m+1,dd-lenM l m) ⟨by simp only;omega,by simp only;omega,by simp only;rw[jbj l g1];omega,g4⟩ (by simp only;omega)):p:=h
theorem zbm{p:Prop}(h:p:=by have:=sb hor _ qvp;simp only[RepT] at h3 ⊢;rw[<- hid k this];exact h3):p:=h
theorem zbn{p:Prop}(h:p:=by exact round (k+1,gm (l.take k) s d M) ⟨by simp only;omega,by simp only;rw[hts,mt,ul (fun h=>g h.2),vw],by simp only;omega⟩ (by simp only;omega)):p:=h
theorem zbo{p:Prop}(h:p:=by rw[xb hj] at e1;rw[xb (by rw[ut];omega)] at e2;exact hh2 j (.v v) x (by rw[vm,e1];rfl) e2):p:=h
theorem zbp{p:Prop}(h:p:=by obtain⟨a,b,rfl,h1,c,d,rfl,h2,rfl⟩:=h;obtain⟨s,rfl,hs⟩:=jm Tryz.underlying9 h1;obtain⟨u,rfl,hu⟩:=jm Tryz.underlying9 h2;exact⟨⟨s,u⟩,rfl,hs,hu⟩):p:=h
theorem zbq{p:Prop}(h:p:=by have:id≠d:=fun he=>hw (he▸hd);simp only[RepT] at e2 ⊢;rw[ul this];exact e2):p:=h
theorem zbr{p:Prop}(h:p:=by rw[um hpv];refine runW hq ?_;exact fin rfl):p:=h
theorem zbs{p:Prop}(h:p:=by rw[jg hr ((db r).2 (.inl (by simp[idB];omega)))];exact za):p:=h
theorem zbt{p:Prop}(h:p:=by unfold qv iu at hzc;rw[hi] at hzc;simp only[Option.bind_some,msi] at hzc;exact hzc):p:=h
theorem zbu{p:Prop}(h:p:=by refine run ?_;exact fin (ae (ju p l))):p:=h
theorem zbv{p:Prop}(h:p:=by refine run ?_;exact fin (ae (ju _ l))):p:=h
theorem zbw{p:Prop}(h:p:=by obtain⟨x,hx,-,-⟩:=ac hlt;refine runW hx ?_;exact zy):p:=h
theorem zbx{p:Prop}(h:p:=by obtain⟨-,⟨m,ys,e2,_⟩,-⟩:=S.oval hj hi (by rw[<- oa S (w':=w') (fun g hg _=>hx.bel.block g hg) j e c hj i hi];exact hu);exact(e2.lt _ hq).2):p:=h
theorem zby{p:Prop}(h:p:=by refine run ?_;exact fin (ah (jhz hv hg h3 h4 hc).symm)):p:=h
theorem zbz{p:Prop}(h:p:=by exact round (k+1,some x) ⟨by simp only;omega,hall⟩ (by simp only;omega)):p:=h
theorem zb0{p:Prop}(h:p:=by simp only[only,uw] at h;have:=qvx h.1;subst this;simp only[okA,er,Option.isSome_some,yc];exact jbq h.2):p:=h
theorem zb1{p:Prop}(h:p:=by rw[hc] at hsn;refine run ?_;exact round (k+1,out) ⟨by simp only;omega,by simp only;omega,by simp only;rw[hsn];simp⟩ (by simp only;omega)):p:=h
theorem zb2{p:Prop}(h:p:=by refine runW (un hz) ?_;exact fin rfl):p:=h
theorem zb3{p:Prop}(h:p:=by exact hall i omq):p:=h
theorem zb4{p:Prop}(h:p:=by exact bl [5,2] [1,2,5] rfl rfl rfl (fun _ _ e=>e) rfl):p:=h
theorem zb5{p:Prop}(h:p:=by refine fin (ae ?_);simp[h2]):p:=h
theorem zb6{p:Prop}(h:p:=by simp at hv hw;subst hv hw;exact .refl _):p:=h
theorem zb7{p:Prop}(h:p:=by refine runW h1 ?_;refine fin (ae ?_);simp[fk,hn,h1]):p:=h
theorem zb8{p:Prop}(h:p:=by obtain⟨rs,hrs⟩:∃rs,ao r f d=rs:=⟨_,rfl⟩;rw[hrs] at hz hlp ⊢;refine rcW (un hz) (jfj f d) ?_;refine runW hst ?_;exact zbk):p:=h
theorem zb9{p:Prop}(h:p:=by have:=Sim.putr (d:=t) S1 hT trivial (by have:=(asi.1 h1).1;rw[<- S.n];exact this);rw[jh8 h1] at this;unfold SimS;rw[σ_cons];exact this):p:=h
theorem zca{p:Prop}(h:p:=by rw[ul hg] at hall;refine runW (ai hx (ai hn' hcm)) ?_;exact round (k+1,some m) ⟨by simp only;omega,hall⟩ (by simp only;omega)):p:=h
theorem zcb{p:Prop}(h:p:=by exact round (k+1,ba (l.take k) s d) ⟨by simp only;omega,by simp only;rw[hts,mr ha,qw8 omq],hm⟩ (by simp only;omega)):p:=h
theorem zcc{p:Prop}(h:p:=by rw[hbad 6 hr dcq];refine runW hb ?_;exact fin rfl):p:=h
theorem zcd{p:Prop}(h:p:=by simp only[ve,List.length_cons,List.length_nil];omega):p:=h
theorem zce{p:Prop}(h:p:=by rw[e1,e2];refine runW hmr ?_;exact zbc):p:=h
theorem zcf{p:Prop}(h:p:=by have hno:=hout (by unfold forA;simp[h1]);refine runW (ai hX (ai ha (un h1))) ?_;refine round (k+1) hlt omq ?_;rw[hno];rfl):p:=h
theorem zcg{p:Prop}(h:p:=by exact⟨_,by simp only[binOp,Op.shift];rw[ul (Int.not_lt.2 hn)];rfl,.val _,fun ox oy=>by unfold eqGuard;split<;>rfl⟩):p:=h
theorem zch{p:Prop}(h:p:=by refine runW hx ?_;exact round (k+1) ⟨hlt,hall'⟩ omq (done rfl)):p:=h
theorem zci{p:Prop}(h:p:=by rw[e1] at hvv;simp only[Value.slice.injEq] at hvv;exact hvv.2.1):p:=h
theorem zcj{p:Prop}(h:p:=by exact round (k+1,out++[h.id]) ⟨by simp only;omega,by simp;omega,by simp only;rw[hsn];simp⟩ (by simp only;omega)):p:=h
theorem zck{p:Prop}(h:p:=by symm;rw[qvy];intro h;exact hl (by rw[h])):p:=h
theorem zcl{p:Prop}(h:p:=by rw[hbad 2 (jav (.inl ((jc1 _).2 (.inr h3)))) dcq];refine runW (ai hx (ai (un h2) (uo h3))) ?_;exact fin rfl):p:=h
theorem zcm{p:Prop}(h:p:=by obtain⟨b,hb⟩:=yw.1 h.1;simp[wfT,hb]):p:=h
theorem zcn{p:Prop}(h:p:=by refine .inl ⟨by simp[ix,h],?_⟩;rw[qwt] at h;rw[xw];intro x hx;simp[h x hx]):p:=h
theorem zco{p:Prop}(h:p:=by refine fin (ae ?_);rw[hl];simp[a4,a100,a400]):p:=h
theorem zcp{p:Prop}(h:p:=by rw[bad (by unfold bigC;simp[q4])];exact zf):p:=h
theorem zcq{p:Prop}(h:p:=by rw[bad (by unfold bigC;simp[q3])];exact zf):p:=h
theorem zcr{p:Prop}(h:p:=by exact pt (.v (.refl _))):p:=h
theorem zcs{p:Prop}(h:p:=by rename_i he;subst he;rw[hk];rfl):p:=h
theorem zct{p:Prop}(h:p:=by refine run ?_;exact round (k+1) ⟨omq,an hall hx hpc⟩ omq):p:=h
theorem zcu{p:Prop}(h:p:=by rw[um hbig];refine runW (uo hbig) ?_;exact fin rfl):p:=h
theorem zcv{p:Prop}(h:p:=by refine runW hy ?_;exact round (k+1) ⟨omq,an (q:=fun n:Int=>decide (x=n)=false) hall hy (by simp[hxy])⟩ omq):p:=h
theorem zcw{p:Prop}(h:p:=by refine round (k+1) hlt omq ?_;rw[hS'];rfl):p:=h
theorem zcx{p:Prop}(h:p:=by intro k hk;subst hk;exact zb):p:=h
theorem zcy{p:Prop}(h:p:=by exact⟨y,by simp[Instr.loadAt,e,Instr.sureAddr,hr],hy⟩):p:=h
theorem zcz{p:Prop}(h:p:=by rw[<- qa6 a hlt] at hR;refine rcW (ai hc (ai (tk25 hl) tr)) hR ?_;refine runW (ai hl2 (jjg hl)) ?_;exact ze):p:=h
theorem zc0{p:Prop}(h:p:=by refine run ?_;exact ze):p:=h
theorem zc1{p:Prop}(h:p:=by simp[Instr.mapUpdate,run_underlying hu,hev,ja4 b1,hck,Instr.findKey,run_underlying hd,g1,hz,hstay,hset]):p:=h
theorem zc2{p:Prop}(h:p:=by obtain⟨v,q1,q2⟩:=h.get e;exact⟨v,by rw[xb (gsi.1 q1).1];exact q1,q2⟩):p:=h
theorem zc3{p:Prop}(h:p:=by refine runW (ai hx (un ha)) ?_;exact round (k+1) ⟨hlt,an hall hx (ux ha)⟩ omq):p:=h
theorem zc4{p:Prop}(h:p:=by refine run ?_;exact finW (tf _)):p:=h
theorem zc5{p:Prop}(h:p:=by rw[hbad 2 (jav (.inl ((jc1 _).2 (.inl h2)))) dcq];refine runW (ai hx (uo h2)) ?_;exact fin rfl):p:=h
theorem zc6{p:Prop}(h:p:=by rw[e];exact hz):p:=h
theorem zc7{p:Prop}(h:p:=by exact k F ρ st' _ w S' hK):p:=h
theorem zc8{p:Prop}(h:p:=by rw[htv (jhi (dh hall hlt))];refine rc (js3 L r f d rs hr hf hok hfm hd hnil hmem omq) ?_;exact za):p:=h
theorem zc9{p:Prop}(h:p:=by obtain⟨ad,g,hv,-⟩:=rp (show Rep F (.row cs) (a.eval x) from G.opr x _ hxv);exact⟨ad,hv⟩):p:=h
theorem zda{p:Prop}(h:p:=by subst hkl;rw[h1,List.drop_of_length_le omq];exact za):p:=h
theorem zdb{p:Prop}(h:p:=by simpa using this):p:=h
theorem zdc{p:Prop}(h:p:=by rw[qvy,hall,jaq hd he];simp[hxy]):p:=h
theorem zdd{p:Prop}(h:p:=by intro y hy;simp only[xy] at hy;subst hy;exact⟨4,_,rfl,rfl,rfl,.inl rfl,rfl⟩):p:=h
theorem zde{p:Prop}(h:p:=by rw[um h0] at h;exact absurd h h0):p:=h
theorem zdf{p:Prop}(h:p:=by rw[List.find?_eq_some_iff_getElem];exact⟨hpi,i,hlt,rfl,fun j hj=>by simpa using hbef j hj⟩):p:=h
theorem zdg{p:Prop}(h:p:=by rw[qvq hlt];rfl):p:=h
theorem zdh{p:Prop}(h:p:=by refine runW (un h1) ?_;exact z5):p:=h
theorem zdi{p:Prop}(h:p:=by refine rc (da _ 11) ?_;refine rc hap ?_;refine rc (da _ 22) ?_;refine rc (hF _ _ _) ?_;exact za):p:=h
theorem zdj{p:Prop}(h:p:=by simp[Instr.mapUpdate,run_underlying hu,hev,ja4 b1,hck,Instr.findKey,run_underlying hd,g1,hset]):p:=h
theorem zdk{p:Prop}(h:p:=by refine runW (ai ha (show (r.trg == [111,112,101,110,101,100])=false from ho)) ?_;exact fin rfl):p:=h
theorem zdl{p:Prop}(h:p:=by exact⟨.int .i64 m,by simp[Builtin.len_,run_underlying hu,Result.andThen,hv,goInt],.val _⟩):p:=h
theorem zdm{p:Prop}(h:p:=by rw[ul (by rw[hany];decide)] at hEE;subst hEE;refine runW (un hlt) ?_;exact fin rfl):p:=h
theorem zdn{p:Prop}(h:p:=by refine runW (ai ha (show (r.trg == [111,112,101,110,101,100])=true from ho)) ?_;exact fin rfl):p:=h
theorem zdo{p:Prop}(h:p:=by rw[um (.inl (show idB h.obj=false by simp[idB];omega))] at hn;rw[sc_e hn dcq];exact za):p:=h
theorem zdp{p:Prop}(h:p:=by simp only[ex14,vg,xz,ya] at hq;subst hq;exact⟨dcq,dcq⟩):p:=h
theorem zdq{p:Prop}(h:p:=by rw[qvq h',List.getElem_map,atU,qvd,gge h];rfl):p:=h
theorem zdr{p:Prop}(h:p:=by have:=al (G.v hv);exact⟨fun _ _=>undef,.inl ⟨this,rfl⟩,by simp[flat],smq,smq,smq⟩):p:=h
theorem zds{p:Prop}(h:p:=by refine runW hx ?_;exact fin (hn (by rw[hp,hall,hd];simp only[vnum];rw[ul omq]) rfl)):p:=h
theorem zdt{p:Prop}(h:p:=by refine runW (digs (n % 10) omq) ?_;exact fin rfl):p:=h
theorem zdu{p:Prop}(h:p:=by obtain⟨y,hy,he,-⟩:=ac hlt';refine run ?_;refine fin (ah ?_);rw[hall,he,dv hlt];rfl):p:=h
theorem zdv{p:Prop}(h:p:=by refine runW hx ?_;exact round (k+1) ⟨hlt,next (by unfold bigC;simp[q2,q3,q4])⟩ omq):p:=h
theorem zdw{p:Prop}(h:p:=by refine runW hx ?_;exact round (k+1) ⟨hlt,next (by unfold bigC;simp[q1,q3,q4])⟩ omq):p:=h
theorem zdx{p:Prop}(h:p:=by rw[he] at hg';have:=xf hg';omega):p:=h
theorem zdy{p:Prop}(h:p:=by rw[g8,ul (fun e=>by cases e.2)] at hr5;refine runW hmr ?_;exact midK (hφ.mpr hr5)):p:=h
theorem zdz{p:Prop}(h:p:=by simp only[only,uw] at h;have:=qvx h.1;subst this;rfl):p:=h
theorem zd0{p:Prop}(h:p:=by refine runW hy ?_;exact fin (ah (nv (p:=fun n=>decide (x=n)) hall hy (by simp[hxy])))):p:=h
theorem zd1{p:Prop}(h:p:=by refine runW (ai h4 (ai h100 (ai h400 a4))) ?_;refine fin (ae ?_);rw[hl];simp[a4,a100]):p:=h
theorem zd2{p:Prop}(h:p:=by refine runW hx ?_;exact round (k+1) ⟨omq,by rw[jxj hx,hall];simp[jw,c1,c2]⟩ omq):p:=h
theorem zd3{p:Prop}(h:p:=by have:=hl (j+1) (by simpa using hj);simpa [Nat.add_assoc,Nat.add_comm 1 j] using this):p:=h
theorem zd4{p:Prop}(h:p:=by refine runW (ai hf (ai f1 (ai f2 f3))) ?_;refine round (j+1) hjl omq ?_;rw[hsn];rfl):p:=h
theorem zd5{p:Prop}(h:p:=by refine run ?_;exact zbk):p:=h
theorem zd6{p:Prop}(h:p:=by rw[Lib.nDigits_big h10];have:=ih (u / 10) (by rw[Nat.pow_succ] at hu;omega);omega):p:=h
theorem zd7{p:Prop}(h:p:=by rw[Array.setIfInBounds_comm _ _ hji,jxn σ z v (fun d e1 e2=>a2 d e2 e1)];exact hK):p:=h
theorem zd8{p:Prop}(h:p:=by refine run ?_;refine round (k+1) ⟨omq,omq,?_⟩ omq;rw[hall,hr,jcn hc];simp[h0]):p:=h
theorem zd9{p:Prop}(h:p:=by refine runW hb ?_;exact round (j+1) ⟨hjl,an hall hy (by rw[hgc,hb];rfl)⟩ omq):p:=h
theorem zea{p:Prop}(h:p:=by obtain⟨y,hy,-,-⟩:=ac hjl;refine runW (ai hx hy) ?_;exact round (j+1) omq omq):p:=h
theorem zeb{p:Prop}(h:p:=by simp only[List.getElem?_cons_succ,vl] at e1 e2;exact hh j v' x' e1 e2):p:=h
theorem zec{p:Prop}(h:p:=by simp[Instr.sliceAt,run_underlying hu,Result.andThen,Instr.slice,hb,ja hi0,hsz]):p:=h
theorem zed{p:Prop}(h:p:=by refine am trivial ?_;exact gk hK () trivial):p:=h
theorem zee{p:Prop}(h:p:=by rw[ol hfi ((nc f).2 (.inr (.inr (.inr (.inl h4))))),h4.1];have:=h4.2;exact za):p:=h
theorem zef{p:Prop}(h:p:=by rw[um hpv] at hr;rw[out 5 hr dcq];refine runW (ai hh hq) ?_;exact fin rfl):p:=h
theorem zeg{p:Prop}(h:p:=by refine runW ho ?_;exact fin rfl):p:=h
theorem zeh{p:Prop}(h:p:=by exact⟨g,k1,fun j c e=>hle _ _ (k2 j c e),fun j c e=>(k3 j c e).mono hle⟩):p:=h
theorem zei{p:Prop}(h:p:=by unfold datB;rw[ur omq,ur omq,ur omq];rfl):p:=h
theorem zej{p:Prop}(h:p:=by rw[getD_set_ne true hjk] at hun;exact hun):p:=h
theorem zek{p:Prop}(h:p:=by simp only[qu,uw] at hp;exact Option.isNone_iff_eq_none.1 hp.1):p:=h
theorem zel{p:Prop}(h:p:=by simp only[fv,ho];rw[ul h,ul (by simp[hn]),ul h0,hq];simp[hle]):p:=h
theorem zem{p:Prop}(h:p:=by rw[z1] at hog;have:g'=g:=xf hog;subst this;exact⟨cur0,z3⟩):p:=h
theorem zen{p:Prop}(h:p:=by refine runW (ai h4 (ai h100 (ai h400 (ai a4 (ai a100 a400))))) ?_;exact zco):p:=h
theorem zeo{p:Prop}(h:p:=by unfold ofN;rw[jbj _ hk1];omega):p:=h
theorem zep{p:Prop}(h:p:=by rw[um ⟨g7,g8⟩] at hr5;obtain⟨e1,e2⟩:=hbad 6 hr5 dcq;exact zce):p:=h
theorem zeq{p:Prop}(h:p:=by rw[List.range_succ,qvk];rfl):p:=h
theorem zer{p:Prop}(h:p:=by obtain⟨st'',S'',hK'⟩:=nz S' hr hw hK;exact k F' ρ' st'' _ w' S'' hK'):p:=h
theorem zes{p:Prop}(h:p:=by exact⟨_,jad (jba hu _ _ _ w) rfl,.val _,fun ox oy=>by simp[eqGuard]⟩):p:=h
theorem zet{p:Prop}(h:p:=by exact⟨_,jac (jba hu _ _ _ w) rfl,.val _,fun ox oy=>by simp[eqGuard]⟩):p:=h
theorem zeu{p:Prop}(h:p:=by exact⟨_,fun w'=>by rw[hv,hi];exact jbf h1 k j _ m cap hm.1 hm.2 w'⟩):p:=h
theorem zev{p:Prop}(h:p:=by simp only;omega):p:=h
theorem zew{p:Prop}(h:p:=by simp;omega):p:=h
theorem zex{p:Prop}(h:p:=by rw[hpv];exact Bool.noConfusion):p:=h
theorem zey{p:Prop}(h:p:=by simp only[ve,hl1,List.length_cons,List.length_nil];omega):p:=h
theorem zez{p:Prop}(h:p:=by simpa using e2):p:=h
theorem ze0{p:Prop}(h:p:=by rw[e];simp):p:=h
theorem ze1{p:Prop}(h:p:=by rw[hog];intro h;have:=xf h;subst this;rw[hg0] at hb';cases hb'):p:=h
theorem ze2{p:Prop}(h:p:=by simpa using hc):p:=h
theorem ze3{p:Prop}(h:p:=by simp only[vt,List.cons_append]):p:=h
theorem ze4{p:Prop}(h:p:=by simpa using hl):p:=h
theorem ze5{p:Prop}(h:p:=by simpa using e1):p:=h
theorem ze6{p:Prop}(h:p:=by simp[af,qe,ec]):p:=h
theorem ze7{p:Prop}(h:p:=by rw[hs];simp[Value.ownBlock]):p:=h
theorem ze8{p:Prop}(h:p:=by simp[Call.operands,hc];simpa using hx):p:=h
theorem ze9{p:Prop}(h:p:=by rw[vz];omega):p:=h
theorem zfa{p:Prop}(h:p:=by rw[hog];exact fun h=>r2 g hog p u hp (xf h)):p:=h
theorem zfb{p:Prop}(h:p:=by show (befC r.crs r.crs.length).length<=1048576;omega):p:=h
theorem zfc{p:Prop}(h:p:=by simpa using hx):p:=h
theorem zfd{p:Prop}(h:p:=by simpa using hj):p:=h
theorem zfe{p:Prop}(h:p:=by simpa using hi):p:=h
theorem zff{p:Prop}(h:p:=by rw[vr];exact hlt2):p:=h
theorem zfg{p:Prop}(h:p:=by rw[h0] at hr;cases hr):p:=h
theorem zfh{p:Prop}(h:p:=by exact Bool.noConfusion):p:=h
theorem zfi{p:Prop}(h:p:=by rw[e];rfl):p:=h
theorem zfj{p:Prop}(h:p:=by simp[hy]):p:=h
theorem zfk{p:Prop}(h:p:=by rw[h] at hr;cases hr):p:=h
theorem zfl{p:Prop}(h:p:=by simp[wfT,er]):p:=h
theorem zfm{p:Prop}(h:p:=by rw[hh];exact e):p:=h
theorem zfn{p:Prop}(h:p:=by rw[ha.1];exact hlt):p:=h
theorem zfo{p:Prop}(h:p:=by rw[he];exact hne):p:=h
namespace Go.Ab
theorem ai{a b:Prop}(h:a)(k:b):a/\b:=⟨h,k⟩
theorem gsi{α:Type _}{l:List α}{i:Nat}{a:α}:l[i]?=some a↔∃h:i<l.length,l[i]=a:=List.getElem?_eq_some_iff
theorem msi{α β:Type _}{x:Option α}{b:β}{f:α->β}:Option.map f x=some b↔∃a,x=some a/\f a=b:=Option.map_eq_some_iff
theorem asi{α:Type _}{l:Array α}{i:Nat}{a:α}:l[i]?=some a↔∃h:i<l.size,l[i]=a:=Array.getElem?_eq_some_iff
theorem gge{α:Type _}{l:List α}{i:Nat}(h:i<l.length):l[i]?=some l[i]:=List.getElem?_eq_getElem h
open Go.RowKit
inductive V where
 |val (v:Value)
 |str (l:List UInt8)
 |agg (cs:List V)
 |tup (vs:List V)
 |slice (size:Nat) (es:List (List V))
 |row (cs:List V)
 |func (f:FuncId) (cap:List V)
 |ifc
 |map (ks vs:List V)
def lb(xs:Array MapEntry)(ck:Nat):Prop:=(∀(j:Nat) x,xs[j]?=some x->x.born<ck)/\∀(i j:Nat) x y,xs[i]?=some x->xs[j]?=some y->x.born=y.born->i=j
theorem lb.nil:lb #[] 0:=⟨fun j x h=>by simp at h,fun i j x y h=>by simp at h⟩
theorem lb.push{xs:Array MapEntry}{ck:Nat}(h:lb xs ck)(k v:Value):lb (xs.push { key:=k,val:=v,born:=ck }) (ck+1):=by
 have get:∀(j:Nat) x,(xs.push ({ key:=k,val:=v,born:=ck } : MapEntry))[j]?=some x->(j=xs.size/\x.born=ck)\/xs[j]?=some x:=fun j x e=>by
  rw[Array.getElem?_push] at e;split at e
  .rename_i hj;cases e;exact .inl ⟨hj,rfl⟩
  exact .inr e
 refine⟨fun j x e=>?_,fun i j x y e1 e2 he=>?_⟩
 .rcases get j x e with⟨_,h2⟩|h2
  .omega
  have:=h.1 j x h2;omega
 rcases get i x e1 with⟨h1,h2⟩|h2<;>rcases get j y e2 with⟨h3,h4⟩|h4
 .omega
 .have:=h.1 j y h4;omega
 .have:=h.1 i x h2;omega
 exact h.2 i j x y h2 h4 he
theorem lb.modify{xs:Array MapEntry}{ck:Nat}(h:lb xs ck)(n:Nat)(k v:Value):lb (xs.modify n fun e=> { e with key:=k,val:=v }) ck:=by
 have get:∀(j:Nat) x,(xs.modify n fun e=> { e with key:=k,val:=v })[j]?=some x->∃y,xs[j]?=some y/\x.born=y.born:=fun j x e=>by
  rw[Array.getElem?_modify] at e;split at e
  .obtain⟨y,h1,rfl⟩:=msi.1 e;exact⟨y,h1,rfl⟩
  exact⟨x,e,rfl⟩
 refine⟨fun j x e=>?_,fun i j x y e1 e2 he=>?_⟩
 .obtain⟨y,h1,h2⟩:=get j x e;have:=h.1 j y h1;omega
 obtain⟨x',h1,h2⟩:=get i x e1;obtain⟨y',h3,h4⟩:=get j y e2;exact h.2 i j x' y' h1 h3 omq
structure Frz where
 c:Addr->Option Value
 m:Nat->Option (Array MapEntry×Nat)
 z:Nat->Nat:=fun _=>0
instance:CoeFun Frz (fun _=>Addr->Option Value):=⟨Frz.c⟩
def V.one:V->Bool
 |.val v=>v.oneCell'
 |.agg _=>false
 |.tup _=>false
 |_=>true
def V.cells:V->List V
 |.agg cs=>cs
 |v=>[v]
inductive Rep (F:Frz):V->Value->Prop
 |val (v:Value):Rep F (.val v) v
 |str (l:List UInt8):Rep F (.str l) (.string ⟨l.toArray⟩)
 |agg {cs:List V} {xs:Array Value} (hl:xs.size=cs.length) (ho:∀c∈cs,c.one=true) (h:∀(j:Nat) c x,cs[j]?=some c->xs[j]?=some x->Rep F c x):Rep F (.agg cs) (.agg xs)
 |tup {vs:List V} {xs:Array Value} (hl:xs.size=vs.length) (h:∀(j:Nat) c x,vs[j]?=some c->xs[j]?=some x->Rep F c x):Rep F (.tup vs) (.tuple xs)
 |snil {size:Nat} : Rep F (.slice size []) (.slice none 0 0)
 | slice {size:Nat} {es:List (List V)} {a:Addr} {cap:Nat} (g:Nat->Nat->Value) (hc:es.length<=cap) (hm:cap<=maxLen)
   (hs:∀e∈es,e.length=size) (ho:∀e∈es,∀c∈e,c.one=true)
   (hg:∀(i j:Nat) e c,es[i]?=some e->e[j]?=some c->F (a.add (i*size+j))=some (g i j))
   (hr:∀(i j:Nat) e c,es[i]?=some e->e[j]?=some c->Rep F c (g i j)):Rep F (.slice size es) (.slice (some a) es.length cap)
 | row {cs:List V} {a:Addr} (g:Nat->Value) (ho:∀c∈cs,c.one=true)
   (hg:∀(j:Nat) c,cs[j]?=some c->F (a.add j)=some (g j)) (hr:∀(j:Nat) c,cs[j]?=some c->Rep F c (g j)):Rep F (.row cs) (.pointer (some a))
 |func {f:FuncId} {cap:List V} {xs:Array Value} (hl:xs.size=cap.length) (h:∀(j:Nat) c x,cap[j]?=some c->xs[j]?=some x->Rep F c x):Rep F (.func f cap) (.func (.func f) #[] xs)
 |ifc (t:TypeId) (v:Value):Rep F .ifc (.iface t v)
 | map {ks vs:List V} {b:Nat} {xs:Array MapEntry} {ck:Nat} (hb:F.m b=some (xs,ck)) (hl:xs.size=ks.length) (hl':xs.size=vs.length) (hk:∀(j:Nat) k x,ks[j]? = some k->xs[j]? = some x->Rep F k x.key)
   (hv:∀(j:Nat) v x,vs[j]?=some v->xs[j]?=some x->Rep F v x.val):Rep F (.map ks vs) (.map (some b))
structure Le (F F':Frz):Prop where
 c:∀p v,F p=some v->F' p=some v
 m:∀b xs,F.m b=some xs->F'.m b=some xs
instance {F F':Frz} : CoeFun (Le F F') (fun _=>∀p v,F p=some v->F' p=some v):=⟨Le.c⟩
theorem Le.refl(F:Frz):Le F F:=⟨fun _ _ h=>h,fun _ _ h=>h⟩
theorem Le.trans{F F' F'':Frz}(h:Le F F')(h':Le F' F''):Le F F'':=⟨fun p v e=>h' p v (h p v e),fun b xs e=>h'.m b xs (h.m b xs e)⟩
abbrev fw(w:World):Frz:= { c:=w.cell?,m:=fun _=>none }
structure Sees (F:Frz) (w:World):Prop where
 c:∀p v,F p=some v->w.cell? p=some v
 m:∀b xs,F.m b=some xs->∃ck: { c:Nat // lb xs.1 c/\c=xs.2 },w.heap[b]?=some (.map xs.1 ck.1)
instance {F:Frz} {w:World} : CoeFun (Sees F w) (fun _=>∀p v,F p=some v->w.cell? p=some v):=⟨Sees.c⟩
theorem Rep.mono{F F':Frz}(hF:Le F F'){v:V}{x:Value}(h:Rep F v x):Rep F' v x:=by
 induction h with
 |val v=>exact .val v
 |str l=>exact .str l
 |agg hl ho _ ih=>exact .agg hl ho ih
 |tup hl _ ih=>exact .tup hl ih
 |snil=>exact .snil
 |slice g hc hm hs ho hg _ ih=>exact .slice g hc hm hs ho (fun i j e c h1 h2=>hF _ _ (hg i j e c h1 h2)) ih
 |row g ho hg _ ih=>exact .row g ho (fun j c h1=>hF _ _ (hg j c h1)) ih
 |func hl _ ih=>exact .func hl ih
 |ifc t v=>exact .ifc t v
 |map hb hl hl' _ _ ih ih'=>exact .map (hF.m _ _ hb) hl hl' ih ih'
theorem Rep.one{F:Frz}{v:V}{x:Value}(h:Rep F v x)(ho:v.one=true):x.oneCell'=true:=by
 cases h<;>first|exact ho|rfl|(simp[V.one] at ho)
theorem add_add(a:Addr)(i j:Nat):(a.add i).add j=a.add (i+j):=by
 unfold Addr.add;by_cases hi:i=0<;>by_cases hj:j=0<;>simp[hi,hj,Nat.add_assoc]
theorem eu(b o n:Nat):(⟨b,o,none⟩:Addr).add n=⟨b,o+n,none⟩:=by
 unfold Addr.add;split
 .rename_i h;subst h;rfl
 rfl
inductive TV where
 |v (x:V)
 |p (id off:Nat)
 |m (id:Nat)
 |s (id off n size:Nat)
 |u
inductive Blk where
 |var (cs:List V) (nm:Option Nat:=none) (k:Option (TypeId×Nat×Nat):=none)
 |con (cs:List V)
 |map (es:List (V×V)) (nm:Option Nat:=none)
 |itr (es:List (V×V)) (cur:Option (V×V)) (nm:Option Nat:=none)
def Blk.nm:Blk->Option Nat
 |.var _ n _=>n
 |.map _ n=>n
 |.itr _ _ n=>n
 |.con _=>none
def look{α:Type}(i:Nat):List (Nat×α)->Option α
 |[]=>none
 |(j,x)::r=>bif Nat.beq i j then some x else look i r
theorem ec{α:Type}(i:Nat):look i ([]:List (Nat×α))=none:=rfl
theorem er{α:Type}(i:Nat)(x:α)(r:List (Nat×α)):look i ((i,x)::r)=some x:=by simp[look]
theorem af{α:Type}(i j:Nat)(x:α)(r:List (Nat×α)):look i ((j,x)::r)=if i=j then some x else look i r:=by
 by_cases h:i=j
 .subst h;simp[look]
 have:Nat.beq i j=false:=by
  cases hb:Nat.beq i j
  .rfl
  exact absurd (qvx hb) h
 simp[look,this,h]
def qz:Value->V
 |.string s=>.str s.data.toList
 |.agg xs=>.agg (xs.toList.map fun x=>match x with|.string s=>.str s.data.toList|x=>.val x)
 |v=>.val v
def si:Value->Bool
 |.agg xs=>xs.toList.all fun x=>x.oneCell'
 |_=>true
theorem qow(F:Frz)(x:Value):Rep F (match x with|.string s=>.str s.data.toList|x=>.val x) x:=by
 cases x<;>first|exact .val _|exact .str _
theorem jdn(F:Frz)(v:Value)(h:si v=true):Rep F (qz v) v:=by
 cases v<;>first|exact .val _|exact .str _|skip
 case agg xs=>
  have h':∀x∈xs.toList,x.oneCell'=true:=by unfold si at h;exact vj.1 h
  refine .agg smq ?_ ?_
  .intro c hc;obtain⟨x,hx,rfl⟩:=xi.1 hc;have h1:=h' x hx;cases x<;>first|exact h1|rfl
  intro j c x h1 h2;simp only[vm,qwf,h2,Option.map_some,uu] at h1;subst h1;exact qow F x
def RepT(F:Frz)(ρ:Nat->Nat):TV->Value->Prop
 |.v x,y=>Rep F x y
 |.p id off,y=>y=.pointer (some ⟨ρ id,off,none⟩)
 |.m id,y=>y=.map (some (ρ id))
 |.s id off n _,y=>∃cap,n<=cap/\cap<=maxLen/\0<n/\y=.slice (some ⟨ρ id,off,none⟩) n cap
 |.u,y=>y=undef
def FzT(n:Nat)(fz:Nat×Nat):Prop:=fz=(0,0)\/n<=fz.1
theorem FzT.at{n j:Nat}{fz:Nat×Nat}(h:FzT n fz)(hj:j<n):(decide (fz.1<=j) && decide (j<fz.2))=false:=by
 rcases h with rfl|h
 .simp
 rw[ux omq,qvg]
def RowK(xs:Array Value)(ty:TypeId×Nat×Nat):Option (TypeId×Nat×Nat)->Prop
 |none=>FzT xs.size ty.2
 |some (e,size,cap)=>ty.1=e/\xs.size=cap*size/\cap<=maxLen/\FzT xs.size ty.2
theorem RowK.size{xs ys:Array Value}{ty:TypeId×Nat×Nat}{k:Option (TypeId×Nat×Nat)}(h:RowK xs ty k)(hs:ys.size=xs.size):RowK ys ty k:=by
 cases k with
 |none=>show FzT _ _;rw[hs];exact h
 |some k=>exact⟨h.1,hs.trans h.2.1,h.2.2.1,by rw[hs];exact h.2.2.2⟩
theorem RowK.fz{xs:Array Value}{ty:TypeId×Nat×Nat}{k:Option (TypeId×Nat×Nat)}(h:RowK xs ty k):FzT xs.size ty.2:=by
 cases k with
 |none=>exact h
 |some k=>exact h.2.2.2
def co(w:World)(base:Nat)(e:TypeId)(size:Nat)(v:Value)(n:Nat)(xs:List Value):Prop:=
  xs.length=n*size/\
  ((v=.slice none 0 0/\n=0)\/
   ∃g cap cur,v=.slice (some ⟨g,0,none⟩) n cap/\base<=g/\(∃fz,FzT cur.size fz/\w.heap[g]?=some (.cells cur e fz))/\n<=cap/\cap<=maxLen/\cur.size=cap*size/\cur.toList.take (n*size)=xs)
theorem co.nil(w:World)(base:Nat)(e:TypeId)(size:Nat):co w base e size (.slice none 0 0) 0 []:=⟨smq,.inl ⟨rfl,rfl⟩⟩
theorem co.lt{w:World}{base:Nat}{e:TypeId}{size:Nat}{v:Value}{n:Nat}{xs:List Value}(h:co w base e size v n xs):∀k,v.ownBlock=some k->base<=k/\k<w.heap.size:=by
 intro k hk;rcases h.2 with⟨rfl,_⟩|⟨g,cap,cur,rfl,hb,⟨fz,_,hg⟩,_⟩
 .cases hk
 cases hk;exact⟨hb,(asi.1 hg).1⟩
theorem co.kept{w w':World}{base:Nat}{e:TypeId}{size:Nat}{v:Value}{n:Nat}{xs:List Value}{row:Option Nat}(h:co w base e size v n xs)(hg:w.grownBy w' row)(hne:v.ownBlock=none\/v.ownBlock≠row):co w' base e size v n xs:=by
 refine⟨h.1,?_⟩;rcases h.2 with hn|⟨g,cap,cur,rfl,hb,⟨fz,hf,hgg⟩,rest⟩
 .exact .inl hn
 refine .inr ⟨g,cap,cur,rfl,hb,⟨fz,hf,?_⟩,rest⟩;rw[hg.block g (asi.1 hgg).1 (by simpa [Value.ownBlock] using hne)];exact hgg
theorem co.cells{w:World}{base:Nat}{e:TypeId}{size:Nat}{v:Value}{n:Nat}{xs:List Value}(h:co w base e size v n xs){g:Nat}(hg:v.ownBlock=some g):∀j u,xs[j]?=some u->w.cell? ((⟨g,0,none⟩:Addr).add j)=some u:=by
 intro j u hu;rcases h.2 with⟨rfl,_⟩|⟨g',cap,cur,rfl,_,⟨fz,_,hgg⟩,_,_,_,htake⟩
 .cases hg
 cases hg;have hadd:(⟨g',0,none⟩:Addr).add j=⟨g',j,none⟩:=by unfold Addr.add;split<;>simp_all
 rw[hadd,cell_of_row w g' j cur e fz hgg];rw[<- htake,xt] at hu;split at hu
 .simpa using hu
 cases hu
def pi(xs:Array MapEntry)(seen:Array Nat):List MapEntry:=xs.toList.filter fun e=> !seen.contains e.born
def RepB(F:Frz)(w:World)(b:Nat):Blk->Prop
 | .var cs _ k=>∃(xs:Array Value) (ty: { t:TypeId×Nat×Nat // RowK xs t k }),w.heap[b]? = some (.cells xs ty.1.1 ty.1.2)/\cs.length<=xs.size/\(∀c∈cs,c.one=true)/\
   (∀(j:Nat) c x,cs[j]?=some c->xs[j]?=some x->Rep F c x)/\∀p v,F p=some v->p.block≠b
 |.con cs=>∃g:Nat->Value,(∀c∈cs,c.one=true)/\(∀(j:Nat) c,cs[j]?=some c->F ⟨b,j,none⟩=some (g j))/\∀(j:Nat) c,cs[j]?=some c->Rep F c (g j)
 | .map es _=>∃(xs:Array MapEntry) (clock: { c:Nat // lb xs c }),w.heap[b]? = some (.map xs clock.1)/\F.m b=none/\xs.size=es.length/\
   ∀(j:Nat) k v x,es[j]?=some (k,v)->xs[j]?=some x->Rep F k x.key/\Rep F v x.val
 | .itr es cur _=>∃(m:Nat) (seen:Array Nat) (xs:Array MapEntry) (ck:Nat),w.heap[b]? = some (.mapIter (some m) ck seen ck)/\F.m m=some (xs,ck)/\(pi xs seen).length=es.length/\
   (∀(j:Nat) k v x,es[j]?=some (k,v)->(pi xs seen)[j]?=some x->Rep F k x.key/\Rep F v x.val)/\∀k v,cur=some (k,v)->∃x∈xs.toList,seen.back?=some x.born/\Rep F k x.key/\Rep F v x.val
structure Ext (F:Frz) (w:World) (F':Frz) (w':World):Prop where
 le:Le F F'
 fr:Sees F' w'
 new:∀p v,F' p=some v->F p=some v\/w.heap.size<=p.block
 newm:∀b xs,F'.m b=some xs->F.m b=some xs\/w.heap.size<=b
 bel:Below w.heap.size w w'
theorem Ext.refl{F:Frz}{w:World}(h:Sees F w):Ext F w F w:=⟨Le.refl F,h,fun _ _ h=>.inl h,fun _ _ h=>.inl h,Below.refl _ _⟩
theorem Ext.trans{F F' F'':Frz}{w w' w'':World}(h:Ext F w F' w')(k:Ext F' w' F'' w''):Ext F w F'' w'':=
 ⟨h.le.trans k.le,k.fr,fun p v e=>(k.new p v e).elim (h.new p v) (fun hb=>.inr (xa h.bel.size hb)),fun p v e=>(k.newm p v e).elim (h.newm p v) (fun hb=>.inr (xa h.bel.size hb)),h.bel.trans (k.bel.mono h.bel.size)⟩
theorem Ext.drew{F F':Frz}{w w':World}(h:Ext F w F' w'):Ext F w F' w'.drew:=⟨h.le,⟨h.fr.c,h.fr.m⟩,h.new,h.newm,h.bel.drew⟩
theorem jas{w:World}{p:Addr}{v:Value}(h:w.cell? p=some v):p.block<w.heap.size:=by
 unfold World.cell? at h;rcases vo p.block w.heap.size with hlt|hge
 .exact hlt
 rw[yo hge] at h;cases h
theorem RepB.itr_mono{F F':Frz}{w w':World}{b:Nat}{es:List (V×V)}{cur:Option (V×V)}{nm nm':Option Nat}(h:RepB F w b (.itr es cur nm))(hb:w'.heap[b]?=w.heap[b]?)(hle:Le F F'):RepB F' w' b (.itr es cur nm'):=by
 obtain⟨m,seen,xs,ck,h1,h2,h3,h4,h5⟩:=h;refine⟨m,seen,xs,ck,hb.trans h1,hle.m _ _ h2,h3,fun j k v x e1 e2=>⟨((h4 j k v x e1 e2).1).mono hle,((h4 j k v x e1 e2).2).mono hle⟩,fun k v e=>?_⟩;obtain⟨x,g1,g2,g3,g4⟩:=h5 k v e;exact⟨x,g1,g2,g3.mono hle,g4.mono hle⟩
theorem RepB.ext{F F':Frz}{w w':World}{b:Nat}{k:Blk}(h:RepB F w b k)(hx:Ext F w F' w'):RepB F' w' b k:=by
 cases k with
 |var cs _ _=>
  obtain⟨xs,ty,h1,h2,h3,h4,h5⟩:=h
  have hlt:b<w.heap.size:=by
   rcases vo b w.heap.size with hlt|hge
   .exact hlt
   rw[yo hge] at h1;cases h1
  refine⟨xs,ty,(hx.bel.block b hlt).trans h1,h2,h3,fun j c x e1 e2=>(h4 j c x e1 e2).mono hx.le,fun p v e=>?_⟩;rcases hx.new p v e with e'|e'
  .exact h5 p v e'
  omega
 |con cs=>
  obtain⟨g,h1,h2,h3⟩:=h;exact⟨g,h1,fun j c e=>hx.le _ _ (h2 j c e),fun j c e=>(h3 j c e).mono hx.le⟩
 |itr es cur _=>
  have hlt:b<w.heap.size:=by
   obtain⟨m,seen,xs,ck,h1,_⟩:=h;rcases vo b w.heap.size with hlt|hge
   .exact hlt
   rw[yo hge] at h1;cases h1
  exact RepB.itr_mono h (hx.bel.block b hlt) hx.le
 |map es _=>
  obtain⟨xs,ck,h1,h0,h2,h3⟩:=h
  have hlt:b<w.heap.size:=by
   rcases vo b w.heap.size with hlt|hge
   .exact hlt
   rw[yo hge] at h1;cases h1
  have h0':F'.m b=none:=by
   cases e:F'.m b with
   |none=>rfl
   |some ys=>
    rcases hx.newm b ys e with e'|e'
    .rw[h0] at e';cases e'
    omega
  exact⟨xs,ck,(hx.bel.block b hlt).trans h1,h0',h2,fun j k v x e1 e2=>⟨((h3 j k v x e1 e2).1).mono hx.le,((h3 j k v x e1 e2).2).mono hx.le⟩⟩
theorem RepT.mono{F F':Frz}{ρ:Nat->Nat}{tv:TV}{y:Value}(h:RepT F ρ tv y)(hx:Le F F'):RepT F' ρ tv y:=by
 cases tv with
 |v x=>exact Rep.mono hx h
 |_=>exact h
end Go.Ab
namespace Go.Ab
open Go.RowKit
def aggB(P:Program)(t:TypeId):Option Bool:=
 match P.underlying t with
 |some (.struct _)=>some true
 |some (.array _ _)=>some true
 |some _=>some false
 |none=>none
def fldV(P:Program)(s:TypeId)(f:Nat):Option (Nat×TypeId):=
 match P.underlying s with
 |some (.struct fs)=>match fs[f]? with
  |some fd=>if P.cellsOf fd.type=0 then none else some (fd.offset,fd.type)
  |none=>none
 |_=>none
def slV(P:Program)(t:TypeId):Option (TypeId×Nat):=
 match P.underlying t with
 |some (.slice e)=>if P.cellsOf e=0 then none else some (e,P.cellsOf e)
 |_=>none
def strB(P:Program)(t:TypeId):Bool:=match P.underlying t with|some .string=>true|_=>false
def jfc(P:Program)(t:TypeId):Bool:=match P.underlying t with|some .bool=>true|_=>false
def ifcB(P:Program)(t:TypeId):Bool:=match P.underlying t with|some (.interface _)=>true|_=>false
def intK(P:Program)(t:TypeId):Option IntKind:=match P.underlying t with|some (.int k)=>some k|_=>none
def arrV(P:Program)(t:TypeId):Option (Nat×TypeId×Nat):=
 match P.underlying t with
 |some (.array n e)=>if P.cellsOf e=0 then none else some (n,e,P.cellsOf e)
 |_=>none
def cn:Nat->List V->Option (List V)
 |0,_=>some []
 |n+1,c::cs=>(cn n cs).map (c :: ·)
 |_+1,[]=>none
theorem ja1:∀ {n:Nat} {cs r:List V},cn n cs=some r->r=cs.take n/\n<=cs.length
 |0,_,_,h=>by simp[cn] at h;subst h;simp
 |n+1,c::cs,r,h=>by
  simp only[cn] at h;cases h':cn n cs with
  |none=>rw[h'] at h;cases h
  |some r'=>
   rw[h'] at h;obtain rfl:r=c::r':=by simpa using h.symm
   obtain⟨rfl,hl⟩:=ja1 h';exact⟨smq,by simp;omega⟩
 |_+1,[],_,h=>by simp[cn] at h
def ldV(P:Program)(t:TypeId)(cs:List V):Option V:=
 match aggB P t with
 |some true=>(cn (P.cellsOf t) cs).map .agg
 |some false=>cs.head?
 |none=>none
def bitF(op:BinOp)(k:IntKind)(a b:Int):Int:=
 match op with
 |.and=>k.wrap (BitVec.ofInt k.bits a &&& BitVec.ofInt k.bits b).toNat
 |.or=>k.wrap (BitVec.ofInt k.bits a ||| BitVec.ofInt k.bits b).toNat
 |.xor=>k.wrap (BitVec.ofInt k.bits a ^^^ BitVec.ofInt k.bits b).toNat
 |_=>k.wrap (BitVec.ofInt k.bits a &&& ~~~BitVec.ofInt k.bits b).toNat
def notF(k:IntKind)(a:Int):Int:=bitF .xor k (if k.signed then -1 else k.max) a
def shF(l:Bool)(k:IntKind)(a n:Int):Int:=bif l then k.wrap (a*2 ^ min n.toNat k.bits) else a.fdiv (2 ^ min n.toNat k.bits)
def shV(l:Bool)(k:IntKind)(a n:Int):Option V:=if 0<=n then some (.val (.int k (shF l k a n))) else none
theorem jps{l:Bool}{k:IntKind}{a n:Int}(h:0<=n):shV l k a n=some (.val (.int k (shF l k a n))):=um h
def jcq(op:BinOp)(k:IntKind)(a b:Int):Option V:=
 match op with
 |.add=>some (.val (.int k (k.wrap (a+b))))
 |.sub=>some (.val (.int k (k.wrap (a-b))))
 |.mul=>some (.val (.int k (k.wrap (a*b))))
 |.quo=>if b=0 then none else some (.val (.int k (k.wrap (a.tdiv b))))
 |.rem=>if b=0 then none else some (.val (.int k (a.tmod b)))
 |.eql=>some (.val (.bool (decide (a=b))))
 |.neq=>some (.val (.bool (!decide (a=b))))
 |.lss=>some (.val (.bool (decide (a<b))))
 |.leq=>some (.val (.bool (decide (a<=b))))
 |.gtr=>some (.val (.bool (decide (b<a))))
 |.geq=>some (.val (.bool (decide (b<=a))))
 |.and=>some (.val (.int k (bitF .and k a b)))
 |.or=>some (.val (.int k (bitF .or k a b)))
 |.xor=>some (.val (.int k (bitF .xor k a b)))
 |.andNot=>some (.val (.int k (bitF .andNot k a b)))
 |_=>none
def jcj(op:BinOp)(a b:List UInt8):Option V:=
 match op with
 |.add=>if a.length+b.length<=9223372036854775807 then some (.str (a++b)) else none
 |.eql=>some (.val (.bool (a == b)))
 |.neq=>some (.val (.bool (!(a == b))))
 |.lss=>some (.val (.bool (Op.bytesLess a b)))
 |.leq=>some (.val (.bool (Op.bytesLess a b || a == b)))
 |.gtr=>some (.val (.bool (!(Op.bytesLess a b || a == b))))
 |.geq=>some (.val (.bool (!Op.bytesLess a b)))
 |_=>none
def eqOp(op:BinOp)(b:Bool):Option V:=
 match op with
 |.eql=>some (.val (.bool b))
 |.neq=>some (.val (.bool (!b)))
 |_=>none
inductive Lf where
 |i
 |b
 |s
def eqC:Lf->V->V->Option Bool
 |.i,.val (.int j a),.val (.int k b)=>if j=k then some (decide (a=b)) else none
 |.b,.val (.bool a),.val (.bool b)=>some (a == b)
 |.s,.str a,.str b=>some (a == b)
 |_,_,_=>none
def gz:List Lf->List V->List V->Option Bool
 |[],[],[]=>some true
 |l::ls,x::xs,y::ys=>match eqC l x y,gz ls xs ys with
  |some p,some q=>some (p && q)
  |_,_=>none
 |_,_,_=>none
def jf3(g:TypeId->Option (List Lf)):Nat->List Field->Option (List Lf)
 |_,[]=>some []
 | k, f :: r => if f.name ≠ "_" /\ f.offset = k then match g f.type with
  |some ks=>(jf3 g (k+ks.length) r).map (ks ++ ·)
  |none=>none
  else none
def uf(P:Program):Nat->TypeId->Option (List Lf)
 |0,_=>none
 |d+1,t=>match P.underlying t with
  |some (.int _)=>if aggB P t=some false then some [.i] else none
  |some .bool=>if aggB P t=some false then some [.b] else none
  |some .string=>if aggB P t=some false then some [.s] else none
  |some (.struct fs)=>if P.stoodInHeld t=false/\aggB P t=some true then match jf3 (uf P d) 0 fs.toList with
   |some ks=>if P.cellsOf t=ks.length then some ks else none
   |none=>none
   else none
  |_=>none
def eqT(P:Program)(t:TypeId):Option (List Lf):=
 match P.underlying t with
 |some (.struct _)=>if P.eqGuardType P.depth t=false then uf P 8 t else none
 |_=>none
def binV(P:Program)(op:BinOp)(t:TypeId)(x y:V):Option V:=
 match x,y with
 |.val (.int j a),.val (.int k b)=>match op with
  |.shl=>shV true j a b
  |.shr=>shV false j a b
  |_=>if j=k then jcq op j a b else none
 |.val (.bool a),.val (.bool b)=>if jfc P t=true then eqOp op (a == b) else none
 |.str a,.str b=>jcj op a b
 |.slice _ (_::_),.val (.slice none 0 0)=>if(slV P t).isSome=true then eqOp op false else none
 |.val (.slice none 0 0),.val (.slice none 0 0)=>if(slV P t).isSome=true then eqOp op true else none
 |.ifc,.val .nilIface=>if ifcB P t=true then eqOp op false else none
 |.agg cs,.agg ds=>match eqT P t with
  |some ks=>match gz ks cs ds with
   |some b=>eqOp op b
   |none=>none
  |none=>none
 |_,_=>none
def jfa(P:Program)(_src dst:TypeId)(x:V):Option V:=
 match x with
 |.val (.int _ n)=>match intK P dst with|some k=>some (.val (.int k (k.wrap n)))|none=>none
 |.str l=>if strB P dst=true then some (.str l) else none
 |_=>none
def nums:V->Option Int
 |.val (.int _ n)=>some n
 |_=>none
def cutV(n:Nat)(lo hi:Option V):Option (Nat×Nat):=
 match (match hi with|none=>some (n:Int)|some v=>nums v),(match lo with|none=>some 0|some v=>nums v) with
 |some h,some l=>if 0<=l/\l<=h/\h<=n then some (l.toNat,h.toNat) else none
 |_,_=>none
def vOf:Option TV->Option V
 |some (.v x)=>some x
 |_=>none
def vsOf(ρ:Operand->Option TV):List Operand->Option (List V)
 |[]=>some []
 |x::r=>match vOf (ρ x),vsOf ρ r with
  |some v,some vs=>some (v::vs)
  |_,_=>none
def jr0(v:Option V):Option TV:=v.map .v
end Go.Ab
namespace Go.Ab
open Go.RowKit
variable {P : Program}{F : Frz}{w : World}
variable {t:TypeId}{es:List (List V)}{size:Nat}{e:TypeId}{x:Value}{n:Nat}{ft:TypeId}{off:Nat}{s:TypeId}{v:V}{f:Nat}{len:Nat}
theorem jfe{d:TypeDesc}(h:P.underlying t=some d):∃i,P.info? t=some i:=by
 unfold Program.underlying at h;cases hi:P.info? t with
 |none=>rw[hi] at h;cases h
 |some i=>exact⟨i,rfl⟩
theorem mq(h:P.cellsOf t≠0):∃i,P.info? t=some i:=by
 unfold Program.cellsOf at h;cases hi:P.info? t with
 |none=>rw[hi] at h;simp at h
 |some i=>exact⟨i,rfl⟩
theorem ja{i:TypeInfo}(h:P.info? t=some i)(w:World):(sizeOf t).run P w=.ok (P.cellsOf t) w:=by
 simp[sizeOf,typeInfo,h,Program.cellsOf]
theorem ru{b:Bool}(h:aggB P t=some b)(w:World):(isAgg t).run P w=.ok b w:=by
 unfold aggB at h;unfold isAgg;cases hu:P.underlying t with
 |none=>rw[hu] at h;cases h
 |some d=>
  rw[hu] at h;simp only[Sem.run_bind,run_underlying hu,Result.andThen_ok];cases d<;>simp_all
structure At (F:Frz) (a:Addr) (cs:List V) (g:Nat->Value):Prop where
 one:∀c∈cs,c.one=true
 at_:∀(j:Nat) c,cs[j]?=some c->F (a.add j)=some (g j)
 rep:∀(j:Nat) c,cs[j]?=some c->Rep F c (g j)
theorem At.drop{a:Addr}{cs:List V}{g:Nat->Value}(h:At F a cs g)(n:Nat):At F (a.add n) (cs.drop n) (fun j=>g (n+j)):=
 ⟨fun c hc=>h.one c (qvr hc),fun j c hc=>by rw[add_add];exact h.at_ _ c ze2,fun j c hc=>h.rep _ c ze2⟩
theorem qam{a:Addr}{cs:List V}{g:Nat->Value}(hF:Sees F w)(h:At F a cs g)(hl:ldV P t cs=some v):
  ∃x,(loadVar t a).run P w=.ok x w/\Rep F v x:=by
 unfold ldV at hl;cases hb:aggB P t with
 |none=>rw[hb] at hl;cases hl
 |some b=>
  rw[hb] at hl;cases b with
  |true=>
   simp only[msi] at hl;obtain⟨r,hr,rfl⟩:=hl;obtain⟨rfl,hn⟩:=ja1 hr
   have hi:∃i,P.info? t=some i:=by
    unfold aggB at hb;cases hu:P.underlying t with
    |none=>rw[hu] at hb;cases hb
    |some d=>exact jfe hu
   obtain⟨i,hi⟩:=hi;have hrun:=run_loadCells (P:=P) w a (P.cellsOf t) g (fun j hj=>hF _ _ (h.at_ j cs[j] (gge omq)));refine⟨.agg ((List.range (P.cellsOf t)).map g).toArray,by simp[loadVar,ru hb,ja hi,hrun,Result.andThen],?_⟩;refine .agg zew (fun c hc=>h.one c (yu hc)) ?_;intro j c x h1 h2
   have hj:j<P.cellsOf t:=by
    rcases vo j (P.cellsOf t) with hj|hj
    .exact hj
    rw[yy zew] at h1;cases h1
   have h1':cs[j]?=some c:=by simpa [List.getElem?_take,hj] using h1
   have:x=g j:=by simpa [hj] using h2.symm
   subst this;exact h.rep j c h1'
  |false=>
   simp only[qwg] at hl;have:=hF _ _ (h.at_ 0 v hl);refine⟨g 0,?_,h.rep 0 v hl⟩;have h0:a.add 0=a:=by simp[Addr.add]
   rw[h0] at this;simp[loadVar,ru hb,Result.andThen,this]
theorem jha{t:TypeId}{cs:List V}{xs:Array Value}{off:Nat}{v:V}(hl:xs.size=cs.length)(ho:∀c∈cs,c.one=true) 
  (hr:∀(j:Nat) c x,cs[j]?=some c->xs[j]?=some x->Rep F c x) (h:ldV P t (cs.drop off)=some v):
  ∃x,(part t xs off).run P w=.ok x w/\Rep F v x:=by
 unfold ldV at h;cases hb:aggB P t with
 |none=>rw[hb] at h;cases h
 |some b=>
  rw[hb] at h;cases b with
  |true=>
   simp only[msi] at h;obtain⟨r,hr',rfl⟩:=h;obtain⟨rfl,hn⟩:=ja1 hr'
   have hi:∃i,P.info? t=some i:=by
    unfold aggB at hb;cases hu:P.underlying t with
    |none=>rw[hu] at hb;cases hb
    |some d=>exact jfe hu
   obtain⟨i,hi⟩:=hi;simp only[xo] at hn;refine⟨.agg (xs.extract off (off+P.cellsOf t)),by simp[part,ru hb,ja hi,Result.andThen],?_⟩;refine .agg zew (fun c hc=>ho c (qvr (yu hc))) ?_;intro j c x h1 h2
   have hj:j<P.cellsOf t:=by
    rcases vo j (P.cellsOf t) with hj|hj
    .exact hj
    rw[yy zew] at h1;cases h1
   have h1':cs[off+j]?=some c:=by simpa [List.getElem?_take,hj] using h1
   have h2':xs[off+j]?=some x:=by
    rw[Array.getElem?_extract] at h2;split at h2
    .exact h2
    cases h2
   exact hr _ c x h1' h2'
  |false=>
   have h':cs[off]?=some v:=by simpa [List.head?_eq_getElem?] using h
   have hlt:off<xs.size:=by
    rcases vo off cs.length with hj|hj
    .omega
    rw[yy hj] at h';cases h'
   refine⟨xs[off],?_,hr off v _ h' (xk hlt)⟩;simp[part,ru hb,Result.andThen,Array.getElem?_eq_getElem hlt]
theorem jwb(h:fldV P s f=some (off,ft)):
  ∃fs fd,P.underlying s=some (.struct fs)/\fs[f]?=some fd/\fd.offset=off/\fd.type=ft/\P.cellsOf ft≠0:=by
 unfold fldV at h;split at h
 .rename_i fs hu;split at h
  .rename_i fd hf;split at h
   .cases h
   rename_i hz;simp only[uu,xd] at h;obtain⟨rfl,rfl⟩:=h;exact⟨fs,fd,hu,hf,rfl,rfl,hz⟩
  cases h
 cases h
theorem jj6(h:fldV P s f=some (off,ft))(a:Addr)(w:World):
  (Instr.fieldAt s (.pointer (some a)) f).run P w=.ok (.pointer (some (a.add off))) w:=by
 obtain⟨fs,fd,hu,hf,rfl,rfl,hz⟩:=jwb h;obtain⟨i,hi⟩:=mq hz;simp[Instr.fieldAt,run_underlying hu,hf,Result.andThen,Instr.sureAddr,fieldPlace,ja hi,hz]
theorem je(h:slV P t=some (e,n)):P.underlying t=some (.slice e)/\P.cellsOf e=n/\n≠0:=by
 unfold slV at h;split at h
 .rename_i e' hu;split at h
  .cases h
  rename_i hz;simp only[uu,xd] at h;obtain⟨rfl,rfl⟩:=h;exact⟨hu,rfl,hz⟩
 cases h
theorem jbf(h:slV P t=some (e,n))(k:IntKind)(i:Int)(a:Addr)(len cap:Nat)(h0:0<=i)(h1:i<len)(w:World):
  (Instr.indexAt t (.slice (some a) len cap) (.int k i)).run P w=.ok (.pointer (some (a.add (i.toNat*n)))) w:=by
 obtain⟨hu,rfl,hz⟩:=je h;obtain⟨inf,hi⟩:=mq hz;simp[Instr.indexAt,asIntOf,run_underlying hu,Result.andThen,ja hi,h0,h1]
theorem qtg{size:Nat}{es:List (List V)}{a:Addr}{g:Nat->Nat->Value} 
  (ho:∀e∈es,∀c∈e,c.one=true)
  (hg:∀(i j:Nat) e c,es[i]?=some e->e[j]?=some c->F (a.add (i*size+j))=some (g i j))
  (hr:∀(i j:Nat) e c,es[i]?=some e->e[j]?=some c->Rep F c (g i j)) {k:Nat} {e:List V} (he:es[k]?=some e):
  At F (a.add (k*size)) e (g k):=
 ⟨ho e (vc he),fun j c hc=>by rw[add_add];exact hg k j e c he hc,fun j c hc=>hr k j e c he hc⟩
theorem jxg(h:arrV P t=some (len,e,n)):P.underlying t=some (.array len e)/\n=P.cellsOf e/\P.cellsOf e≠0:=by
 unfold arrV at h;split at h
 .rename_i m e' hu;split at h
  .cases h
  rename_i hz;cases h;exact⟨hu,rfl,hz⟩
 cases h
theorem jh4(h:arrV P t=some (len,e,n))(k:IntKind)(i:Int)(a:Addr)(h0:0<=i)(h1:i<len)(w:World):
  (Instr.indexAt t (.pointer (some a)) (.int k i)).run P w=.ok (.pointer (some (a.add (i.toNat*n)))) w:=by
 obtain⟨hu,rfl,hz⟩:=jxg h;obtain⟨inf,hi⟩:=mq hz;simp[Instr.indexAt,Instr.sureAddr,asIntOf,run_underlying hu,Result.andThen,ja hi,h0,h1]
theorem jo0{a:Addr}{cs:List V}{g:Nat->Value}(h:At F a cs g):Rep F (.row cs) (.pointer (some a)):=.row g h.one h.at_ h.rep
theorem rp{cs:List V}(h:Rep F (.row cs) x):∃a g,x=.pointer (some a)/\At F a cs g:=by
 cases h with
 |row g ho hg hr=>exact⟨_,g,rfl,ho,hg,hr⟩
theorem qa(h:Rep F (.slice size es) x):
  (x=.slice none 0 0/\es=[])\/∃(a:Addr) (cap:Nat) (g:Nat->Nat->Value),x=.slice (some a) es.length cap/\es.length<=cap/\cap<=maxLen/\(∀e∈es,e.length=size)/\(∀e∈es,∀c∈e,c.one=true)/\
   (∀(i j:Nat) e c,es[i]?=some e->e[j]?=some c->F (a.add (i*size+j))=some (g i j))/\
   (∀(i j:Nat) e c,es[i]?=some e->e[j]?=some c->Rep F c (g i j)):=by
 cases h with
 |snil=>exact .inl ⟨rfl,rfl⟩
 |slice g hc hm hs ho hg hr=>exact .inr ⟨_,_,g,rfl,hc,hm,hs,ho,hg,hr⟩
theorem su(h:Rep F (.slice size es) x):∃a c,x=.slice a es.length c:=by
 rcases qa h with⟨rfl,rfl⟩|⟨a,cap,g,rfl,_⟩
 .exact⟨none,0,rfl⟩
 exact⟨_,_,rfl⟩
theorem jw0{op:BinOp}{k:IntKind}{a b:Int}(h:jcq op k a b=some v)(t:TypeId)(w:World):
    ∃x,v=.val x/\(binOp op t (.int k a) (.int k b)).run P w=.ok x w:=by
  cases op<;>simp only[jcq] at h <;>
    first
    |(cases h;refine⟨_,rfl,?_⟩;simp[binOp,Op.intArith];done)
    |(cases h;refine⟨_,rfl,?_⟩;simp[binOp,Op.intCmp,bne,BEq.beq];done)
    |(cases h;refine⟨_,rfl,?_⟩;simp[binOp,Op.intBits,bitF];done)
    | (split at h
       . cases h
       rename_i hz;cases h;refine⟨_,rfl,?_⟩;simp[binOp,Op.intDiv,hz]
       done)
    |cases h
end Go.Ab
namespace Go.Ab
open Go.RowKit
def nu:Option TV->Option TV
 |some .u=>none
 |r=>r
def memV(h:List (Nat×Blk))(id off:Nat):Option (List V):=
 match look id h with
 |some (.var cs _ _)=>some (cs.drop off)
 |some (.con cs)=>some (cs.drop off)
 |_=>none
def behind(h:List (Nat×Blk)):Option TV->Option (List V)
 |some (.v (.row cs))=>some cs
 |some (.p id off)=>memV h id off
 |_=>none
def capV(h:List (Nat×Blk)):Option TV->Option V
 |some (.v x)=>some x
 |some (.p id off)=>match look id h with
  |some (.con cs)=>some (.row (cs.drop off))
  |some (.var _ (some b) _)=>some (.val (.pointer (some ⟨b,off,none⟩)))
  |_=>none
 |_=>none
def kz(ρ:Operand->Option TV)(h:List (Nat×Blk)):List Operand->Option (List V)
 |[]=>some []
 |x::r=>match capV h (ρ x),kz ρ h r with
  |some v,some vs=>some (v::vs)
  |_,_=>none
def lenV(P:Program)(t:TypeId)(h:List (Nat×Blk)):Option TV->Option V
 |some (.v (.slice _ es))=>if(slV P t).isSome=true then some (.val (.int .i64 es.length)) else none
 |some (.v (.str l))=>if strB P t=true then some (.val (.int .i64 l.length)) else none
 |some (.v (.val (.slice none 0 0)))=>if(slV P t).isSome=true then some (.val (.int .i64 0)) else none
 |some (.v (.val (.slice (some _) n _)))=>if(slV P t).isSome=true then some (.val (.int .i64 n)) else none
 |some (.s _ _ n _)=>if(slV P t).isSome=true then some (.val (.int .i64 n)) else none
 |some (.m id)=>match look id h,P.underlying t with
  |some (.map es _),some (.map _ _)=>some (.val (.int .i64 es.length))
  |_,_=>none
 |_=>none
def ra(P:Program)(t:TypeId):Option (TypeId×TypeId):=
 match P.underlying t with
 |some (.map k e)=>some (k,e)
 |_=>none
def iu(P:Program)(t:TypeId):Option Value:=(P.info? t).bind (·.zero)
def kw:V->V->Option Bool
 |.val (.int j a),.val (.int k b)=>if j=k then some (decide (a=b)) else none
 |.str a,.str b=>some (a == b)
 |_,_=>none
def keyT(P:Program)(t:TypeId)(x:V):Bool:=
 match P.underlying t,x with
 |some (.int _),.val (.int _ _)=>true
 |some .string,.str _=>true
 |_,_=>false
def rh(k:V):List (V×V)->Option (Option V)
 |[]=>some none
 |(k',v)::r=>match kw k k' with
  |some true=>some (some v)
  |some false=>rh k r
  |none=>none
def eh(b:Nat):List (Nat×Blk)->Option Nat
 |[]=>none
 |(i,k)::r=>match k.nm with
  |some b'=>if b=b' then some i else eh b r
  |none=>eh b r
def nmOf:Option Blk->Option Nat
 |some k=>k.nm
 |none=>none
def dg(b:Nat)(h:List (Nat×Blk)):Option Nat:=match eh b h with
 |some id=>if nmOf (look id h)=some b then some id else none
 |none=>none
def mapB:Option Blk->Option (List (V×V))
 |some (.map es _)=>some es
 |_=>none
def mapN(b:Nat)(h:List (Nat×Blk)):Option (List (V×V)):=match dg b h with
 |some id=>mapB (look id h)
 |none=>none
def mapE(h:List (Nat×Blk)):Option TV->Option (List (V×V))
 |some (.m id)=>match look id h with
  |some (.map es _)=>some es
  |_=>none
 |some (.v (.map ks vs))=>some (ks.zip vs)
 |some (.v (.val (.map none)))=>some []
 |some (.v (.val (.map (some b))))=>mapN b h
 |_=>none
def idxV(es:List (List V))(i:V):Option (List V):=
 match i with
 |.val (.int _ n)=>if 0<=n then es[n.toNat]? else none
 |_=>none
def bytV(l:List UInt8)(i:V):Option V:=
 match i with
 |.val (.int _ n)=>if 0<=n then(l[n.toNat]?).map fun b=>.val (.int .u8 b.toNat) else none
 |_=>none
def jc9(P:Program)(t:TypeId)(x:V)(lo hi:Option V):Option V:=
 match x with
 |.str l=>if strB P t=true then(cutV l.length lo hi).map fun(a,b)=>.str ((l.take b).drop a) else none
 |.slice size es=>if(slV P t).map (·.2)=some size then(cutV es.length lo hi).map fun(a,b)=>.slice size ((es.take b).drop a) else none
 |_=>none
def idxS(m:Nat)(i:V):Option Nat:=
 match i with
 |.val (.int _ n)=>if 0<=n/\n<m then some n.toNat else none
 |_=>none
def cutS(id off size:Nat):Nat×Nat->TV
 |(a,b)=>if a=b then .v (.slice size []) else .s id (off+a*size) (b-a) size
def optV(ρ:Operand->Option TV):Option Operand->Option (Option V)
 |none=>some none
 |some x=>(vOf (ρ x)).map some
def minV(b:Bool):Option V->Option V->Option V
 |some (.val (.int k x)),some (.val (.int _ y))=>some (.val (.int k (bif b then(if y<x then y else x) else(if y > x then y else x))))
 |_,_=>none
def evq(P:Program)(ρ:Operand->Option TV)(h:List (Nat×Blk))(o:Op):Option TV:=
 match o with
 |.move x=>nu (ρ x)
 |.assign x=>nu (ρ x)
 |.nilCheck x=>match ρ x with
  |some (.p id off)=>some (.p id off)
  |some (.v (.row cs))=>some (.v (.row cs))
  |_=>none
 |.pick c a b=>match vOf (ρ c) with
  |some (.val (.bool t))=>bif t then nu (ρ a) else nu (ρ b)
  |_=>none
 |.load t a=>(behind h (ρ a)).bind fun cs=>(ldV P t cs).map .v
 |.fieldAddr s x f=>match fldV P s f,ρ x with
  |some (off,_),some (.v (.row cs))=>some (.v (.row (cs.drop off)))
  |some (off,_),some (.p id o)=>some (.p id (o+off))
  |_,_=>none
 |.field s x f=>match fldV P s f,vOf (ρ x) with
  |some (off,ft),some (.agg cs)=>(ldV P ft (cs.drop off)).map .v
  |_,_=>none
 |.indexAddr t x i=>match arrV P t with
  |some (n,_,size)=>match ρ x,vOf (ρ i) with
   |some (.p id off),some i=>(idxS n i).map fun k=>.p id (off+k*size)
   |some (.v (.row cs)),some i=>(idxS n i).map fun k=>.v (.row (cs.drop (k*size)))
   |_,_=>none
  |none=>match slV P t,ρ x,vOf (ρ i) with
   |some (_,n),some (.v (.slice size es)),some i=>if n=size then(idxV es i).map fun e=>.v (.row e) else none
   |some (_,n),some (.s id off m size),some i=>if n=size then(idxS m i).map fun k=>.p id (off+k*size) else none
   |some (_,n),some (.v (.val (.slice (some ⟨r,off,none⟩) m _))),some i=>match dg r h with
    |some id=>(idxS m i).map fun k=>.p id (off+k*n)
    |none=>none
   |_,_,_=>none
 |.index t x i=>match arrV P t with
  |some (n,e,size)=>match vOf (ρ x),vOf (ρ i) with
   |some (.agg cs),some i=>(idxS n i).bind fun k=>(ldV P e (cs.drop (k*size))).map .v
   |_,_=>none
  |none=>match strB P t,vOf (ρ x),vOf (ρ i) with
   |true,some (.str l),some i=>(bytV l i).map .v
   |_,_,_=>none
 |.slice t x lo hi none=>match ρ x,optV ρ lo,optV ρ hi with
  |some (.v x),some lo,some hi=>(jc9 P t x lo hi).map .v
  |some (.s id off m size),some lo,some hi=>if(slV P t).map (·.2)=some size then(cutV m lo hi).map (cutS id off size) else none
  |_,_,_=>none
 |.binOp op t x y _=>match vOf (ρ x),vOf (ρ y) with
  |some (.val .nilIface),some (.val .nilIface)=>match y with
   |.const _=>if ifcB P t=true then(eqOp op true).map .v else none
   |_=>none
  |some x,some y=>(binV P op t x y).map .v
  |_,_=>none
 |.unOp .not _ x=>match vOf (ρ x) with
  |some (.val (.bool b))=>some (.v (.val (.bool (!b))))
  |_=>none
 |.unOp .neg _ x=>match vOf (ρ x) with
  |some (.val (.int k n))=>some (.v (.val (.int k (k.wrap (0-n)))))
  |_=>none
 |.unOp .xor _ x=>match vOf (ρ x) with
  |some (.val (.int k n))=>some (.v (.val (.int k (notF k n))))
  |_=>none
 |.convert src dst x=>match (P.underlying src).isSome,vOf (ρ x) with
  |true,some x=>(jfa P src dst x).map .v
  |_,_=>none
 |.extract x i=>match vOf (ρ x) with
  |some (.tup vs)=>(vs[i]?).map .v
  |_=>none
 |.makeFunc (.func f) first cap=>if first.size=0 then(kz ρ h cap.toList).map fun vs=>.v (.func f vs) else none
 |.lookup t x i ok=>match ra P t,mapE h (ρ x),vOf (ρ i) with
  |some (kt,et),some es,some k=>match iu P et with
   |some z=>if keyT P kt k=true/\si z=true then(rh k es).map fun r=>.v (bif ok then .tup [r.getD (qz z),.val (.bool r.isSome)] else r.getD (qz z)) else none
   |none=>none
  |_,_,_=>none
 |.call c=>match c.callee with
  |.builtin .len=>match c.args.toList,c.argTypes.toList with
   |[x],[t]=>(lenV P t h (ρ x)).map .v
   |_,_=>none
  |.builtin .min=>match c.args.toList with
   |[x,y]=>(minV true (vOf (ρ x)) (vOf (ρ y))).map .v
   |_=>none
  |.builtin .max=>match c.args.toList with
   |[x,y]=>(minV false (vOf (ρ x)) (vOf (ρ y))).map .v
   |_=>none
  |_=>none
 |_=>none
end Go.Ab
namespace Go.Ab
open Go.RowKit
variable {P : Program}{F : Frz}{w : World}{ρ : Nat -> Nat}{h : List (Nat × Blk)}{ρa : Operand -> Option TV}{ρc : Operand -> Value}
variable {t:TypeId}{ms:Array (String×TypeId)}{b:Bool}{x:Value}{op:BinOp}{y:Value}{r:Option TV}{news:List V}{ks:List Lf}{lo:Option V}{hi:Option V}{d:TypeDesc}{off:Nat}{k:IntKind}{kt:TypeId}{tv:TV}{u:V}{e:TypeId}{n:Nat}{a:Nat}
theorem qn(h:nu r=some tv):r=some tv:=by
 unfold nu at h;split at h
 .cases h
 exact h
theorem jdu{x:V}(h:vOf r=some x):r=some (.v x):=by
 unfold vOf at h;split at h
 .cases h;rfl
 cases h
structure Good (F:Frz) (w:World) (ρ:Nat->Nat) (h:List (Nat×Blk)) (ρa:Operand->Option TV) (ρc:Operand->Value):Prop where
 sees:Sees F w
 blk:∀id k,look id h=some k->RepB F w (ρ id) k
 opr:∀x tv,ρa x=some tv->RepT F ρ tv (ρc x)
 nb:∀id k b,look id h=some k->k.nm=some b->ρ id=b
theorem Good.v(G:Good F w ρ h ρa ρc){x:Operand}{v:V}(hx:vOf (ρa x)=some v):Rep F v (ρc x):=G.opr x _ (jdu hx)
theorem qrf{w:World}{b j:Nat}{xs:Array Value}{ty:TypeId}{fz:Nat×Nat}(h:w.heap[b]?=some (.cells xs ty fz)):w.cell? ⟨b,off+j,none⟩=xs[off+j]? := by
 simp[World.cell?,h]
theorem jtk(G:Good F w ρ h ρa ρc){x:Operand}{cs:List V}{v:V}(hb:behind h (ρa x)=some cs)(hl:ldV P t cs=some v):
  ∃y,(Instr.loadAt t (ρc x)).run P w=.ok y w/\Rep F v y:=by
 unfold behind at hb;split at hb
 .rename_i cs' hx;cases hb;obtain⟨a,g,e,hat⟩:=rp (show Rep F (.row _) (ρc x) from G.opr x _ hx);obtain⟨y,hr,hy⟩:=qam (P:=P) G.sees hat hl;exact zcy
 .rename_i id off hx;have e:=show ρc x=_ from G.opr x _ hx
  unfold memV at hb;split at hb
  .rename_i cs' _ _ hk;cases hb;obtain⟨xs,ty,h1,h2,h3,h4,h5⟩:=G.blk id _ hk
   have hnaive:∃y,(loadVar t ⟨ρ id,off,none⟩).run P w=.ok y w/\Rep F v y:=by
    unfold ldV at hl;cases hag:aggB P t with
    |none=>rw[hag] at hl;cases hl
    |some b=>
     rw[hag] at hl;cases b with
     |true=>
      simp only[msi] at hl;obtain⟨r,hr,rfl⟩:=hl;obtain⟨rfl,hn⟩:=ja1 hr;simp only[xo] at hn
      have hi:∃i,P.info? t=some i:=by
       unfold aggB at hag;cases hu:P.underlying t with
       |none=>rw[hu] at hag;cases hag
       |some d=>exact jfe hu
      obtain⟨i,hi⟩:=hi
      have hrun:=run_loadCells (P:=P) w ⟨ρ id,off,none⟩ (P.cellsOf t) (fun j=>xs.getD (off+j) undef) (fun j hj=>by
       rw[eu,qrf h1];have:off+j<xs.size:=omq
       simp[this])
      refine⟨.agg ((List.range (P.cellsOf t)).map (fun j=>xs.getD (off+j) undef)).toArray,by simp[loadVar,ru hag,ja hi,hrun,Result.andThen],?_⟩;refine .agg zew (fun c hc=>h3 c (qvr (yu hc))) ?_;intro j c x h1' h2'
      have hj:j<P.cellsOf t:=by
       rcases vo j (P.cellsOf t) with hj|hj
       .exact hj
       rw[yy zew] at h1';cases h1'
      have h1'':cs'[off+j]?=some c:=by simpa [List.getElem?_take,hj] using h1'
      have hlt:off+j<xs.size:=omq;have hx':x=xs[off+j]:=by simpa [hj,hlt] using h2'.symm
      subst hx';exact h4 _ c _ h1'' (xk hlt)
     |false=>
      have hl':cs'[off]?=some v:=by simpa [List.head?_eq_getElem?] using hl
      have hlt:off<xs.size:=by
       have:=(gsi.1 hl').1;omega
      have hc:w.cell? ⟨ρ id,off,none⟩=some xs[off]:=by simp[World.cell?,h1,hlt]
      exact⟨xs[off],by simp[loadVar,ru hag,Result.andThen,hc],h4 off v _ hl' (xk hlt)⟩
   obtain⟨y,hr,hy⟩:=hnaive;exact zcy
  .rename_i cs' hk;cases hb;obtain⟨g,h1,h2,h3⟩:=G.blk id _ hk
   have hat:At F ⟨ρ id,off,none⟩ (cs'.drop off) (fun j=>g (off+j)):=
    ⟨fun c hc=>h1 c (qvr hc),fun j c hc=>by rw[eu];exact h2 _ c ze2,fun j c hc=>h3 _ c ze2⟩
   obtain⟨y,hr,hy⟩:=qam (P:=P) G.sees hat hl;exact zcy
  cases hb
 cases hb
theorem qjr(G:Good F w ρ h ρa ρc){x:Operand}{v:V}(hv:capV h (ρa x)=some v):Rep F v (ρc x):=by
 unfold capV at hv;split at hv
 .rename_i v' hx;cases hv;exact G.opr x _ hx
 .rename_i id off hx;have e:=show ρc x=_ from G.opr x _ hx
  split at hv
  .rename_i cs hk;cases hv;obtain⟨g,h1,h2,h3⟩:=G.blk id _ hk;rw[e];exact .row (fun j=>g (off+j)) (fun c hc=>h1 c (qvr hc)) (fun j c hc=>by rw[eu];exact h2 _ c ze2) (fun j c hc=>h3 _ c ze2)
  .rename_i cs b _ hk;cases hv;rw[e,G.nb id _ b hk rfl];exact .val _
  cases hv
 cases hv
theorem jtg(G:Good F w ρ h ρa ρc):∀ {l:List Operand} {vs:List V},kz ρa h l=some vs->vs.length=l.length/\∀(j:Nat) v x,vs[j]?=some v->(l.map ρc)[j]?=some x->Rep F v x
 |[],vs,e=>by simp[kz] at e;subst e;simp
 |x::r,vs,e=>by
  simp only[kz] at e;split at e
  .rename_i v vs' h1 h2;cases e;obtain⟨hl,hh⟩:=jtg G h2;refine⟨by simp[hl],fun j v' x' e1 e2=>?_⟩;cases j with
   |zero=>
    simp only[List.getElem?_cons_zero,uu,vl] at e1 e2;subst e1 e2;exact qjr G h1
   |succ j=>
    exact zeb
  cases e
theorem jjh(G:Good F w ρ h ρa ρc):∀ {l:List Operand} {vs:List V},vsOf ρa l=some vs->vs.length=l.length/\∀(j:Nat) v x,vs[j]?=some v->(l.map ρc)[j]?=some x->Rep F v x
 |[],vs,e=>by simp[vsOf] at e;subst e;simp
 |x::r,vs,e=>by
  simp only[vsOf] at e;split at e
  .rename_i v vs' h1 h2;cases e;obtain⟨hl,hh⟩:=jjh G h2;refine⟨by simp[hl],fun j v' x' e1 e2=>?_⟩;cases j with
   |zero=>
    simp only[List.getElem?_cons_zero,uu,vl] at e1 e2;subst e1 e2;exact G.v h1
   |succ j=>
    exact zeb
  cases e
theorem jbk(e:strB P t=true):P.underlying t=some .string:=by
 unfold strB at e;split at e
 .rename_i h;exact h
 cases e
theorem jv4(e:jfc P t=true):P.underlying t=some .bool:=by
 unfold jfc at e;split at e
 .rename_i h;exact h
 cases e
theorem jw1(e:ifcB P t=true):∃ms,P.underlying t=some (.interface ms):=by
 unfold ifcB at e;split at e
 .rename_i ms h;exact⟨ms,h⟩
 cases e
theorem jgu(e:intK P t=some k):P.underlying t=some (.int k):=by
 unfold intK at e;split at e
 .rename_i k' h;cases e;exact h
 cases e
theorem sy(e:(slV P t).isSome=true):∃e',P.underlying t=some (.slice e'):=by
 obtain⟨⟨e',n⟩,h⟩:=yw.1 e;exact⟨e',(je h).1⟩
theorem cx{l:List UInt8}(h:Rep F (.str l) x):x=.string ⟨l.toArray⟩:=by cases h;rfl
theorem al{v:Value}(h:Rep F (.val v) x):x=v:=by cases h;rfl
theorem qoo(l:List UInt8):ByteArray.size ⟨l.toArray⟩=l.length:=rfl
theorem qhz(G:Good F w ρ h ρa ρc){ty:TypeId}{x:Operand}{v:V}(e:lenV P t h (ρa x)=some v):
  ∃y,(Builtin.len_ #[t] ty #[ρc x]).run P w=.ok y w/\Rep F v y:=by
 unfold lenV at e;split at e
 .rename_i size es hx;split at e
  .rename_i hs;cases e;obtain⟨e',hu⟩:=sy hs;obtain⟨a,c,hv⟩:=su (show Rep F (.slice size es) (ρc x) from G.opr x _ hx);exact⟨.int .i64 es.length,by simp[Builtin.len_,run_underlying hu,Result.andThen,hv,goInt],.val _⟩
  cases e
 .rename_i l hx;split at e
  .rename_i hs;cases e;have hv:=cx (show Rep F (.str l) (ρc x) from G.opr x _ hx);exact⟨.int .i64 l.length,by simp only[Builtin.len_,hv];simp[run_underlying (jbk hs),Result.andThen,qoo];rfl,.val _⟩
  cases e
 .rename_i hx;split at e
  .rename_i hs;cases e;obtain⟨e',hu⟩:=sy hs;have hv:=al (show Rep F (.val _) (ρc x) from G.opr x _ hx);exact⟨.int .i64 0,by simp[Builtin.len_,run_underlying hu,Result.andThen,hv,goInt],.val _⟩
  cases e
 .rename_i ad m cap hx;split at e
  .rename_i hs;cases e;obtain⟨e',hu⟩:=sy hs;have hv:=al (show Rep F (.val _) (ρc x) from G.opr x _ hx);exact zdl
  cases e
 .rename_i id off m size hx;split at e
  .rename_i hs;cases e;obtain⟨e',hu⟩:=sy hs;obtain⟨cap,_,_,_,hv⟩:=show ∃cap,m<=cap/\cap<=maxLen/\0<m/\ρc x=_ from G.opr x _ hx
   exact zdl
  cases e
 .rename_i id hx;split at e
  .rename_i es _ k' e' hk hu;cases e;have hv:=show ρc x=_ from G.opr x _ hx
   obtain⟨xs,ck,h1,_,h2,h3⟩:=G.blk id _ hk
   have hg:(getObj (ρ id)).run P w=.ok (.map xs ck) w:=by
    unfold getObj;simp only[Sem.run];rw[h1]
   exact⟨.int .i64 es.length,by simp[Builtin.len_,run_underlying hu,Result.andThen,hv,goInt,hg,h2],.val _⟩
  cases e
 cases e
theorem jhs(l:List UInt8):(⟨l.toArray⟩:ByteArray).size=l.length:=by simp[ByteArray.size]
theorem jve(l:List UInt8):(⟨l.toArray⟩:ByteArray).toList=l:=by simp[ByteArray.toList_eq]
theorem qkq{a b:List UInt8}{v:V}(e:jcj op a b=some v)(t:TypeId)(w:World):
  ∃y,(binOp op t (.string ⟨a.toArray⟩) (.string ⟨b.toArray⟩)).run P w=.ok y w/\Rep F v y:=by
 cases op<;>simp only[jcj] at e<;>try (cases e;done)
 case add=>
  split at e
  .rename_i hle;cases e;refine⟨.string ⟨(a++b).toArray⟩,?_,.str _⟩
   have:(⟨a.toArray⟩:ByteArray)++⟨b.toArray⟩=⟨(a++b).toArray⟩:=by
    apply WideShapes.bytes_inj;simp
   have hm:IntKind.i64.max=9223372036854775807:=by decide
   simp[binOp,Op.stringOp,hm,jhs,this];omega
  cases e
 all_goals
  cases e;refine⟨_,?_,.val _⟩;simp[binOp,Op.stringOp]
theorem jbp{v:V}(e:eqOp op b=some v):(op=.eql/\v=.val (.bool b))\/(op=.neq/\v=.val (.bool (!b))):=by
 unfold eqOp at e;split at e
 .cases e;exact .inl ⟨rfl,rfl⟩
 .cases e;exact .inr ⟨rfl,rfl⟩
 cases e
theorem js2(d:Nat)(hu:P.underlying t=some .bool)(a b:Bool)(w:World):(Op.equalIn (d+1) t (.bool a) (.bool b)).run P w=.ok (a == b) w:=by
 simp[Op.equalIn,run_underlying hu]
theorem jud(hu:P.underlying t=some .bool)(a b:Bool)(w:World):(Op.equal t (.bool a) (.bool b)).run P w=.ok (a == b) w:=js2 9999 hu a b w
theorem qdl(d:Nat)(hu:P.underlying t=some (.slice e))(a:Option Addr)(n c:Nat)(w:World):(Op.equalIn (d+1) t (.slice a n c) (.slice none 0 0)).run P w=.ok a.isNone w:=by
 cases a<;>simp[Op.equalIn,run_underlying hu]
theorem jba(hu:P.underlying t=some (.slice e))(a:Option Addr)(n c:Nat)(w:World):(Op.equal t (.slice a n c) (.slice none 0 0)).run P w=.ok a.isNone w:=qdl 9999 hu a n c w
theorem qdr(d:Nat)(hu:P.underlying t=some (.interface ms))(u:TypeId)(x:Value)(w:World):(Op.equalIn (d+1) t (.iface u x) .nilIface).run P w=.ok false w:=by
 simp[Op.equalIn,run_underlying hu]
theorem jro(hu:P.underlying t=some (.interface ms))(u:TypeId)(x:Value)(w:World):(Op.equal t (.iface u x) .nilIface).run P w=.ok false w:=qdr 9999 hu u x w
theorem qdq(d:Nat)(hu:P.underlying t=some (.interface ms))(w:World):(Op.equalIn (d+1) t .nilIface .nilIface).run P w=.ok true w:=by
 simp[Op.equalIn,run_underlying hu]
theorem jrn(hu:P.underlying t=some (.interface ms))(w:World):(Op.equal t .nilIface .nilIface).run P w=.ok true w:=qdq 9999 hu w
theorem jad{w:World}(h:(Op.equal t x y).run P w=.ok b w) 
  (h1:binOp .eql t x y=(do pure (.bool (<- Op.equal t x y)))):(binOp .eql t x y).run P w=.ok (.bool b) w:=by
 rw[h1];simp[h,Result.andThen]
theorem jac{w:World}(h:(Op.equal t x y).run P w=.ok b w) 
  (h1:binOp .neq t x y=(do pure (.bool (!(<- Op.equal t x y))))):(binOp .neq t x y).run P w=.ok (.bool (!b)) w:=by
 rw[h1];simp[h,Result.andThen]
theorem eqC_i{v:V}(h:eqC .i v u=some b):∃j a c,v=.val (.int j a)/\u=.val (.int j c)/\b=decide (a=c):=by
 unfold eqC at h;split at h
 .split at h
  .rename_i hj;subst hj;cases h;exact⟨_,_,_,rfl,rfl,rfl⟩
  cases h
 .rename_i h1;cases h1
 .rename_i h1;cases h1
 cases h
theorem eqC_b{v:V}(h:eqC .b v u=some b):∃a c,v=.val (.bool a)/\u=.val (.bool c)/\b=(a == c):=by
 unfold eqC at h;split at h
 .rename_i h1;cases h1
 .cases h;exact⟨_,_,rfl,rfl,rfl⟩
 .rename_i h1;cases h1
 cases h
theorem eqC_s{v:V}(h:eqC .s v u=some b):∃a c,v=.str a/\u=.str c/\b=(a == c):=by
 unfold eqC at h;split at h
 .rename_i h1;cases h1
 .rename_i h1;cases h1
 .cases h;exact⟨_,_,rfl,rfl,rfl⟩
 cases h
theorem jft:∀ {ks:List Lf} {a b:List V} {r:Bool},gz ks a b=some r->a.length=ks.length/\b.length=ks.length
 |[],[],[],_,_=>⟨rfl,rfl⟩
 |l::ls,x::xs,y::ys,r,h=>by
  simp only[gz] at h;split at h
  .rename_i p q _ hq;have:=jft hq;simp[this.1,this.2]
  cases h
theorem jst:∀ {ks ks':List Lf} {a b:List V} {r:Bool},gz (ks++ks') a b=some r->
  ∃r1 r2,gz ks (a.take ks.length) (b.take ks.length)=some r1/\gz ks' (a.drop ks.length) (b.drop ks.length)=some r2/\r=(r1 && r2)
 |[],ks',a,b,r,h=>⟨true,r,rfl,h,smq⟩
 |l::ls,ks',[],b,r,h=>by cases b<;>simp[gz] at h
 |l::ls,ks',x::xs,[],r,h=>by simp[gz] at h
 |l::ls,ks',x::xs,y::ys,r,h=>by
  simp only[List.cons_append,gz] at h;split at h
  .rename_i p q hp hq;cases h;obtain⟨r1,r2,h1,h2,rfl⟩:=jst hq;exact⟨p && r1,r2,by simp[gz,hp,h1],by simpa using h2,by rw[Bool.and_assoc]⟩
  cases h
theorem jh6:∀ {n:Nat} {cs:List V},n<=cs.length->cn n cs=some (cs.take n)
 |0,_,_=>rfl
 |n+1,c::cs,h=>by simp[cn,jh6 (n:=n) (cs:=cs) (by simpa using h)]
 |_+1,[],h=>by simp at h
theorem qal{k:Nat}(h:uf P k t=some ks){cs:List V}(hl:ks.length<=cs.length):∃v,ldV P t cs=some v:=by
 cases k with
 |zero=>cases h
 |succ k=>
  have leaf:∀l:Lf,(if aggB P t=some false then some [l] else none)=some ks->∃v,ldV P t cs=some v:=fun l h=>by
   split at h
   .rename_i ha;cases h
    match cs,hl with
    |c::cs,_=>exact⟨c,by simp[ldV,ha]⟩
   cases h
  unfold uf at h;split at h
  .exact leaf _ h
  .exact leaf _ h
  .exact leaf _ h
  .split at h
   .rename_i ha;split at h
    .split at h
     .rename_i hc;cases h;exact⟨_,by rw[ldV,ha.2];simp only;rw[jh6 omq];rfl⟩
     cases h
    cases h
   cases h
  cases h
structure AggRep (F:Frz) (cs:List V) (xs:Array Value):Prop where
 size:xs.size=cs.length
 one:∀c∈cs,c.one=true
 rep:∀(j:Nat) c x,cs[j]?=some c->xs[j]?=some x->Rep F c x
theorem jfw{cs:List V}(h:Rep F (.agg cs) x):∃xs,x=.agg xs/\AggRep F cs xs:=by
 cases h with
 |agg h1 h2 h3=>exact⟨_,rfl,h1,h2,h3⟩
def EqAt(P:Program)(k:Nat):Prop:=∀ {t:TypeId} {ks:List Lf},uf P k t=some ks->∀ {d:Nat},k<=d->∀ {F:Frz} {w:World} {cs ds:List V} {v u:V} {x y:Value} {b:Bool},
 ldV P t cs=some v->ldV P t ds=some u->(∀c∈cs,c.one=true)->(∀c∈ds,c.one=true)->Rep F v x->Rep F u y->
 gz ks (cs.take ks.length) (ds.take ks.length)=some b->(Op.equalIn d t x y).run P w=.ok b w
theorem jwl{k:Nat}(IH:EqAt P k){d:Nat}(hd:k<=d){cs ds:List V}{xs ys:Array Value}(hx:AggRep F cs xs)(hy:AggRep F ds ys):
  ∀(fs:List Field) (off:Nat) {ks:List Lf} {b:Bool},jf3 (uf P k) off fs=some ks->gz ks (cs.drop off) (ds.drop off)=some b->(Op.eqFields d xs ys fs).run P w=.ok b w
 |[],off,ks,b,h,e=>by
  simp only[jf3,uu] at h;subst h;obtain⟨h1,h2⟩:=jft e;rw[xu h1,xu h2] at e;cases e;simp[Op.eqFields]
 |f::fs,off,ks,b,h,e=>by
  simp only[jf3] at h;split at h
  .rename_i hf;obtain⟨hn,ho⟩:=hf;split at h
   .rename_i ks1 h1;simp only[msi] at h;obtain⟨ks2,h2,rfl⟩:=h;obtain⟨e1,e2⟩:=jft e;simp only[ve] at e1 e2;obtain⟨r1,r2,g1,g2,rfl⟩:=jst e;obtain⟨v,hv⟩:=qal h1 (cs:=cs.drop off) omq;obtain⟨u,hu⟩:=qal h1 (cs:=ds.drop off) omq;obtain⟨x,hx1,hx2⟩:=jha (P:=P) (w:=w) hx.size hx.one hx.rep hv;obtain⟨y,hy1,hy2⟩:=jha (P:=P) (w:=w) hy.size hy.one hy.rep hu;have key:=IH h1 hd (w:=w) hv hu (fun c hc=>hx.one c (qvr hc)) (fun c hc=>hy.one c (qvr hc)) hx2 hy2 g1;have rest:=jwl IH hd hx hy fs (off+ks1.length) h2 (by simpa [List.drop_drop] using g2);rw[Op.eqFields,um hn,ho];cases r1 with
    |true=>simp[hx1,hy1,key,rest,Result.andThen]
    |false=>simp[hx1,hy1,key,Result.andThen]
   cases h
  cases h
theorem qb9:∀(k:Nat),EqAt P k
 |0=>fun h=>by cases h
 |k+1=>by
  intro h d hd F w cs ds v u x y b hv hu hc1 hc2 hx hy e;rename_i t ks;obtain⟨d,rfl⟩:∃d',d=d'+1:=⟨d-1,omq⟩
  have leaf:∀l:Lf,(if aggB P t=some false then some [l] else none)=some ks->eqC l v u=some b:=fun l h=>by
   split at h
   .rename_i ha;cases h;simp only[ldV,ha] at hv hu;cases cs with
    |nil=>cases hv
    |cons c cs=>
     cases ds with
     |nil=>cases hu
     |cons c' ds=>
      cases hv;cases hu;simp only[List.length_cons,List.length_nil,List.take_succ_cons,List.take_zero,gz] at e;split at e
      .rename_i p q hp hq;cases hq;cases e;simpa using hp
      cases e
   cases h
  unfold uf at h;split at h
  .rename_i kd hu';obtain⟨j,a,c,rfl,rfl,rfl⟩:=eqC_i (leaf _ h);have:=al hx;subst this;have:=al hy;subst this;rw[run_equalIn_int w d t _ _ _ _ hu'];congr
  .rename_i hu';obtain⟨a,c,rfl,rfl,rfl⟩:=eqC_b (leaf _ h);have:=al hx;subst this;have:=al hy;subst this;exact js2 d hu' _ _ w
  .rename_i hu';obtain⟨a,c,rfl,rfl,rfl⟩:=eqC_s (leaf _ h);have:=cx hx;subst this;have:=cx hy;subst this;rw[run_equalIn_string w d t _ _ hu',jve,jve]
  .rename_i fs hu';split at h
   .rename_i ha;split at h
    .rename_i ks' hks;split at h
     .rename_i hc;cases h;simp only[ldV,ha.2,msi] at hv hu;obtain⟨c1,hv,rfl⟩:=hv;obtain⟨c2,hu,rfl⟩:=hu;obtain⟨rfl,l1⟩:=ja1 hv;obtain⟨rfl,l2⟩:=ja1 hu;obtain⟨xs,rfl,hx'⟩:=jfw hx;obtain⟨ys,rfl,hy'⟩:=jfw hy;have hfo:P.fieldsOf t=fs:=by simp[Program.fieldsOf,hu']
      rw[run_equalIn_struct w d t xs ys (by rw[hfo];exact hu') ha.1,hfo];exact jwl (qb9 k) omq hx' hy' fs.toList 0 hks (by simpa [hc] using e)
     cases h
    cases h
   cases h
  cases h
theorem qsh{cs ds:List V}(h:eqT P t=some ks)(hx:Rep F (.agg cs) x)(hy:Rep F (.agg ds) y)(e:gz ks cs ds=some b)(w:World):
  (Op.equal t x y).run P w=.ok b w/\∃xs ys,x=.agg xs/\y=.agg ys/\P.eqGuardType P.depth t=false:=by
 unfold eqT at h;split at h
 .rename_i fs hu;split at h
  .rename_i hg;obtain⟨l1,l2⟩:=jft e;have h':=h;simp only[uf,hu] at h';split at h'
   .rename_i ha;split at h'
    .rename_i ks' hks;split at h'
     .rename_i hc;cases h';obtain⟨xs,rfl,hx1⟩:=jfw hx;obtain⟨ys,rfl,hy1⟩:=jfw hy;refine⟨?_,xs,ys,rfl,rfl,hg⟩;refine qb9 8 h (d:=10000) omq (cs:=cs) (ds:=ds) ?_ ?_ hx1.one hy1.one hx hy ?_
      .rw[ldV,ha.2];simp only;rw[jh6 omq,xn omq];rfl
      .rw[ldV,ha.2];simp only;rw[jh6 omq,xn omq];rfl
      rw[xn omq,xn omq];exact e
     cases h'
    cases h'
   cases h'
  cases h
 cases h
theorem jze{x y:V}{v:V}{a b:Value}(ha:Rep F x a)(hb:Rep F y b)(e:binV P op t x y=some v)(w:World):
  ∃r,(binOp op t a b).run P w=.ok r w/\Rep F v r/\∀(ox oy:Operand),(eqGuard op t ox oy a b).run P w=.ok () w:=by
 unfold binV at e;split at e
 ·-- ints
  have:=al ha;subst this;have:=al hb;subst this;split at e
  .unfold shV at e;split at e
   .rename_i hn;cases e;exact zcg
   cases e
  .unfold shV at e;split at e
   .rename_i hn;cases e;exact zcg
   cases e
  split at e
  .rename_i hk;subst hk;obtain⟨r,rfl,hr⟩:=jw0 (P:=P) e t w;exact⟨r,hr,.val _,fun ox oy=>by unfold eqGuard;split<;>rfl⟩
  cases e
 ·-- bools
  have:=al ha;subst this;have:=al hb;subst this;split at e
  .rename_i hu;rcases jbp e with⟨rfl,rfl⟩|⟨rfl,rfl⟩
   .exact⟨_,jad (jud (jv4 hu) _ _ w) rfl,.val _,fun ox oy=>by simp[eqGuard]⟩
   exact⟨_,jac (jud (jv4 hu) _ _ w) rfl,.val _,fun ox oy=>by simp[eqGuard]⟩
  cases e
 ·-- strings
  have:=cx ha;subst this;have:=cx hb;subst this;obtain⟨r,hr,hv⟩:=qkq (P:=P) (F:=F) e t w;exact⟨r,hr,hv,fun ox oy=>by unfold eqGuard;split<;>rfl⟩
 ·-- a slice that is not empty,against nil
  have:=al hb;subst this;split at e
  .rename_i hu;obtain⟨e',hu⟩:=sy hu;rcases qa ha with⟨_,h0⟩|⟨ad,cap,g,rfl,_⟩
   .cases h0
   rcases jbp e with⟨rfl,rfl⟩|⟨rfl,rfl⟩
   .exact zes
   exact zet
  cases e
 .have:=al ha;subst this;have:=al hb;subst this;split at e
  .rename_i hu;obtain⟨e',hu⟩:=sy hu;rcases jbp e with⟨rfl,rfl⟩|⟨rfl,rfl⟩
   .exact zes
   exact zet
  cases e
 .have:=al hb;subst this;split at e
  .rename_i hu;obtain⟨ms,hu⟩:=jw1 hu;cases ha with
   |ifc u x=>
    rcases jbp e with⟨rfl,rfl⟩|⟨rfl,rfl⟩
    .exact⟨_,jad (jro hu _ _ w) rfl,.val _,fun ox oy=>by simp[eqGuard]⟩
    exact⟨_,jac (jro hu _ _ w) rfl,.val _,fun ox oy=>by simp[eqGuard]⟩
  cases e
 .split at e
  .rename_i ks hks;split at e
   .rename_i b hb';obtain⟨h1,xs,ys,rfl,rfl,hg⟩:=qsh hks ha hb hb' w;rcases jbp e with⟨rfl,rfl⟩|⟨rfl,rfl⟩
    .exact⟨_,jad h1 rfl,.val _,fun ox oy=>run_eqGuard_agg w _ t ox oy xs ys hg⟩
    exact⟨_,jac h1 rfl,.val _,fun ox oy=>run_eqGuard_agg w _ t ox oy xs ys hg⟩
   cases e
  cases e
 cases e
theorem qfd{v:V}(hu:ifcB P t=true)(e:eqOp op true=some v)(w:World)(c:Value):
  ∃r,(binOp op t .nilIface .nilIface).run P w=.ok r w/\Rep F v r/\∀(ox:Operand),(eqGuard op t ox (.const c) .nilIface .nilIface).run P w=.ok () w:=by
 obtain⟨ms,hu⟩:=jw1 hu;rcases jbp e with⟨rfl,rfl⟩|⟨rfl,rfl⟩
 .exact⟨_,jad (jrn hu w) rfl,.val _,fun ox=>by simp[eqGuard]⟩
 exact⟨_,jac (jrn hu w) rfl,.val _,fun ox=>by simp[eqGuard]⟩
theorem jm5{v:V}{n:Int}(h:Rep F v x)(e:nums v=some n):∃k,x=.int k n:=by
 unfold nums at e;split at e
 .cases e;exact⟨_,al h⟩
 cases e
theorem jff{i:Int}{y:Nat}(h0:0<=i)(h1:i<=y)(c:BoundsCode)(w:World):(Instr.sliceBound (.int k i) y c).run P w=.ok i.toNat w:=by
 simp[Instr.sliceBound,asIntOf,h0,h1]
theorem jh1{b:Nat}(e:cutV n lo hi=some (a,b)):
  a<=b/\b<=n/\(match hi with|none=>b=n|some v=>nums v=some (b:Int))/\(match lo with|none=>a=0|some v=>nums v=some (a:Int)):=by
 unfold cutV at e;split at e
 .rename_i hv lv hh hl;split at e
  .rename_i hc;simp only[uu,xd] at e;obtain⟨rfl,rfl⟩:=e;refine⟨omq,omq,?_,?_⟩
   .cases hi with
    |none=>simp at hh;subst hh;simp
    |some v=>simp only at hh ⊢;rw[hh];simp;omega
   cases lo with
   |none=>simp at hl;subst hl;simp
   |some v=>simp only at hl ⊢;rw[hl];simp;omega
  cases e
 cases e
def jer(F:Frz):Option V->Option Value->Prop
 |none,none=>True
 |some v,some x=>Rep F v x
 |_,_=>False
theorem jgm{cap b:Nat}{isS:Bool}{lo' hi':Option Value}(e:cutV n lo hi=some (a,b))(hcap:n<=cap) 
  (hlo:jer F lo lo')
  (hhi:jer F hi hi') (w:World):
  (Instr.sliceBounds isS n cap lo' hi' none).run P w=.ok (a,b,cap) w:=by
 obtain⟨h1,h2,h3,h4⟩:=jh1 e;unfold Instr.sliceBounds;cases hi with
 |none=>
  cases hi' with
  |some x=>exact hhi.elim
  |none=>
   simp only at h3;subst h3;cases lo with
   |none=>
    cases lo' with
    |some x=>exact hlo.elim
    |none=>simp only at h4;subst h4;simp
   |some v=>
    cases lo' with
    |none=>exact hlo.elim
    |some x=>
     obtain⟨k,rfl⟩:=jm5 hlo h4;simp[Result.andThen,jff (P:=P) (k:=k) (i:=(a:Int)) (y:=b) omq omq]
 |some vh=>
  cases hi' with
  |none=>exact hhi.elim
  |some xh=>
   obtain⟨kh,rfl⟩:=jm5 hhi h3;cases lo with
   |none=>
    cases lo' with
    |some x=>exact hlo.elim
    |none=>
     simp only at h4;subst h4;simp[Result.andThen,jff (P:=P) (k:=kh) (i:=(b:Int)) (y:=cap) omq omq]
   |some v=>
    cases lo' with
    |none=>exact hlo.elim
    |some x=>
     obtain⟨k,rfl⟩:=jm5 hlo h4;simp[Result.andThen,jff (P:=P) (k:=kh) (i:=(b:Int)) (y:=cap) omq omq,jff (P:=P) (k:=k) (i:=(a:Int)) (y:=b) omq omq]
theorem jgr(G:Good F w ρ h ρa ρc){x:Option Operand}{v:Option V}(e:optV ρa x=some v):
  jer F v (x.map ρc):=by
 cases x with
 |none=>simp[optV] at e;subst e;trivial
 |some o=>
  simp only[optV,msi] at e;obtain⟨v',h1,rfl⟩:=e;exact G.v h1
theorem qhp{x:V}{v:V}{lo' hi':Option Value}(hx:Rep F x y)(e:jc9 P t x lo hi=some v) 
  (hlo:jer F lo lo')
  (hhi:jer F hi hi') (w:World):
  ∃r,(Instr.sliceAt t y lo' hi' none).run P w=.ok r w/\Rep F v r:=by
 unfold jc9 at e;split at e
 .rename_i l;split at e
  .rename_i hs;simp only[msi] at e;obtain⟨⟨a,b⟩,hc,rfl⟩:=e;have:=cx hx;subst this;have hb:=jgm (P:=P) (F:=F) (isS:=false) (cap:=l.length) hc (uv _) hlo hhi w;obtain⟨h1,h2,_,_⟩:=jh1 hc;refine⟨.string ((⟨l.toArray⟩:ByteArray).extract a b),?_,?_⟩
   .simp[Instr.sliceAt,run_underlying (jbk hs),Result.andThen,Instr.slice,jhs,hb]
   have:((⟨l.toArray⟩:ByteArray).extract a b)=⟨((l.take b).drop a).toArray⟩:=by
    apply WideShapes.bytes_inj;simp[ByteArray.data_extract,List.extract_eq_take_drop,List.drop_take]
   rw[this];exact .str _
  cases e
 .rename_i size es;split at e
  .rename_i hs;simp only[msi] at e;obtain⟨⟨a,b⟩,hc,rfl⟩:=e;simp only[msi] at hs;obtain⟨⟨e',n⟩,hsl,rfl⟩:=hs;obtain⟨hu,hsz,hz⟩:=je hsl;simp only at *;obtain⟨inf,hi0⟩:=mq (P:=P) (t:=e') omq;obtain⟨h1,h2,_,_⟩:=jh1 hc;rcases qa hx with⟨rfl,rfl⟩|⟨ad,cap,g,rfl,hcap,hm,hss,ho,hg,hr⟩
   .have hb:=jgm (P:=P) (F:=F) (isS:=true) (n:=0) (cap:=0) hc (uv _) hlo hhi w;simp only[List.length_nil] at h2;obtain rfl:b=0:=omq;obtain rfl:a=0:=omq;refine⟨.slice none 0 0,?_,by simpa using Rep.snil⟩;simp[Instr.sliceAt,run_underlying hu,Result.andThen,Instr.slice,hb,ja hi0]
   have hb:=jgm (P:=P) (F:=F) (isS:=true) (n:=es.length) (cap:=cap) hc hcap hlo hhi w;refine⟨.slice (if cap=a then some ad else some (ad.add (a*n))) (b-a) (cap-a),?_,?_⟩
   .exact zec
   have hlen:((es.take b).drop a).length=b-a:=by simp;omega
   have hnth:∀(i:Nat) (e:List V),((es.take b).drop a)[i]?=some e->es[a+i]?=some e:=fun i e hi=>by
    rw[qwh,xt] at hi;split at hi
    .exact hi
    cases hi
   have hmem:∀e∈(es.take b).drop a,e∈es:=fun e he=>yu (qvr he);rw[<- hlen];by_cases hca:cap=a
   .have:(es.take b).drop a=[]:=xu omq;rw[um hca,this];exact .slice g smq omq smq smq smq smq
   rw[ul hca];refine .slice (fun i j=>g (a+i) j) omq omq (fun e he=>hss e (hmem e he)) (fun e he=>ho e (hmem e he)) (fun i j e c h1 h2=>?_) (fun i j e c h1 h2=>hr _ j e c (hnth i e h1) h2);rw[add_add,<- qve,<- yd];exact hg _ j e c (hnth i e h1) h2
  cases e
 cases e
theorem jvy{k k':V}{x':Value}(hk:Rep F k x)(hk':Rep F k' x')(ht:keyT P kt k=true)(hu:P.underlying kt=some d)(e:kw k k'=some b):
  Instr.sameNow d x x'=some b:=by
 unfold kw at e;split at e
 .rename_i j a k0 b0;split at e
  .rename_i hjk;cases e;subst hjk;have:=al hk;subst this;have:=al hk';subst this;unfold keyT at ht;rw[hu] at ht;cases d<;>simp_all [Instr.sameNow]
   rfl
  cases e
 .rename_i a b0;cases e;have:=cx hk;subst this;have:=cx hk';subst this;unfold keyT at ht;rw[hu] at ht;cases d<;>simp_all [Instr.sameNow]
  rw[qw6];simp only[qvc];constructor
  .intro h;exact congrArg (fun b:ByteArray=>b.data.toList) ((MapKept.bytes_beq _ _).1 h)
  intro h;subst h;exact(MapKept.bytes_beq _ _).2 rfl
 cases e
theorem jwc{k:V}{x:Value}{kt:TypeId}{d:TypeDesc}(hk:Rep F k x)(ht:keyT P kt k=true)(hu:P.underlying kt=some d):
  ∀(es:List (V×V)) (xs:List MapEntry) (n:Nat) {r:Option V},xs.length=es.length->(∀(j:Nat) k' v y,es[j]?=some (k',v)->xs[j]?=some y->Rep F k' y.key/\Rep F v y.val)->rh k es=some r->
   match r with
   |none=>Instr.findNow d x xs n=some none
   |some v=>∃i y,Instr.findNow d x xs n=some (some (n+i,y.val))/\xs[i]?=some y/\Rep F v y.val
 |[],[],n,r,_,_,e=>by simp[rh] at e;subst e;simp[Instr.findNow]
 |[],_::_,_,_,hl,_,_=>by simp at hl
 |_::_,[],_,_,hl,_,_=>by simp at hl
 |(k',v)::es,y::xs,n,r,hl,hh,e=>by
  obtain⟨h1,h2⟩:=hh 0 k' v y rfl rfl;simp only[rh] at e;cases hb:kw k k' with
  |none=>rw[hb] at e;cases e
  |some b=>
   rw[hb] at e;have hs:=jvy hk h1 ht hu hb;cases b with
   |true=>
    simp only[uu] at e;subst e;exact⟨0,y,by simp[Instr.findNow,hs],rfl,h2⟩
   |false=>
    simp only at e;have ih:=jwc hk ht hu es xs (n+1) ze4 (fun j k'' v' y' e1 e2=>hh (j+1) k'' v' y' ze5 zez) e;cases r with
    |none=>simp only at ih ⊢;simp[Instr.findNow,hs,ih]
    |some v'=>
     simp only at ih ⊢;obtain⟨i,y',h3,h4,h5⟩:=ih;exact⟨i+1,y',by simp[Instr.findNow,hs,h3,Nat.add_assoc,Nat.add_comm 1 i],by simpa using h4,h5⟩
theorem jis(em:Bool)(n:Nat)(hu:P.underlying kt=some d){k:V}(ht:keyT P kt k=true)(x:Value)(w:World):(Instr.checkKey em (n+1) kt x).run P w=.ok () w:=by
 unfold keyT at ht;rw[hu] at ht;cases d<;>simp_all [Instr.checkKey,run_underlying hu]
theorem ja4{b:Nat}{xs:Array MapEntry}{ck:Nat}(h1:w.heap[b]?=some (.map xs ck)):(getObj b).run P w=.ok (.map xs ck) w:=by
 unfold getObj;simp only[Sem.run];rw[h1]
theorem cb{s:Sem Value}{w':World}(hr:s.run P w=.ok y w'):(do pure (Next.value (<- s)):Sem Next).run P w=.ok (.value y) w':=by
 simp[hr]
theorem qov{v:V}(h1:Rep F v x)(h2:Rep F u y):Rep F (.tup [v,u]) (.tuple #[x,y]):=by
 refine .tup rfl fun j c z e1 e2=>?_
 match j with
 |0=>simp at e1 e2;subst e1 e2;exact h1
 |1=>simp at e1 e2;subst e1 e2;exact h2
 |j+2=>simp at e1
theorem ja6{b:Nat}{h:List (Nat×Blk)}{id:Nat}(e:dg b h=some id):∃k,look id h=some k/\k.nm=some b:=by
 unfold dg at e;split at e
 .rename_i i hi;split at e
  .rename_i hn;cases e;cases hk:look id h with
   |none=>rw[hk] at hn;cases hn
   |some k=>rw[hk] at hn;exact⟨k,rfl,hn⟩
  cases e
 cases e
theorem qhv(G:Good F w ρ h ρa ρc){x:Operand}{es:List (V×V)}(e:mapE h (ρa x)=some es):
  (ρc x=.map none/\es=[])\/∃(b:Nat) (xs:Array MapEntry) (ck:Nat),ρc x=.map (some b)/\w.heap[b]?=some (.map xs ck)/\xs.size=es.length/\
   ∀(j:Nat) k v y,es[j]?=some (k,v)->xs[j]?=some y->Rep F k y.key/\Rep F v y.val:=by
 unfold mapE at e;split at e
 .rename_i id hx;split at e
  .rename_i es' hk;cases e;obtain⟨xs,ck,g1,_,g2,g3⟩:=G.blk id _ hk;exact .inr ⟨_,xs,ck,G.opr x _ hx,g1,g2,g3⟩
  cases e
 .rename_i ks vs hx;cases e;have hr:Rep F (.map ks vs) (ρc x):=G.opr x _ hx;generalize hy:ρc x=y at hr;cases hr with
  | @map _ _ b xs ck0 hb hl hl' hk hv=>
   obtain⟨ck,g1⟩:=G.sees.m _ _ hb;refine .inr ⟨b,xs,ck,rfl,g1,by simp[List.length_zip];omega,fun j k v y e1 e2=>?_⟩;obtain⟨e3,e4⟩:=List.getElem?_zip_eq_some.1 e1;exact⟨hk j k y e3 e2,hv j v y e4 e2⟩
 .rename_i hx;cases e;exact .inl ⟨al (G.opr x _ hx),rfl⟩
 .rename_i b hx;unfold mapN at e;split at e
  .rename_i id hid;obtain⟨k,hk,hb⟩:=ja6 hid;rw[hk] at e;unfold mapB at e;split at e
   .rename_i es' nm hke;cases e;cases hke;obtain⟨xs,ck,g1,_,g2,g3⟩:=G.blk id _ hk;rw[G.nb id _ b hk hb] at g1;exact .inr ⟨b,xs,ck,al (G.opr x _ hx),g1,g2,g3⟩
   cases e
  cases e
 cases e
theorem jku{a c:Option V}{v:V}(h:minV b a c=some v):∃k k' m q,a=some (.val (.int k m))/\c=some (.val (.int k' q))/\v=.val (.int k (bif b then(if q<m then q else m) else(if q > m then q else m))):=by
 unfold minV at h;split at h
 .cases h;exact⟨_,_,_,_,rfl,rfl,rfl⟩
 cases h
theorem jl6(G:Good F w ρ h ρa ρc)(o:Oper)(e:evq P ρa h o.op=some tv):
  ∃x,(execOp ρc o).run P w=.ok (.value x) w/\RepT F ρ tv x:=by
 obtain⟨dst,op,ty,pos,after,guard⟩:=o;simp only at e;unfold evq at e;split at e
 .rename_i x;exact⟨ρc x,rfl,G.opr x _ (qn e)⟩
 .rename_i x;exact⟨ρc x,rfl,G.opr x _ (qn e)⟩
 .rename_i x;split at e
  .rename_i id off hx;cases e;have hv:ρc x=.pointer (some ⟨ρ id,off,none⟩):=G.opr x _ hx;exact⟨.pointer (some ⟨ρ id,off,none⟩),by simp[execOp,hv],rfl⟩
  .rename_i cs hx;cases e;have hr:Rep F (.row cs) (ρc x):=G.opr x _ hx;obtain⟨a,g,hv,-⟩:=rp hr;rw[hv] at hr;exact⟨.pointer (some a),by simp[execOp,hv],hr⟩
  cases e
 .rename_i c a b;split at e
  .rename_i t hc;have hv:=al (G.v hc);cases t with
   |true=>exact⟨ρc a,by simp[execOp,hv,asBool],G.opr a _ (qn e)⟩
   |false=>exact⟨ρc b,by simp[execOp,hv,asBool],G.opr b _ (qn e)⟩
  cases e
 .rename_i t a;simp only[yl,msi] at e;obtain⟨cs,h1,v,h2,rfl⟩:=e;obtain⟨y,hr,hy⟩:=jtk (P:=P) G h1 h2;exact⟨y,cb hr,hy⟩
 .rename_i s x f;split at e
  .rename_i off ft cs h1 h2;cases e;obtain⟨a,g,hv,hat⟩:=rp (show Rep F (.row cs) (ρc x) from G.opr x _ h2);exact⟨.pointer (some (a.add off)),cb (by rw[hv];exact jj6 h1 a w),jo0 (hat.drop off)⟩
  .rename_i off ft id o' h1 h2;cases e;have hv:=show ρc x=_ from G.opr x _ h2
   refine⟨.pointer (some ⟨ρ id,o'+off,none⟩),cb ?_,rfl⟩;rw[hv,jj6 h1,eu]
  cases e
 .rename_i s x f;split at e
  .rename_i off ft cs h1 h2;simp only[msi] at e;obtain⟨v,h3,rfl⟩:=e;obtain⟨fs,fd,hu,hf,rfl,rfl,hz⟩:=jwb h1;have hr:=G.v h2;generalize hy0:ρc x=y at hr;cases hr with
   |agg hl ho hh=>
    rename_i xs;obtain⟨z,hz',hzr⟩:=jha (P:=P) (w:=w) hl ho hh h3;exact⟨z,cb (by rw[hy0];simp[Instr.field,run_underlying hu,hf,asAgg,hz']),hzr⟩
  cases e
 .rename_i t x i;split at e
  .rename_i n e' size ha;split at e
   .rename_i id off iv h2 h3;simp only[msi] at e;obtain⟨q,h4,rfl⟩:=e;unfold idxS at h4;split at h4
    .rename_i k j;split at h4
     .rename_i hm;cases h4;have hi:=al (G.v h3);have hv:ρc x=.pointer (some ⟨ρ id,off,none⟩):=G.opr x _ h2;refine⟨_,cb (by rw[hv,hi];exact jh4 ha k j _ hm.1 hm.2 w),?_⟩;rw[eu];rfl
     cases h4
    cases h4
   .rename_i cs iv h2 h3;simp only[msi] at e;obtain⟨q,h4,rfl⟩:=e;unfold idxS at h4;split at h4
    .rename_i k j;split at h4
     .rename_i hm;cases h4;have hi:=al (G.v h3);obtain⟨a,g,hv,hat⟩:=rp (show Rep F (.row cs) (ρc x) from G.opr x _ h2);exact⟨_,cb (by rw[hv,hi];exact jh4 ha k j a hm.1 hm.2 w),jo0 (hat.drop _)⟩
     cases h4
    cases h4
   cases e
  ·
   split at e
   .rename_i e' n size es iv h1 h2 h3;split at e
    .rename_i hn;subst hn;simp only[msi] at e;obtain⟨cs,h4,rfl⟩:=e;unfold idxV at h4;split at h4
     .rename_i k m;split at h4
      .rename_i hm;have hi:=al (G.v h3);have hlt:=(gsi.1 h4).1;rcases qa (show Rep F (.slice n es) (ρc x) from G.opr x _ h2) with⟨_,h0⟩|⟨a,cap,g,hv,hc,hmx,hs,ho,hg,hr⟩
       .subst h0;simp at hlt
       exact⟨_,cb (by rw[hv,hi];exact jbf h1 k m a es.length cap hm omq w),jo0 (qtg ho hg hr h4)⟩
      cases h4
     cases h4
    cases e
   .rename_i e' n id off m size iv h1 h2 h3;split at e
    .rename_i hn;subst hn;simp only[msi] at e;obtain⟨q,h4,rfl⟩:=e;unfold idxS at h4;split at h4
     .rename_i k j;split at h4
      .rename_i hm;cases h4;have hi:=al (G.v h3);obtain⟨cap,hc1,hc2,hc3,hv⟩:=show ∃cap,m<=cap/\cap<=maxLen/\0<m/\ρc x=_ from G.opr x _ h2
       refine⟨_,cb (by rw[hv,hi];exact jbf h1 k j _ m cap hm.1 hm.2 w),?_⟩;rw[eu];rfl
      cases h4
     cases h4
    cases e
   .rename_i e' n r off m cap iv h1 h2 h3;split at e
    .rename_i id hfn;simp only[msi] at e;obtain⟨q,h4,rfl⟩:=e;unfold idxS at h4;split at h4
     .rename_i k j;split at h4
      .rename_i hm;cases h4;have hi:=al (G.v h3);have hv:=al (show Rep F (.val _) (ρc x) from G.opr x _ h2);obtain⟨kb,z1,z2⟩:=ja6 hfn;have hρ:=G.nb id kb r z1 z2;refine⟨_,cb (by rw[hv,hi];exact jbf h1 k j _ m cap hm.1 hm.2 w),?_⟩;rw[eu]
       show _=Value.pointer (some ⟨ρ id,_,none⟩)
       rw[hρ]
      cases h4
     cases h4
    cases e
   cases e
 .rename_i t x i;split at e
  .rename_i n e' size ha;split at e
   .rename_i cs iv h2 h3;simp only[yl,msi] at e;obtain⟨q,h4,v,h5,rfl⟩:=e;unfold idxS at h4;split at h4
    .rename_i k j;split at h4
     .rename_i hm;cases h4;have hi:=al (G.v h3);obtain⟨hu,rfl,hz⟩:=jxg ha;obtain⟨inf,hi0⟩:=mq hz;have hr:=G.v h2;generalize hy0:ρc x=y at hr;cases hr with
      |agg hl ho hh=>
       rename_i xs;obtain⟨z,hz',hzr⟩:=jha (P:=P) (w:=w) hl ho hh h5;exact⟨z,cb (by rw[hy0,hi];simp[Instr.index,asIntOf,run_underlying hu,Result.andThen,ja hi0,hm.1,hm.2,hz']),hzr⟩
     cases h4
    cases h4
   cases e
  ·
   split at e
   .rename_i l iv h1 h2 h3;simp only[msi] at e;obtain⟨v,h4,rfl⟩:=e;unfold bytV at h4;split at h4
    .rename_i k m;split at h4
     .rename_i hm;simp only[msi] at h4;obtain⟨b,h5,rfl⟩:=h4;have hi:=al (G.v h3);have hx:=cx (G.v h2);refine⟨.int .u8 b.toNat,cb ?_,.val _⟩;have hlt:=(gsi.1 h5).1;have hsz:m.toNat<(⟨l.toArray⟩:ByteArray).size:=by rw[jhs];exact hlt
      have hb:(⟨l.toArray⟩:ByteArray)[m.toNat]?=some b:=by
       rw[getElem?_pos (⟨l.toArray⟩:ByteArray) m.toNat hsz];have:l[m.toNat]=b:=(gsi.1 h5).2;rw[<- this];rfl
      rw[hi,hx];simp[Instr.index,asIntOf,run_underlying (jbk h1),hm,hb]
     cases h4
    cases h4
   cases e
 .rename_i t x lo hi;split at e
  .rename_i xv lov hiv h1 h2 h3;simp only[msi] at e;obtain⟨v,h4,rfl⟩:=e;obtain⟨r,hr,hv⟩:=qhp (P:=P) (show Rep F xv (ρc x) from G.opr x _ h1) h4 (jgr G h2) (jgr G h3) w;exact⟨r,cb hr,hv⟩
  .rename_i id off m size lov hiv h1 h2 h3;split at e
   .rename_i hs;simp only[msi] at e;obtain⟨⟨a,b⟩,hc,rfl⟩:=e;simp only[msi] at hs;obtain⟨⟨e',n⟩,hsl,rfl⟩:=hs;obtain⟨hu,hsz,hz⟩:=je hsl;simp only at *;obtain⟨inf,hi0⟩:=mq (P:=P) (t:=e') omq;obtain⟨g1,g2,_,_⟩:=jh1 hc;obtain⟨cap,hc1,hc2,hc3,hv⟩:=show ∃cap,m<=cap/\cap<=maxLen/\0<m/\ρc x=_ from G.opr x _ h1
    have hb:=jgm (P:=P) (F:=F) (isS:=true) (n:=m) (cap:=cap) hc hc1 (jgr G h2) (jgr G h3) w;refine⟨.slice (if cap=a then some ⟨ρ id,off,none⟩ else some ((⟨ρ id,off,none⟩:Addr).add (a*n))) (b-a) (cap-a),cb ?_,?_⟩
    .rw[hv];exact zec
    simp only[cutS];by_cases hab:a=b
    .rw[um hab];subst hab;have:(a-a)=([]:List (List V)).length:=by simp
     show Rep F (.slice n []) _
     rw[this];split
     .exact .slice (fun _ _=>undef) smq omq smq smq smq smq
     exact .slice (fun _ _=>undef) smq omq smq smq smq smq
    rw[ul hab,ul omq,eu];exact⟨cap-a,omq,omq,omq,rfl⟩
   cases e
  cases e
 .rename_i op t x y ty';split at e
  .rename_i h1 h2;split at e
   .rename_i c;split at e
    .rename_i hu;simp only[msi] at e;obtain⟨v,h3,rfl⟩:=e;have hx:=al (G.v h1);have hy:=al (G.v h2);obtain⟨r,hr,hv,hg⟩:=qfd (P:=P) (F:=F) hu h3 w c;exact⟨r,cb (by rw[hx,hy];simp[hg x,hr]),hv⟩
    cases e
   cases e
  .rename_i xv yv h1 h2;simp only[msi] at e;obtain⟨v,h3,rfl⟩:=e;obtain⟨r,hr,hv,hg⟩:=jze (P:=P) (G.v h1) (G.v h2) h3 w;exact⟨r,cb (by simp[hg x y,hr]),hv⟩
  cases e
 .rename_i t x;split at e
  .rename_i b h1;cases e;have hv:=al (G.v h1);exact⟨.bool (!b),cb (by rw[hv];rfl),.val _⟩
  cases e
 .rename_i t x;split at e
  .rename_i k n h1;cases e;have hv:=al (G.v h1);exact⟨.int k (k.wrap (0-n)),cb (by rw[hv];rfl),.val _⟩
  cases e
 .rename_i t x;split at e
  .rename_i k n h1;cases e;have hv:=al (G.v h1);exact⟨.int k (notF k n),cb (by rw[hv];rfl),.val _⟩
  cases e
 .rename_i src dst' x;split at e
  .rename_i xv h1 h2;simp only[msi] at e;obtain⟨v,h3,rfl⟩:=e;obtain⟨ds,hs⟩:=yw.1 h1;unfold jfa at h3;split at h3
   .rename_i k0 n;split at h3
    .rename_i k hk;cases h3;have hv:=al (G.v h2);refine⟨.int k (k.wrap n),cb ?_,.val _⟩;rw[hv];simp[convert,run_underlying hs,run_underlying (jgu hk),Conv.intToInt]
    cases h3
   .rename_i l;split at h3
    .rename_i hd;cases h3;have hv:=cx (G.v h2);refine⟨.string ⟨l.toArray⟩,cb ?_,.str _⟩;rw[hv];simp[convert,run_underlying hs,run_underlying (jbk hd)]
    cases h3
   cases h3
  cases e
 .rename_i x i;split at e
  .rename_i vs h1;simp only[msi] at e;obtain⟨v,h2,rfl⟩:=e;have hr:=G.v h1;generalize hy0:ρc x=y at hr;cases hr with
   |tup hl hh=>
    rename_i xs
    have hlt:i<xs.size:=by
     have:=(gsi.1 h2).1;omega
    exact⟨xs[i],cb (by rw[hy0];simp[Instr.extract,Array.getElem?_eq_getElem hlt]),hh i v _ h2 (xk hlt)⟩
  cases e
 .rename_i f first cap
  split at e
  .rename_i h0;simp only[msi] at e;obtain⟨vs,h1,rfl⟩:=e;obtain⟨hl,hh⟩:=jtg G h1;obtain rfl:first= #[]:=Array.eq_empty_of_size_eq_zero h0
   refine⟨.func (.func f) #[] (cap.map ρc),cb (by simp[Instr.makeFunc]),.func (by simp[hl]) (fun j c x e1 e2=>hh j c x e1 ?_)⟩;rw[<- e2];simp[Array.getElem?_map,List.getElem?_map]
  cases e
 .rename_i t x i ok;split at e
  .rename_i kt et es k h1 h2 h3;split at e
   .rename_i z h5;split at e
    .rename_i hc;simp only[msi] at e;obtain⟨r,h6,rfl⟩:=e
     have hu:P.underlying t=some (.map kt et):=by
      unfold ra at h1;split at h1
      .rename_i a b hu;cases h1;exact hu
      cases h1
     have hz:(zeroValue et).run P w=.ok z w:=by
      unfold iu at h5;cases hi:P.info? et with
      |none=>rw[hi] at h5;cases h5
      |some inf=>
       rw[hi] at h5;simp only[Option.bind_some] at h5;simp[zeroValue,typeInfo,hi,h5]
     have hkd:∃d,P.underlying kt=some d:=by
      have:=hc.1;unfold keyT at this;cases hd:P.underlying kt with
      |none=>rw[hd] at this;cases k<;>simp at this
      |some d=>exact⟨d,rfl⟩
     obtain⟨d,hd⟩:=hkd;have hck:=fun em=>jis em 9999 hd hc.1 (ρc i) w
     have pair:∀ {v:V} {y:Value} (b:Bool),Rep F v y->Rep F (bif ok then .tup [v,.val (.bool b)] else v) (if ok=true then .tuple #[y,.bool b] else y):=fun {v y} b hr=>by
      cases ok with
      |false=>exact hr
      |true=>exact qov hr (.val _)
     rcases qhv G h2 with⟨hx,rfl⟩|⟨b,xs,ck,hx,g1,g2,g3⟩
     .simp only[rh,uu] at h6;subst h6;refine⟨if ok=true then .tuple #[z,.bool false] else z,cb ?_,pair false (jdn F z hc.2)⟩;rw[hx];have e0:Instr.findNow d (ρc i) [] 0=some none:=rfl;simp[Instr.lookup,run_underlying hu,hck,Instr.findKey,run_underlying hd,e0,hz]
     have hnow:=jwc (P:=P) (G.v h3) hc.1 hd es xs.toList 0 (by simp[g2]) (fun j k' v y e1 e2=>g3 j k' v y e1 zez) h6;cases r with
     |none=>
      simp only at hnow;refine⟨if ok=true then .tuple #[z,.bool false] else z,cb ?_,pair false (jdn F z hc.2)⟩;rw[hx];simp[Instr.lookup,run_underlying hu,ja4 g1,hck,Instr.findKey,run_underlying hd,hnow,hz]
     |some v=>
      simp only at hnow;obtain⟨i',y,e1,e2,e3⟩:=hnow;refine⟨if ok=true then .tuple #[y.val,.bool true] else y.val,cb ?_,pair true e3⟩;rw[hx];simp[Instr.lookup,run_underlying hu,ja4 g1,hck,Instr.findKey,run_underlying hd,e1]
    cases e
   cases e
  cases e
 .rename_i c;split at e
  .rename_i hcal;split at e
   .rename_i x t h1 h2;simp only[msi] at e;obtain⟨v,h3,rfl⟩:=e;obtain⟨y,hr,hy⟩:=qhz (P:=P) (ty:=ty) G h3;have ha:c.args= #[x]:=by apply xl;simpa using h1
    have hb:c.argTypes= #[t]:=by apply xl;simpa using h2
    refine⟨y,?_,hy⟩;simp[execOp,resolve,hcal,ha,hb,invoke,builtin,hr]
   cases e
  .rename_i hcal;split at e
   .rename_i x y h1;simp only[msi] at e;obtain⟨v,h3,rfl⟩:=e;obtain⟨k,k',m,q,g1,g2,rfl⟩:=jku h3;have ha:c.args= #[x,y]:=by apply xl;simpa using h1
    have hx:=al (G.v g1);have hy:=al (G.v g2);refine⟨_,?_,.val _⟩;simp[execOp,resolve,hcal,ha,invoke,builtin,Builtin.min_,Builtin.min2,hx,hy]
   cases e
  .rename_i hcal;split at e
   .rename_i x y h1;simp only[msi] at e;obtain⟨v,h3,rfl⟩:=e;obtain⟨k,k',m,q,g1,g2,rfl⟩:=jku h3;have ha:c.args= #[x,y]:=by apply xl;simpa using h1
    have hx:=al (G.v g1);have hy:=al (G.v g2);refine⟨_,?_,.val _⟩;simp[execOp,resolve,hcal,ha,invoke,builtin,Builtin.max_,Builtin.max2,hx,hy]
   cases e
  cases e
 cases e
def jeq(F:Frz)(b n:Nat)(xs:Array Value):Frz:= { c:=fun p=>if p.block=b/\p.spot=none/\p.off<n then xs[p.off]? else F p,m:=F.m }
theorem jdk(F:Frz)(b n:Nat)(xs:Array Value)(p:Addr):jeq F b n xs p=if p.block=b/\p.spot=none/\p.off<n then xs[p.off]? else F p:=rfl
theorem lx(hF:Sees F w){b:Nat}{xs:Array MapEntry×Nat}(e:F.m b=some xs):b<w.heap.size:=by
 obtain⟨ck,h⟩:=hF.m b xs e;rcases vo b w.heap.size with hlt|hge
 .exact hlt
 rw[yo hge] at h;cases h
theorem jii(hF:Sees F w){b:Nat}{xs:Array Value}{fz:Nat×Nat}(h:w.heap[b]?=some (.cells xs t fz)):F.m b=none:=by
 cases e:F.m b with
 |none=>rfl
 |some ys=>obtain⟨ck,h2⟩:=hF.m b ys e;rw[h] at h2;cases h2
theorem ql7(hF:Sees F w):F.m w.heap.size=none:=by
 cases e:F.m w.heap.size with
 |none=>rfl
 |some ys=>exact absurd (lx hF e) (qvz _)
theorem jwh(hF:Sees F w)(n:Nat)(xs:Array Value)(e:TypeId):Ext F w (jeq F w.heap.size n xs) (w.alloc (.cells xs e)):=by
 have hno:∀p v,F p=some v->p.block<w.heap.size:=fun p v hp=>jas (hF p v hp);refine⟨⟨fun p v hp=>?_,fun _ _ e=>e⟩,⟨fun p v hp=>?_,fun b xs e=>?_⟩,fun p v hp=>?_,fun _ _ e=>.inl e,(Below.refl _ _).alloc (uv _) _⟩
 .have:=hno p v hp;rw[jdk,ul omq];exact hp
 .rw[jdk] at hp;split at hp
  .rename_i hb;obtain⟨b,o,s⟩:=p;simp only at hb hp;obtain⟨rfl,rfl,_⟩:=hb
   have:(w.alloc (.cells xs e)).heap[w.heap.size]?=some (.cells xs e (0,0)):=by
    show (w.heap.push _)[w.heap.size]?=_
    simp
   unfold World.cell?;rw[this];simp[hp]
  have:=hF p v hp;rw[World.cell?_of_block (w:=w) (Below.heap_alloc w _ _ (hno p v hp))];exact this
 .obtain⟨ck,h⟩:=hF.m b xs e;exact⟨ck,(Below.heap_alloc w _ _ (lx hF e)).trans h⟩
 rw[jdk] at hp;split at hp
 .rename_i hb;right;omega
 exact .inl hp
def oneV:V->Bool
 |.agg _=>true
 |v=>v.one
theorem jbd{v:V}(hr:Rep F v x)(ho:oneV v=true):
  x.cells.size=v.cells.length/\(∀c∈v.cells,c.one=true)/\∀(j:Nat) c y,v.cells[j]?=some c->x.cells[j]?=some y->Rep F c y:=by
 cases hr with
 |agg hl hone hh=>exact⟨hl,hone,hh⟩
 |tup hl hh=>cases ho
 |val=>
  have hu:x.cells= #[x]:=by cases x<;>first|rfl|(simp[oneV,V.one,Value.oneCell'] at ho)
  refine⟨by simp[hu,V.cells],fun c hc=>by simp[V.cells] at hc;subst hc;exact ho,fun j c y h1 h2=>?_⟩;rw[hu] at h2;cases j with
  |zero=>simp[V.cells] at h1 h2;subst h1 h2;exact .val _
  |succ j=>simp[V.cells] at h1
 |str l=>
  refine⟨rfl,fun c hc=>by simp[V.cells] at hc;subst hc;rfl,fun j c y h1 h2=>?_⟩;cases j with
  |zero=>simp[V.cells,Value.cells] at h1 h2;subst h1 h2;exact .str _
  |succ j=>simp[V.cells] at h1
 |snil=>
  refine⟨rfl,fun c hc=>by simp[V.cells] at hc;subst hc;rfl,fun j c y h1 h2=>?_⟩;cases j with
  |zero=>simp[V.cells,Value.cells] at h1 h2;subst h1 h2;exact .snil
  |succ j=>simp[V.cells] at h1
 |slice g hc hm hs ho' hg hr=>
  refine⟨rfl,fun c hc=>by simp[V.cells] at hc;subst hc;rfl,fun j c y h1 h2=>?_⟩;cases j with
  |zero=>simp[V.cells,Value.cells] at h1 h2;subst h1 h2;exact .slice g hc hm hs ho' hg hr
  |succ j=>simp[V.cells] at h1
 |row g ho' hg hr=>
  refine⟨rfl,fun c hc=>by simp[V.cells] at hc;subst hc;rfl,fun j c y h1 h2=>?_⟩;cases j with
  |zero=>simp[V.cells,Value.cells] at h1 h2;subst h1 h2;exact .row g ho' hg hr
  |succ j=>simp[V.cells] at h1
 |func hl hh=>
  refine⟨rfl,fun c hc=>by simp[V.cells] at hc;subst hc;rfl,fun j c y h1 h2=>?_⟩;cases j with
  |zero=>simp[V.cells,Value.cells] at h1 h2;subst h1 h2;exact .func hl hh
  |succ j=>simp[V.cells] at h1
 |ifc t u=>
  refine⟨rfl,fun c hc=>by simp[V.cells] at hc;subst hc;rfl,fun j c y h1 h2=>?_⟩;cases j with
  |zero=>simp[V.cells,Value.cells] at h1 h2;subst h1 h2;exact .ifc _ _
  |succ j=>simp[V.cells] at h1
 |map hb hl hl' hk hv=>
  refine⟨rfl,fun c hc=>by simp[V.cells] at hc;subst hc;rfl,fun j c y h1 h2=>?_⟩;cases j with
  |zero=>simp[V.cells,Value.cells] at h1 h2;subst h1 h2;exact .map hb hl hl' hk hv
  |succ j=>simp[V.cells] at h1
theorem qan(xs:Array Value)(off:Nat):∀(l:List Value) (k:Nat) (i:Nat),off+k+l.length<=xs.size->
  ((l.zipIdx k).foldl (fun cs (c,j)=>cs.setIfInBounds (off+j) c) xs)[i]?=if off+k<=i/\i<off+k+l.length then l[i-(off+k)]? else xs[i]? := by
 intro l
 induction l generalizing xs with
 |nil=>intro k i _;simp;intro h1 h2;omega
 |cons c l ih=>
  intro k i hb;simp only[List.zipIdx_cons,List.foldl_cons,List.length_cons] at hb ⊢;rw[ih (xs.setIfInBounds (off+k) c) (k+1) i zew];by_cases h1:off+(k+1)<=i/\i<off+(k+1)+l.length
  .rw[um h1,um omq];have:i-(off+k)=(i-(off+(k+1)))+1:=omq;rw[this,List.getElem?_cons_succ]
  rw[ul h1];by_cases h2:i=off+k
  .subst h2;rw[um omq];have hlt:off+k<xs.size:=omq;simp[hlt]
  rw[ul omq,qwi omq]
theorem jmc(xs:Array Value)(off:Nat):∀(l:List Value) (k:Nat),((l.zipIdx k).foldl (fun cs (c,j)=>cs.setIfInBounds (off+j) c) xs).size=xs.size:=by
 intro l
 induction l generalizing xs with
 |nil=>intro k;rfl
 |cons c l ih=>intro k;simp only[List.zipIdx_cons,List.foldl_cons];rw[ih];simp
def cz(cs:List V)(off:Nat)(news:List V):List V:=cs.take off++news++cs.drop (off+news.length)
theorem mu{cs:List V}(hb:off+news.length<=cs.length)(i:Nat):
  (cz cs off news)[i]?=if off<=i/\i<off+news.length then news[i-off]? else cs[i]? := by
 unfold cz;by_cases h1:i<off
 .rw[ul omq,vt,xb zew,xt,um h1]
 by_cases h2:i<off+news.length
 .rw[um omq,vt,xe zew,xb zew];congr 1;simp;omega
 rw[ul omq,vt,xe zew,xe zew,qwh];congr 1;simp;omega
theorem jbb{cs:List V}(hb:off+news.length<=cs.length):(cz cs off news).length=cs.length:=by
 unfold cz;simp;omega
def pu(pl:Nat->Option (Nat×Nat)):List V->List (Nat×V)->Option (List V)
 |cs,[]=>some cs
 |cs,(i,v)::r=>match pl i with
  |none=>none
  |some (off,size)=>if v.cells.length=size/\off+size<=cs.length/\oneV v=true then pu pl (cz cs off v.cells) r else none
theorem jj5(pl:Nat->Option (Nat×Nat)):∀(ps:List (Nat×V)) (qs:List (Nat×Value)) (cs r:List V) (xs:Array Value),
  xs.size=cs.length->(∀c∈cs,c.one=true)->(∀(j:Nat) c y,cs[j]?=some c->xs[j]?=some y->Rep F c y)->
  qs.length=ps.length->(∀(j:Nat) i v i' y,ps[j]?=some (i,v)->qs[j]?=some (i',y)->i'=i/\Rep F v y)->pu pl cs ps=some r->
  ∃ys,Instr.fill pl xs qs=some ys/\ys.size=r.length/\(∀c∈r,c.one=true)/\∀(j:Nat) c y,r[j]?=some c->ys[j]?=some y->Rep F c y
 |[],[],cs,r,xs,h1,h2,h3,_,_,e=>by
  simp only[pu,uu] at e;subst e;exact⟨xs,rfl,h1,h2,h3⟩
 |[],_::_,_,_,_,_,_,_,hl,_,_=>by simp at hl
 |_::_,[],_,_,_,_,_,_,hl,_,_=>by simp at hl
 |(i,v)::ps,(i',x)::qs,cs,r,xs,h1,h2,h3,hl,hh,e=>by
  obtain⟨rfl,hr⟩:=hh 0 i v i' x rfl rfl;simp only[pu] at e;cases hp:pl i' with
  |none=>rw[hp] at e;cases e
  |some os=>
   obtain⟨off,size⟩:=os;rw[hp] at e;simp only at e;split at e
   .rename_i hc;obtain⟨c1,c2,c3⟩:=hc;obtain⟨s1,s2,s3⟩:=jbd hr c3;subst c1;have hlen:x.cells.toList.length=v.cells.length:=by simpa using s1
    have hfill:Instr.fill pl xs ((i',x)::qs)=Instr.fill pl (x.cells.zipIdx.foldl (fun cs (c,j)=>cs.setIfInBounds (off+j) c) xs) qs:=by
     simp only[Instr.fill,hp];rw[ul zew]
    have hfold:x.cells.zipIdx.foldl (fun cs (c,j)=>cs.setIfInBounds (off+j) c) xs=(x.cells.toList.zipIdx 0).foldl (fun cs (c,j)=>cs.setIfInBounds (off+j) c) xs:=by
     rw[<- Array.foldl_toList];simp
    rw[hfill,hfold];have hget:=fun i=>qan xs off x.cells.toList 0 i zew;refine jj5 pl ps qs _ r _ (by rw[jmc,jbb c2];exact h1) ?_ ?_ ze4 (fun j a b c d e1 e2=>hh (j+1) a b c d ze5 zez) e
    .intro c hc;obtain⟨j,hj⟩:=xc hc;rw[mu c2] at hj;split at hj
     .exact s2 c (vc hj)
     exact h2 c (vc hj)
    intro j c y e1 e2;rw[hget] at e2;rw[mu c2] at e1;simp only[Nat.add_zero,hlen] at e2;split at e1
    .rename_i hin;rw[um hin] at e2;exact s3 _ c y e1 zez
    rename_i hin;rw[ul hin] at e2;exact h3 j c y e1 e2
   cases e
def nl(ρ:Operand->Option TV):List (Nat×Operand)->Option (List (Nat×V))
 |[]=>some []
 |(i,x)::r=>match vOf (ρ x),nl ρ r with
  |some v,some vs=>some ((i,v)::vs)
  |_,_=>none
theorem jiu(G:Good F w ρ h ρa ρc):∀ {l:List (Nat×Operand)} {vs:List (Nat×V)},nl ρa l=some vs->
  (l.map fun(i,x)=>(i,ρc x)).length=vs.length/\∀(j:Nat) i v i' x,vs[j]?=some (i,v)->(l.map fun(i,x)=>(i,ρc x))[j]?=some (i',x)->i'=i/\Rep F v x
 |[],vs,e=>by simp[nl] at e;subst e;simp
 |(i,x)::r,vs,e=>by
  simp only[nl] at e;split at e
  .rename_i v vs' h1 h2;cases e;obtain⟨hl,hh⟩:=jiu G h2;refine⟨by simpa using hl,fun j a b c d e1 e2=>?_⟩;cases j with
   |zero=>
    simp only[List.getElem?_cons_zero,uu,vl,xd] at e1 e2;obtain⟨rfl,rfl⟩:=e1;obtain⟨rfl,rfl⟩:=e2;exact⟨rfl,G.v h1⟩
   |succ j=>
    simp only[List.getElem?_cons_succ,vl] at e1 e2;exact hh j a b c d e1 e2
  cases e
def jhw(P:Program)(t:TypeId):Option (List (Nat×Nat)):=
 match P.underlying t with
 |some (.struct fs)=>fs.toList.mapM fun f=>(P.info? f.type).map fun i=>(f.offset,i.size)
 |some (.array n e)=>(P.info? e).map fun i=>(List.range n).map fun j=>(j*i.size,i.size)
 |_=>none
theorem juc{pl pl':Nat->Option (Nat×Nat)}(hp:∀i x,pl i=some x->pl' i=some x):∀(ps:List (Nat×V)) (cs r:List V),pu pl cs ps=some r->pu pl' cs ps=some r
 |[],cs,r,e=>e
 |(i,v)::ps,cs,r,e=>by
  simp only[pu] at e ⊢;cases h1:pl i with
  |none=>rw[h1] at e;cases e
  |some q=>
   obtain⟨off,size⟩:=q;rw[h1] at e;rw[hp i _ h1];simp only at e ⊢;split at e
   .rename_i hc;rw[um hc];exact juc hp ps _ r e
   cases e
def lm(P:Program)(t:TypeId):Option (List V):=(iu P t).bind fun z=>if si z=true/\oneV (qz z)=true then some (qz z).cells else none
def bsV(size:Nat):List (Nat×V)->Nat->Option (List (List V))
 |[],_=>some []
 |(i,v)::r,k=>if i=k/\v.cells.length=size/\oneV v=true then(bsV size r (k+1)).map (v.cells :: ·) else none
def evb(P:Program)(ρ:Operand->Option TV)(o:Op):Option V:=
 match o with
 |.build t parts=>match jhw P t,lm P t,nl ρ parts.toList with
  |some pl,some zs,some ps=>(pu (pl[·]?) zs ps).map .agg
  |_,_,_=>none
 |.buildSlice t len parts=>match slV P t,nl ρ parts.toList with
  |some (e,size),some ps=>if ps.length=len/\len*size<=16777216/\(iu P e).isSome=true then(bsV size ps 0).map (.slice size) else none
  |_,_=>none
 |_=>none
theorem jd0{zs:List V}(e:lm P t=some zs):
  ∃z,(zeroValue t).run P w=.ok z w/\z.cells.size=zs.length/\(∀c∈zs,c.one=true)/\∀(j:Nat) c y,zs[j]?=some c->z.cells[j]?=some y->Rep F c y:=by
 unfold lm at e;simp only[yl] at e;obtain⟨z,hz,e⟩:=e;split at e
 .rename_i hc;cases e;obtain⟨h1,h2,h3⟩:=jbd (jdn F z hc.1) hc.2;refine⟨z,?_,h1,h2,h3⟩;unfold iu at hz;cases hi:P.info? t with
  |none=>rw[hi] at hz;cases hz
  |some inf=>
   rw[hi] at hz;simp only[Option.bind_some] at hz;simp[zeroValue,typeInfo,hi,hz]
 cases e
theorem qbr(size:Nat):∀(ps:List (Nat×V)) (qs:List (Nat×Value)) (k:Nat) (es:List (List V)) (xs:Array Value),
  qs.length=ps.length->(∀(j:Nat) i v i' y,ps[j]?=some (i,v)->qs[j]?=some (i',y)->i'=i/\Rep F v y)->bsV size ps k=some es->(k+ps.length)*size=xs.size->
  ∃ys,Instr.fill (fun i=>some (i*size,size)) xs qs=some ys/\ys.size=xs.size/\es.length=ps.length/\(∀e∈es,e.length=size)/\(∀e∈es,∀c∈e,c.one=true)/\
   (∀i,i<k*size->ys[i]?=xs[i]?)/\∀(i j:Nat) e c,es[i]?=some e->e[j]?=some c->∃y,ys[(k+i)*size+j]?=some y/\Rep F c y
 |[],[],k,es,xs,_,_,e,_=>by
  simp only[bsV,uu] at e;subst e;exact⟨xs,rfl,rfl,rfl,smq,smq,fun _ _=>rfl,smq⟩
 |[],_::_,_,_,_,hl,_,_,_=>by simp at hl
 |_::_,[],_,_,_,hl,_,_,_=>by simp at hl
 |(i,v)::ps,(i',x)::qs,k,es,xs,hl,hh,e,hsz=>by
  obtain⟨rfl,hr⟩:=hh 0 i v i' x rfl rfl;simp only[bsV] at e;split at e
  .rename_i hc;obtain⟨rfl,c2,c3⟩:=hc;simp only[msi] at e;obtain⟨es',he',rfl⟩:=e;obtain⟨s1,s2,s3⟩:=jbd hr c3;have hlen:x.cells.toList.length=size:=by simpa [c2] using s1
   have hxs:x.cells.size=size:=by simpa using hlen
   have hbig:i'*size+size<=xs.size:=by
    rw[<- hsz];simp only[List.length_cons];have:(i'+(ps.length+1))*size=i'*size+ps.length*size+size:=by rw[yd,yd];omega
    omega
   have hfold:x.cells.zipIdx.foldl (fun cs (c,j)=>cs.setIfInBounds (i'*size+j) c) xs=(x.cells.toList.zipIdx 0).foldl (fun cs (c,j)=>cs.setIfInBounds (i'*size+j) c) xs:=by
    rw[<- Array.foldl_toList];simp
   have hfill:Instr.fill (fun i=>some (i*size,size)) xs ((i',x)::qs)=Instr.fill (fun i=>some (i*size,size)) ((x.cells.toList.zipIdx 0).foldl (fun cs (c,j)=>cs.setIfInBounds (i'*size+j) c) xs) qs:=by
    simp only[Instr.fill];rw[ul (by simp[hxs];omega),hfold]
   have hget:=fun i=>qan xs (i'*size) x.cells.toList 0 i omq;have hm1:(i'+1)*size=i'*size+size:=by rw[yd];omega
   obtain⟨ys,h1,h2,h3,h4,h5,h6,h7⟩:=qbr size ps qs (i'+1) es' ((x.cells.toList.zipIdx 0).foldl (fun cs (c,j)=>cs.setIfInBounds (i'*size+j) c) xs) ze4 (fun j a b c d e1 e2=>hh (j+1) a b c d ze5 zez) he'
    (by rw[jmc,<- hsz];simp only[List.length_cons];congr 1;omega)
   rw[jmc] at h2;refine⟨ys,by rw[hfill,h1],h2,by simp[h3],?_,?_,?_,?_⟩
   .intro e he;rcases vg.1 he with rfl|he
    .exact c2
    exact h4 e he
   .intro e he;rcases vg.1 he with rfl|he
    .exact s2
    exact h5 e he
   .intro i hi;rw[h6 i omq,hget];rw[ul omq]
   intro a j e c e1 e2;cases a with
   |zero=>
    simp only[List.getElem?_cons_zero,uu] at e1;subst e1
    have hj:j<size:=by
     have:=(gsi.1 e2).1;omega
    have hjx:j<x.cells.toList.length:=omq;refine⟨x.cells.toList[j],?_,s3 j c _ e2 (by simp[hxs,hj])⟩;rw[h6 _ (by simp only[Nat.add_zero];omega),hget,um (by simp only[Nat.add_zero];omega)];simp[hxs,hj]
   |succ a=>
    simp only[List.getElem?_cons_succ] at e1;obtain⟨y,hy,hry⟩:=h7 a j e c e1 e2;refine⟨y,?_,hry⟩;rw[<- hy];congr 2;congr 1;omega
  cases e
theorem jzd(G:Good F w ρ h ρa ρc)(o:Oper){len:Nat}{parts:Array (Nat×Operand)}{v:V}(ho:o.op=.buildSlice t len parts)(e:evb P ρa o.op=some v):
  ∃x F' w',(execOp ρc o).run P w=.ok (.value x) w'/\Ext F w F' w'/\Rep F' v x/\
   ∃e' size ys,slV P t=some (e',size)/\x=.slice (some ⟨w.heap.size,0,none⟩) len len/\len<=maxLen/\w'=w.alloc (.cells ys e')/\ys.size=len*size/\∀p v,F' p=some v->p.block=w.heap.size->p.off<len*size:=by
 obtain⟨dst,op,ty,pos,after,guard⟩:=o;simp only at ho;subst ho;unfold evb at e;simp only at e;split at e
 .rename_i e' size ps h1 h2;split at e
  .rename_i hc;simp only[msi] at e;obtain⟨es,h4,rfl⟩:=e;obtain⟨hu,hsz,hz⟩:=je h1;obtain⟨inf,hi⟩:=mq (P:=P) (t:=e') omq;obtain⟨p1,p2⟩:=jiu G h2;have hmap:(parts.map fun(i,x)=>(i,ρc x)).toList=parts.toList.map fun(i,x)=>(i,ρc x):=by simp
   have key:∀(xs:Array Value),xs.size=len*size->∃ys F',Instr.fill (fun i=>some (i*size,size)) xs (parts.toList.map fun(i,x)=>(i,ρc x))=some ys/\
     Ext F w F' (w.alloc (.cells ys e'))/\Rep F' (.slice size es) (.slice (some ⟨w.heap.size,0,none⟩) len len)/\len<=maxLen/\ys.size=len*size/\∀p v,F' p=some v->p.block=w.heap.size->p.off<len*size:=by
    intro xs hxs;obtain⟨ys,y1,y2,y3,y4,y5,_,y7⟩:=qbr (F:=F) size ps _ 0 es xs p1 p2 h4 (by rw[hxs,hc.1];simp);have hx:=jwh (w:=w) G.sees ys.size ys e';have hl:es.length=len:=by rw[y3];exact hc.1
    have hlm:len<=maxLen:=by
     have:len*1<=len*size:=Nat.mul_le_mul_left _ omq;unfold maxLen;omega
    refine⟨ys,_,y1,hx,?_,hlm,y2.trans hxs,fun p v hp hb=>?_⟩
    rotate_left
    .rw[jdk] at hp;split at hp
     .rename_i hc2;have:=hc2.2.2;rw[y2,hxs] at this;exact this
     have:=jas (G.sees p v hp);omega
    rw[<- hl];refine .slice (fun i j=>ys.getD (i*size+j) undef) omq omq y4 y5 (fun i j e c e1 e2=>?_) (fun i j e c e1 e2=>?_)
    .obtain⟨y,g1,g2⟩:=y7 i j e c e1 e2;simp only[vx] at g1;have hlt:=(asi.1 g1).1;rw[eu,vx];rw[jdk];rw[um ⟨rfl,rfl,hlt⟩];simp[hlt]
    obtain⟨y,g1,g2⟩:=y7 i j e c e1 e2;simp only[vx] at g1;have hlt:=(asi.1 g1).1;have:y=ys[i*size+j]:=by simpa [hlt] using g1.symm
    subst this;simp only[qwj,xk hlt,Option.getD_some];exact g2.mono hx.le
   obtain⟨z,hz'⟩:=yw.1 hc.2.2
   have hzr:(zeroValue e').run P w=.ok z w:=by
    unfold iu at hz';rw[hi] at hz';simp only[Option.bind_some] at hz';simp[zeroValue,typeInfo,hi,hz']
   have hle:¬(len*size > 16777216):=omq;by_cases h0:len*size=0
   .obtain⟨ys,F',k1,k2,k3,k4,k5,k6⟩:=key ((Array.range (len*size)).map fun i=>(#[]:Array Value)[i % (#[]:Array Value).size]!) smq;refine⟨.slice (some ⟨w.heap.size,0,none⟩) len len,F',w.alloc (.cells ys e'),cb ?_,k2,k3,e',size,ys,h1,rfl,k4,rfl,k5,k6⟩;simp only[Instr.buildSlice,Sem.run_bind,run_underlying hu,Result.andThen_ok,ja hi,hsz,qwu];rw[ul hle,um h0];simp only[Sem.run_pure,Sem.run_bind,Result.andThen_ok];rw[k1];rfl
   obtain⟨ys,F',k1,k2,k3,k4,k5,k6⟩:=key ((Array.range (len*size)).map (z.cells[· % z.cells.size]!)) smq;refine⟨.slice (some ⟨w.heap.size,0,none⟩) len len,F',w.alloc (.cells ys e'),cb ?_,k2,k3,e',size,ys,h1,rfl,k4,rfl,k5,k6⟩;simp only[Instr.buildSlice,Sem.run_bind,run_underlying hu,Result.andThen_ok,ja hi,hsz,qwu];rw[ul hle,ul h0];simp only[Sem.run_pure,Sem.run_bind,Result.andThen_ok,hzr];rw[k1];rfl
  cases e
 cases e
theorem jwj(G:Good F w ρ h ρa ρc)(o:Oper){v:V}(e:evb P ρa o.op=some v):
  ∃x F' w',(execOp ρc o).run P w=.ok (.value x) w'/\Ext F w F' w'/\Rep F' v x:=by
 obtain⟨dst,op,ty,pos,after,guard⟩:=o;simp only at e;unfold evb at e;split at e
 .rename_i t parts;split at e
  .rename_i pl zs ps h1 h2 h3;simp only[msi] at e;obtain⟨cs,h4,rfl⟩:=e;obtain⟨z,z1,z2,z3,z4⟩:=jd0 (P:=P) (F:=F) (w:=w) h2;obtain⟨p1,p2⟩:=jiu G h3;obtain⟨ys,y1,y2,y3,y4⟩:=jj5 (F:=F) _ ps _ zs cs z.cells z2 z3 z4 p1 p2 h4;unfold jhw at h1;split at h1
   .rename_i fs hu;have hp:=run_places (P:=P) w fs.toList pl h1;have hmap:(parts.map fun(i,x)=>(i,ρc x)).toList=parts.toList.map fun(i,x)=>(i,ρc x):=by simp
    refine⟨.agg ys,F,w,?_,Ext.refl G.sees,.agg y2 y3 y4⟩;refine cb ?_;have y1':Instr.fill (fun i=>pl[i]?) z.cells ((parts.map fun(i,x)=>(i,ρc x)).toList)=some ys:=by rw[hmap];exact y1
    simp only[qwu] at y1';simp[Instr.build,run_underlying hu,z1,Array.mapM_eq_mapM_toList,hp,y1']
   .rename_i n e hu;simp only[msi] at h1;obtain⟨inf,hi,rfl⟩:=h1
    have h4':=juc (pl':=fun i=>some (i*inf.size,inf.size)) (fun i x hx=>by
     simp only[vm,msi] at hx;obtain⟨a,ha,rfl⟩:=hx;have:=gsi.1 ha;obtain⟨hl,hl'⟩:=this;simp at hl';subst hl'
     rfl) _ _ _ h4
    obtain⟨ys,y1,y2,y3,y4⟩:=jj5 (F:=F) _ ps _ zs cs z.cells z2 z3 z4 p1 p2 h4';have hmap:(parts.map fun(i,x)=>(i,ρc x)).toList=parts.toList.map fun(i,x)=>(i,ρc x):=by simp
    refine⟨.agg ys,F,w,?_,Ext.refl G.sees,.agg y2 y3 y4⟩;refine cb ?_;have y1':Instr.fill (fun i=>some (i*inf.size,inf.size)) z.cells ((parts.map fun(i,x)=>(i,ρc x)).toList)=some ys:=by rw[hmap];exact y1
    simp only[qwu] at y1';have hsz:P.cellsOf e=inf.size:=by simp[Program.cellsOf,hi]
    simp[Instr.build,run_underlying hu,z1,ja hi,hsz,y1']
   cases h1
  cases e
 .rename_i t len parts;obtain⟨x,F',w',h1,h2,h3,-⟩:=jzd G ⟨dst,.buildSlice t len parts,ty,pos,after,guard⟩ rfl (v:=v) (by unfold evb;exact e);exact⟨x,F',w',h1,h2,h3⟩
 cases e
end Go.Ab
namespace Go.Ab
variable {P : Program}{r : Option Nat}
def fc(r:Option Nat):Fence:= { Fence.wide with round:=r }
abbrev wpG(r:Option Nat)(P:Program)(c:Code)(Q:Exit->Act->World->Prop)(a:Act)(w:World):Prop:=c.wpIn (fc r) 0 P Q a w
abbrev opG(r:Option Nat)(P:Program)(o:Oper)(a:Act)(w:World)(next:Act->World->Prop)(Q:Exit->Act->World->Prop):Prop:=o.wpIn (fc r) 0 P a w next Q
theorem qqp{f:FuncId}{args:Array Value}{w:World}{n:Nat}{R:Ending->World->Prop}(h:Calls P f args w R):CallsIn (fc r) n P f args w R:=
 match r with
 |none=>callsIn_wide.2 h
 |some l=>CallsIn.inRound l (callsIn_wide.2 h)
theorem jkt{o:Oper}{ρ:Operand->Value}{x:Next}{w w':World}(hr:(execOp ρ o).run P w=.ok x w')(hx:∀d,x≠ .defer d)(c:Go.Call):o.op≠ .defer c:=fun h=>by
 unfold execOp at hr;rw[h] at hr;simp only[Sem.run_bind] at hr;cases hs:(resolve ρ c o.type).run P w with
 |ok d w1=>
  rw[hs] at hr;simp only[Result.andThen_ok,Sem.run_pure,Result.ok.injEq] at hr;exact hx d hr.1.symm
 |halt h w1=>rw[hs] at hr;simp[Result.andThen] at hr
variable {o : Oper}{a : Act}{w w' : World}{next : Act -> World -> Prop}{Q : Exit -> Act -> World -> Prop}
theorem cq{y:Value}(hr:(execOp a.eval o).run P w=.ok (.value y) w')(k:next (a.put o.dst y) w'):opG r P o a w next Q:=by
 refine⟨fun _ _=>trivial,?_⟩;rw[Oper.semAt_eq _ _ _ (jkt hr (fun d h=>by cases h)),hr];exact k
theorem jm1(hr:(execOp a.eval o).run P w=.ok .skip w')(k:next (a.put o.dst undef) w'):opG r P o a w next Q:=by
 refine⟨fun _ _=>trivial,?_⟩;rw[Oper.semAt_eq _ _ _ (jkt hr (fun d h=>by cases h)),hr];exact k
theorem tc {f:FuncId} {args:Array Value} (hr:(execOp a.eval o).run P w=.ok (.enter f args) w') (k:Calls P f args w' fun
  |.returned v,w''=>next (a.put o.dst v) w''
  |.panicked chain,w''=>Q (.panic chain) a w''
  |.outgrown,_=>LetsOut Q):opG r P o a w next Q:=by
 refine⟨fun _ _=>trivial,?_⟩;rw[Oper.semAt_eq _ _ _ (jkt hr (fun d h=>by cases h)),hr];exact⟨fun h=>(by cases h),qqp k⟩
theorem jrf{c:Code}(I:Nat->Act->World->Prop)(n₀:Nat)(h₀:I n₀ a w) 
  (round:∀n a w,I n a w->wpG r P c (Exit.then (fun a' w'=>∃n',n'<n/\I n' a' w') Q) a w):wpG r P (Code.loop c) Q a w:=by
 refine wpIn_loop (fun a w=>∃n,I n a w) (fun a w=>leastOf (fun n=>I n a w)) ⟨n₀,h₀⟩ ?_;intro a w hI;refine wpIn_mono (round _ a w (leastOf_spec hI).1) ?_;intro e a' w' hq;cases e with
 |normal=>
  obtain⟨n',hlt,hI'⟩:=hq;exact show (∃n,I n a' w')/\leastOf (fun n=>I n a' w')<leastOf (fun n=>I n a w) from⟨⟨n',hI'⟩,Nat.lt_of_le_of_lt ((leastOf_spec ⟨n',hI'⟩).2 n' hI') hlt⟩
 |exit id=>exact hq
 |goto l=>exact hq
 |ret=>exact hq
 |panic ch=>exact hq
 |outgrown=>exact hq
end Go.Ab
