/- A part of this claim. -/
import Derived.Calls
import Derived.Orders
import Derived.Still
import Derived.Deep.LoopGhost
import Derived.Below
import Derived.Maps.AppendAt
import Derived.Laws.Cells
import Derived.IntWalk
import Derived.Laws.StructEq
import Derived.Lib.SmallJoins
import Derived.WideShapes
import Derived.MapKept
import Derived.Laws.Tables
import Derived.CallsIn
import Derived.OrdersIn
import Derived.RangeFuncCalls
import Derived.RangeFuncIn
import Derived.KernelRfl
set_option maxHeartbeats 1000000
theorem vd:type_of%@if_neg:=@if_neg
theorem ve:type_of%@if_pos:=@if_pos
theorem vf:type_of%@eq_false:=@eq_false
theorem vg:type_of%@eq_true:=@eq_true
theorem vj:type_of%@Nat.zero_le:=@Nat.zero_le
theorem vk:type_of%@Option.some.injEq:=@Option.some.injEq
theorem vl:type_of%@decide_eq_true:=@decide_eq_true
theorem vm:type_of%@List.length_map:=@List.length_map
theorem vn:type_of%@Bool.and_eq_true:=@Bool.and_eq_true
theorem vo:type_of%@Nat.le_refl:=@Nat.le_refl
theorem vp:type_of%@List.mem_of_getElem?:=@List.mem_of_getElem?
theorem vq:type_of%@decide_eq_true_eq:=@decide_eq_true_eq
theorem vr:type_of%@List.length_append:=@List.length_append
theorem vt:type_of%@List.mem_cons:=@List.mem_cons
theorem vw:type_of%@decide_eq_false:=@decide_eq_false
theorem vy:type_of%@List.map_cons:=@List.map_cons
theorem vz:type_of%@and_self_right:=@and_self_right
theorem xa:type_of%@and_self_left:=@and_self_left
theorem xb:type_of%@List.append_assoc:=@List.append_assoc
theorem xc:type_of%@Nat.le_trans:=@Nat.le_trans
theorem xd:type_of%@List.append_nil:=@List.append_nil
theorem xe:type_of%@List.getElem?_map:=@List.getElem?_map
theorem xf:type_of%@if_true:=@if_true
theorem xg:type_of%@and_self:=@and_self
theorem xi:type_of%@List.all_eq_true:=@List.all_eq_true
theorem xj:type_of%@of_decide_eq_true:=@of_decide_eq_true
theorem xk:type_of%@Nat.lt_or_ge:=@Nat.lt_or_ge
theorem xl:type_of%@Nat.zero_add:=@Nat.zero_add
theorem xm:type_of%@List.getElem?_of_mem:=@List.getElem?_of_mem
theorem xn:type_of%@List.mem_singleton:=@List.mem_singleton
theorem xo:type_of%@Prod.mk.injEq:=@Prod.mk.injEq
theorem xp:type_of%@List.getElem?_append_left:=@List.getElem?_append_left
theorem xq:type_of%@List.length_take:=@List.length_take
theorem xt:type_of%@Option.some.inj:=@Option.some.inj
theorem xu:type_of%@Array.getElem?_eq_getElem:=@Array.getElem?_eq_getElem
theorem xw:type_of%@List.length_drop:=@List.length_drop
theorem xx:type_of%@or_false:=@or_false
theorem xy:type_of%@if_false:=@if_false
theorem xz:type_of%@List.map_append:=@List.map_append
theorem ya:type_of%@List.mem_map:=@List.mem_map
theorem yb:type_of%@List.getElem?_append_right:=@List.getElem?_append_right
theorem yc:type_of%@List.length_set:=@List.length_set
theorem yd:type_of%@List.any_eq_true:=@List.any_eq_true
theorem ye:type_of%@List.take_of_length_le:=@List.take_of_length_le
theorem yf:type_of%@List.any_eq_false:=@List.any_eq_false
theorem yg:type_of%@List.eq_nil_of_length_eq_zero:=@List.eq_nil_of_length_eq_zero
theorem yh:type_of%@And.imp:=@And.imp
theorem yj:type_of%@Array.ext':=@Array.ext'
theorem yk:type_of%@List.take_length:=@List.take_length
theorem yl:type_of%@List.not_mem_nil:=@List.not_mem_nil
theorem ym:type_of%@List.mem_cons_of_mem:=@List.mem_cons_of_mem
theorem yn:type_of%@List.length_pos_iff:=@List.length_pos_iff
theorem yo:type_of%@List.mem_cons_self:=@List.mem_cons_self
theorem yp:type_of%@Ne.symm:=@Ne.symm
theorem yq:type_of%@List.find?_eq_none:=@List.find?_eq_none
theorem yt:type_of%@Decidable.not_not:=@Decidable.not_not
theorem yu:type_of%@List.find?_some:=@List.find?_some
theorem yw:type_of%@Bool.false_eq_true:=@Bool.false_eq_true
theorem yx:type_of%@List.getElem?_take:=@List.getElem?_take
theorem yy:type_of%@Nat.add_mul:=@Nat.add_mul
theorem yz:type_of%@Bool.and_false:=@Bool.and_false
theorem xam:type_of%@Bool.true_or:=@Bool.true_or
theorem xan:type_of%@Option.ne_none_iff_exists':=@Option.ne_none_iff_exists'
theorem xao:type_of%@Nat.lt_of_lt_of_le:=@Nat.lt_of_lt_of_le
theorem xap:type_of%@List.take_succ_eq_append_getElem:=@List.take_succ_eq_append_getElem
theorem xaq:type_of%@and_assoc:=@and_assoc
theorem xar:type_of%@Bool.true_and:=@Bool.true_and
theorem xas:type_of%@List.drop_zero:=@List.drop_zero
theorem xat:type_of%@List.drop_eq_getElem_cons:=@List.drop_eq_getElem_cons
theorem xau:type_of%@Bool.false_and:=@Bool.false_and
theorem xav:type_of%@Bool.false_or:=@Bool.false_or
theorem xaw:type_of%@Nat.min_eq_left:=@Nat.min_eq_left
theorem xax:type_of%@beq_iff_eq:=@beq_iff_eq
theorem xay:type_of%@List.getElem?_eq_none:=@List.getElem?_eq_none
theorem xaz:type_of%@Option.bind_eq_some_iff:=@Option.bind_eq_some_iff
theorem xb0:type_of%@List.mem_of_find?_eq_some:=@List.mem_of_find?_eq_some
theorem xb1:type_of%@beq_self_eq_true:=@beq_self_eq_true
theorem xb2:type_of%@Nat.mul_le_mul_right:=@Nat.mul_le_mul_right
theorem xb3:type_of%@Bool.or_false:=@Bool.or_false
theorem xb4:type_of%@List.map_take:=@List.map_take
theorem xb5:type_of%@List.mem_of_mem_take:=@List.mem_of_mem_take
theorem xb6:type_of%@Array.getElem?_eq_none:=@Array.getElem?_eq_none
theorem xb7:type_of%@List.mem_filter:=@List.mem_filter
theorem xb8:type_of%@Bool.or_true:=@Bool.or_true
theorem xb9:type_of%@Nat.le_of_ble_eq_true:=@Nat.le_of_ble_eq_true
theorem xba:type_of%@Nat.not_lt_zero:=@Nat.not_lt_zero
theorem xbb:type_of%@List.findIdx?_eq_some_iff_getElem:=@List.findIdx?_eq_some_iff_getElem
theorem xbc:type_of%@List.drop_eq_nil_of_le:=@List.drop_eq_nil_of_le
theorem xbd:type_of%@Eq.symm:=@Eq.symm
theorem xbe:type_of%@Option.isSome_iff_exists:=@Option.isSome_iff_exists
theorem xbf:type_of%@Nat.add_assoc:=@Nat.add_assoc
theorem xbg:type_of%@Bool.eq_false_iff:=@Bool.eq_false_iff
theorem xbh:type_of%@List.mem_nil_iff:=@List.mem_nil_iff
theorem xbi:type_of%@List.mem_map_of_mem:=@List.mem_map_of_mem
theorem xbj:type_of%@List.filter_append:=@List.filter_append
theorem xbk:type_of%@List.foldl_append:=@List.foldl_append
theorem xbl:type_of%@decide_eq_false_iff_not:=@decide_eq_false_iff_not
theorem xbm:type_of%@Nat.add_comm:=@Nat.add_comm
theorem xbn:type_of%@List.mem_of_mem_drop:=@List.mem_of_mem_drop
theorem xbo:type_of%@List.getElem_mem:=@List.getElem_mem
theorem xbp:type_of%@Nat.mul_one:=@Nat.mul_one
theorem xbq:type_of%@Nat.mul_comm:=@Nat.mul_comm
theorem xbr:type_of%@decide_true:=@decide_true
theorem xbs:type_of%@Bool.not_true:=@Bool.not_true
theorem xbt:type_of%@List.size_toArray:=@List.size_toArray
theorem xbu:type_of%@List.mem_append:=@List.mem_append
theorem xbv:type_of%@List.drop_length_add_append:=@List.drop_length_add_append
theorem xbw:type_of%@List.mem_or_eq_of_mem_set:=@List.mem_or_eq_of_mem_set
theorem xbx:type_of%@Bool.or_eq_true:=@Bool.or_eq_true
theorem xby:type_of%@Bool.and_self:=@Bool.and_self
theorem xbz:type_of%@List.drop_succ_cons:=@List.drop_succ_cons
theorem xc0:type_of%@List.drop_drop:=@List.drop_drop
theorem xc1:type_of%@Bool.eq_iff_iff:=@Bool.eq_iff_iff
theorem xc2:type_of%@List.take_append_drop:=@List.take_append_drop
theorem xc3:type_of%@Nat.eq_of_beq_eq_true:=@Nat.eq_of_beq_eq_true
theorem xc4:type_of%@Int.not_lt:=@Int.not_lt
theorem xc5:type_of%@List.filter_cons:=@List.filter_cons
theorem xc6:type_of%@List.ext_getElem?:=@List.ext_getElem?
theorem xc7:type_of%@Bool.and_true:=@Bool.and_true
theorem xc8:type_of%@decide_false:=@decide_false
theorem xc9:type_of%@decide_eq_decide:=@decide_eq_decide
theorem xca:type_of%@List.map_drop:=@List.map_drop
theorem xcb:type_of%@List.map_nil:=@List.map_nil
theorem xcc:type_of%@List.length_filter_le:=@List.length_filter_le
theorem xcd:type_of%@Nat.succ_ne_zero:=@Nat.succ_ne_zero
theorem xce:type_of%@Array.getD_eq_getD_getElem?:=@Array.getD_eq_getD_getElem?
theorem xcf:type_of%@List.any_append:=@List.any_append
theorem xcg:type_of%@Nat.add_sub_cancel:=@Nat.add_sub_cancel
theorem xch:type_of%@Nat.lt_trichotomy:=@Nat.lt_trichotomy
theorem xci:type_of%@List.mem_iff_getElem?:=@List.mem_iff_getElem?
theorem xcj:type_of%@Nat.div_add_mod:=@Nat.div_add_mod
theorem xck:type_of%@List.filter_eq_self:=@List.filter_eq_self
theorem xcl:type_of%@List.findIdx?_eq_none_iff:=@List.findIdx?_eq_none_iff
theorem xcm:type_of%@Array.getElem?_toList:=@Array.getElem?_toList
theorem xcn:type_of%@Array.getElem?_setIfInBounds_ne:=@Array.getElem?_setIfInBounds_ne
theorem xco:type_of%@List.filter_cons_of_pos:=@List.filter_cons_of_pos
theorem xcp:type_of%@List.getElem?_set:=@List.getElem?_set
theorem xcq:type_of%@List.find?_append:=@List.find?_append
theorem xcr:type_of%@Array.mem_of_getElem?:=@Array.mem_of_getElem?
theorem xcs:type_of%@Nat.zero_mul:=@Nat.zero_mul
theorem xct:type_of%@Nat.max_eq_left:=@Nat.max_eq_left
theorem xcu:type_of%@Bool.not_eq_true':=@Bool.not_eq_true'
theorem xcv:type_of%@Nat.ble_eq_true_of_le:=@Nat.ble_eq_true_of_le
theorem xcw:type_of%@Bool.not_false:=@Bool.not_false
theorem xcx:type_of%@UInt8.toNat_inj:=@UInt8.toNat_inj
theorem xcy:type_of%@List.getD_eq_getElem?_getD:=@List.getD_eq_getElem?_getD
theorem xcz:type_of%@List.getElem?_drop:=@List.getElem?_drop
theorem xd0:type_of%@Array.toList_map:=@Array.toList_map
theorem xd1:type_of%@List.flatten_append:=@List.flatten_append
theorem xd2:type_of%@List.take_length_add_append:=@List.take_length_add_append
theorem xd3:type_of%@List.set_eq_take_append_cons_drop:=@List.set_eq_take_append_cons_drop
theorem xd4:type_of%@List.drop_append_of_le_length:=@List.drop_append_of_le_length
theorem xd5:type_of%@Nat.min_eq_right:=@Nat.min_eq_right
theorem xd6:type_of%@List.mem_append_left:=@List.mem_append_left
theorem xd7:type_of%@Nat.div_eq_of_lt:=@Nat.div_eq_of_lt
theorem xd8:type_of%@Nat.eq_zero_or_pos:=@Nat.eq_zero_or_pos
theorem xd9:type_of%@List.take_append_of_le_length:=@List.take_append_of_le_length
theorem xda:type_of%@List.head?_eq_getElem?:=@List.head?_eq_getElem?
theorem xdb:type_of%@List.filter_cons_of_neg:=@List.filter_cons_of_neg
theorem xdc:type_of%@List.getElem?_set_self:=@List.getElem?_set_self
theorem xdd:type_of%@List.drop_eq_nil_iff:=@List.drop_eq_nil_iff
theorem xde:type_of%@Array.getElem?_append_left:=@Array.getElem?_append_left
theorem xdf:type_of%@List.mem_append_right:=@List.mem_append_right
theorem omq{p:Prop}(h:p:=by omega):p:=h
theorem krq{p:Prop}(h:p:=by kernel_rfl):p:=h
theorem dcq{p:Prop}(h:p:=by decide):p:=h
theorem smq{p:Prop}(h:p:=by simp):p:=h
theorem rfq{p:Prop}(h:p:=by rfl):p:=h
theorem za{p:Prop}(h:p:=by refine run ?_;exact fin rfl):p:=h
theorem zb{p:Prop}(h:p:=by refine run ?_;refine hE () _ trivial ?_;exact bu [1,2] [1,2] rfl rfl rfl (fun _ _ e=>e) rfl):p:=h
theorem zc{p:Prop}(h:p:=by rw[yb omq] at e1;rw[yb (by rw[vm];omega)] at e2;rw[vm,<- hl2] at e2;exact hh _ v x e1 (by simpa using e2)):p:=h
theorem zd{p:Prop}(h:p:=by refine runD trivial ?_;refine aq (gd 17 [[0,0,0],[1,1,0],[3,2,0],[7,3,0],[15,5,0],[47,7,0],[175,4,1,6,0],[239,4,1,8,2],[191,6,0,0,0,0],[255,8,1,0,0,0],[495,4,0,0,0,0],[511,9,0,0,0,0],[1023,10,0],[2047,11,0,12,1],[4095,13,2],[6143,11,0,0,0,0],[8191,13,2],[12287,14,0],[28671,12,1,15,2],[16383,14,0],[32767,15,1,0,0,0],[61439,12,0,0,0,0],[65535,16,0,0,0,0],[131071]]) ?_;refine gR trivial ?_;refine gM trivial (bo a [b] [] d smq) ?_;refine gM trivial (bo b [] [] d smq) ?_;refine gD trivial hc ?_;exact ij):p:=h
theorem ze{p:Prop}(h:p:=by exact⟨.slice none 0 0,smq,⟨0,[],co.nil _ _ _ _,fun g hg'=>by simp[Value.ownBlock] at hg'⟩,fun id k' _=>by simp[Value.ownBlock]⟩):p:=h
theorem zf{p:Prop}(h:p:=by refine runW (ai am (ai ao ac)) ?_;refine round (k+1) (jhq hI he (hs e hm) a1 hla (by rw[hr,hE];exact h0)) omq ?_;rw[oa he,hr,hA];rfl):p:=h
theorem zg{p:Prop}(h:p:=by intro y hy;simp only[xn] at hy;subst hy;exact⟨999000,_,rfl,rfl,rfl,.inr rfl,rfl⟩):p:=h
theorem zh{p:Prop}(h:p:=by rw[xp hj] at e1;rw[xp (by rw[vm];omega)] at e2;exact hh2 j v x e1 e2):p:=h
theorem zi{p:Prop}(h:p:=by rw[harr,<- this];simp[execOp,ho,resolve,hc,hfx,Deferred.ofValue,invoke]):p:=h
theorem zj{p:Prop}(h:p:=by simp only[execOp,ho,resolve,hc,ha,hb,Sem.run_bind,Sem.run_pure,Result.andThen_ok,invoke,builtin,List.map_toArray,vy,xcb];rw[hrun];rfl):p:=h
theorem zk{p:Prop}(h:p:=by rw[hd];refine runD (ai am (ai ao ac)) ?_;refine aq qdb ?_;refine gR (ai hap (ai am (ai ao ac))) ?_;refine gM (ai hap (ai am (ai ao ac))) (fu x [] (y::ts.drop (2*(k+1))) d (by simp;omega)) ?_;refine gM (ai hap (ai am (ai ao ac))) (fu y [] (ts.drop (2*(k+1))) d omq) ?_;exact round (k+1) hkN omq):p:=h
theorem zl{p:Prop}(h:p:=by rw[hd];refine runD (ai am (ai ao ac)) ?_;refine aq qda ?_;refine gR (ai hap (ai am (ai ao ac))) ?_;refine gM (ai hap (ai am (ai ao ac))) (fu x [] (y::us.drop (2*(k+1))) d (by simp;omega)) ?_;refine gM (ai hap (ai am (ai ao ac))) (fu y [] (us.drop (2*(k+1))) d omq) ?_;exact round (k+1) hkN omq):p:=h
theorem zm{p:Prop}(h:p:=by obtain⟨x0,hx0,_⟩:=S.tm i _ (jeg hv);have hlt:=(asi.1 hx0).1;have:=hv1 i hi0;rw[kx (by have:=S.nn;omega)] at this;simp[Act.eval,this]):p:=h
theorem zn{p:Prop}(h:p:=by exact .inl ⟨rfl,rfl⟩):p:=h
theorem zo{p:Prop}(h:p:=by rename_i he;subst he;exact e):p:=h
theorem zp{p:Prop}(h:p:=by rw[yb omq] at e1;rw[yb (by rw[vm];omega)] at e2;rw[vm,<- hl2] at e2;simp only[xe,msi] at e1;obtain⟨t,e1,rfl⟩:=e1;exact hh _ t x e1 (by simpa using e2)):p:=h
theorem zq{p:Prop}(h:p:=by exact round (k+1,x) ⟨hlt,hE.low,hE.good⟩ (by simp only;omega)):p:=h
theorem zr{p:Prop}(h:p:=by refine hE (r',cap') _ ⟨by rw[hz];exact h1,h2⟩ ?_;exact bu [] [] rfl rfl rfl (fun _ _ e=>by rw[hz1] at e;exact e) rfl):p:=h
theorem zt{p:Prop}(h:p:=by exact round (k+1) hlt omq):p:=h
theorem zu{p:Prop}(h:p:=by refine run ?_;exact finO (.refl _)):p:=h
theorem zw{p:Prop}(h:p:=by simp only;obtain⟨hlt',rfl⟩:=gsi.1 hx;rw[xap hlt',hall,xz];rfl):p:=h
theorem zx{p:Prop}(h:p:=by simp only[xbt,vr,xq,xw,Array.length_toList];omega):p:=h
theorem zy{p:Prop}(h:p:=by obtain⟨x,hx,-,-⟩:=af hlt;refine runW hx ?_;exact round (k+1) omq omq):p:=h
theorem z5{p:Prop}(h:p:=by rw[xap hlt,xz,xz];obtain⟨_,rfl⟩:=gsi.1 hx;rfl):p:=h
theorem z6{p:Prop}(h:p:=by refine fin (ah ?_);simp):p:=h
theorem z7{p:Prop}(h:p:=by exact ke (.v (.refl _))):p:=h
theorem z8{p:Prop}(h:p:=by rw[ve h0] at hw;rw[hw];rw[jfj hI he,hr,vd a1,vd (by rw[hla];decide),hE,ve h0];refine runW (ai (vf h0) (ai am (ai ao ac))) ?_;exact endH (.t3 sa (.refl _) (.refl _))):p:=h
theorem z9{p:Prop}(h:p:=by refine gR trivial ?_;refine gM trivial (bo a (b::q) [] d (by simp;omega)) ?_;refine gM trivial (bo b q [] d omq) ?_;refine gM trivial (jxu q [] d omq) ?_;refine gD trivial hc ?_;exact ij):p:=h
theorem zba{p:Prop}(h:p:=by obtain⟨b,hb⟩:=kw h1;obtain⟨b',hb'⟩:=kw h2;obtain⟨id,_,e1,e2,_⟩:=hlent' k b hb;obtain⟨id',_,e1',e2',_⟩:=hlent' k' b' hb';rw[e2,e2'] at he;subst he;exact jam hκ e1 e1'):p:=h
theorem zbb{p:Prop}(h:p:=by exact mf rfl rfl rfl rfl):p:=h
theorem zbc{p:Prop}(h:p:=by subst hxy;refine runW (ai hx hy) ?_;exact round (k+1) ⟨omq,by rw[hall,jao hd he];simp⟩ omq):p:=h
theorem zbd{p:Prop}(h:p:=by simp only[msi] at e;obtain⟨v,_,rfl⟩:=e;trivial):p:=h
theorem zbe{p:Prop}(h:p:=by refine run ?_;refine round (k+1,m.length) ⟨by simp only;omega,by simp only;rw[uj hps];omega,fun _=>hhas,hgo _ omq omq⟩ (by simp only;omega) ?_;simp only;rw[<- hnew];rfl):p:=h
theorem zbf{p:Prop}(h:p:=by refine gR trivial ?_;refine gM trivial (bo a [] [] d smq) ?_;refine gD trivial hc ?_;exact ij):p:=h
theorem zbg{p:Prop}(h:p:=by rw[jbf (gge hlt),vd (by simp[hpi]),xck];intro e he;obtain⟨j,hj,rfl⟩:=List.mem_iff_getElem.1 he;simp only[xq] at hj;simp[hbef j omq]):p:=h
theorem zbh{p:Prop}(h:p:=by have:=si hor _ yo;simp only[RepT] at h3 ⊢;rw[<- hid k this];exact h3):p:=h
theorem zbi{p:Prop}(h:p:=by rw[xp hj] at e1;rw[xp (by rw[vm];omega)] at e2;exact hh2 j (.v v) x (by rw[xe,e1];rfl) e2):p:=h
theorem zbj{p:Prop}(h:p:=by refine run ?_;exact round (k+1) ⟨omq,jc hall hx hpc⟩ omq):p:=h
theorem zbk{p:Prop}(h:p:=by have:id≠d:=fun he=>hw (he▸hd);simp only[RepT] at e2 ⊢;rw[vd this];exact e2):p:=h
theorem zbl{p:Prop}(h:p:=by rw[jd hr ((gk r).2 (.inl (by simp[idB];omega)))];exact za):p:=h
theorem zbm{p:Prop}(h:p:=by refine run ?_;exact jb4 (.refl _)):p:=h
theorem zbn{p:Prop}(h:p:=by refine run ?_;exact jb3 (.refl _)):p:=h
theorem zbo{p:Prop}(h:p:=by exact kf (.v (.refl _))):p:=h
theorem zbp{p:Prop}(h:p:=by unfold qw ic at hzc;rw[hi] at hzc;simp only[Option.bind_some,msi] at hzc;exact hzc):p:=h
theorem zbq{p:Prop}(h:p:=by refine hE (r',cap') _ ⟨h1,h2⟩ ?_;exact bu [] [] rfl rfl rfl (fun _ _ e=>e) rfl):p:=h
theorem zbr{p:Prop}(h:p:=by refine run ?_;exact fin (ah (jz p l))):p:=h
theorem zbs{p:Prop}(h:p:=by refine run ?_;exact fin (ah (jz _ l))):p:=h
theorem zbt{p:Prop}(h:p:=by obtain⟨xs,ty,h1,h2,h3,h4,h5⟩:=h;exact⟨xs,ty,hb.trans h1,h2,h3,fun j c x e1 e2=>(h4 j c x e1 e2).mono hle,fun p v e he=>h5 p v (hn p v e he) he⟩):p:=h
theorem zbu{p:Prop}(h:p:=by exact⟨vj _,fun _ h=>nomatch h⟩):p:=h
theorem zbv{p:Prop}(h:p:=by exact round (k+1,r) ⟨hlt,hlow.mono (Nat.le_succ k),hc⟩ (by simp only;omega)):p:=h
theorem zbw{p:Prop}(h:p:=by exact finW (fi _)):p:=h
theorem zbx{p:Prop}(h:p:=by rw[e,hn];refine rc (jbp r.trg) ?_;rw[hq'];refine runW (ai ha (ai (show (r.trg == [111,112,101,110,101,100])=true from ho) (ai hy he))) ?_;exact fin rfl):p:=h
theorem zby{p:Prop}(h:p:=by obtain⟨-,⟨m,ys,e2,_⟩,-⟩:=S.oval hj hi (by rw[<- og S (w':=w') (fun g hg _=>hx.bel.block g hg) j e c hj i hi];exact hu);exact(e2.lt _ hq).2):p:=h
theorem zbz{p:Prop}(h:p:=by simp only[only,vn] at h;have:=xc3 h.1;subst this;simp only[okA,er,Option.isSome_some,xar];exact jby h.2):p:=h
theorem zb0{p:Prop}(h:p:=by exact(show prog.wantsStandIn 22=false by kernel_rfl)):p:=h
theorem zb1{p:Prop}(h:p:=by simp at hv hw;subst hv hw;exact .refl _):p:=h
theorem zb2{p:Prop}(h:p:=by have:=Sim.putr (d:=t) S1 hT trivial (by have:=(asi.1 h1).1;rw[<- S.n];exact this);rw[jhx h1] at this;unfold SimS;rw[σ_cons];exact this):p:=h
theorem zb3{p:Prop}(h:p:=by refine run ?_;exact round (k+1) omq omq):p:=h
theorem zb4{p:Prop}(h:p:=by simpa using this):p:=h
theorem zb5{p:Prop}(h:p:=by refine run ?_;exact finW (uc (.nil 8))):p:=h
theorem zb6{p:Prop}(h:p:=by exact⟨_,by simp only[binOp,Op.shift];rw[vd (xc4.2 hn)];rfl,.val _,fun ox oy=>by unfold eqGuard;split<;>rfl⟩):p:=h
theorem zb7{p:Prop}(h:p:=by rw[kr hp,jiw (hg hB) (by rw[hp];rfl)];exact za):p:=h
theorem zb8{p:Prop}(h:p:=by rw[e1,e2];refine runW hmr ?_;exact z7):p:=h
theorem zb9{p:Prop}(h:p:=by rw[xat hlt];rfl):p:=h
theorem zca{p:Prop}(h:p:=by refine run ?_;exact fin rfl rfl):p:=h
theorem zcb{p:Prop}(h:p:=by rw[ve hpv];refine runW hq ?_;exact fin rfl):p:=h
theorem zcc{p:Prop}(h:p:=by rw[e1] at hvv;simp only[Value.slice.injEq] at hvv;exact hvv.2.1):p:=h
theorem zcd{p:Prop}(h:p:=by rw[vd hz];have hz':0<(l.filter (fun e=> !p e)).length:=yn.2 hz;refine runW h5 ?_;exact ja (.refl _)):p:=h
theorem zce{p:Prop}(h:p:=by rw[ve h0] at hw;rw[hw];refine runW (ai (vf h0) (ai am (ai ao ac))) ?_;exact finW (.t3 sa (.refl _) (.refl _))):p:=h
theorem zcf{p:Prop}(h:p:=by exact⟨999000,_,rfl,rfl,rfl,.inl rfl,rfl⟩):p:=h
theorem zcg{p:Prop}(h:p:=by symm;rw[xbl];intro h;exact hl (by rw[h])):p:=h
theorem zch{p:Prop}(h:p:=by obtain⟨b,hb⟩:=xbe.1 h.1;simp[wfT,hb]):p:=h
theorem zci{p:Prop}(h:p:=by refine .inl ⟨by simp[ix,h],?_⟩;rw[xcl] at h;rw[yq];intro x hx;simp[h x hx]):p:=h
theorem zcj{p:Prop}(h:p:=by rename_i he;subst he;rw[hk];rfl):p:=h
theorem zck{p:Prop}(h:p:=by refine runW hy ?_;exact round (k+1) ⟨omq,jc (q:=fun n:Int=>decide (x=n)=false) hall hy (by simp[hxy])⟩ omq):p:=h
theorem zcl{p:Prop}(h:p:=by refine runW (vg h30) ?_;exact fin rfl):p:=h
theorem zcm{p:Prop}(h:p:=by refine round (k+1) hlt omq ?_;rw[hS'];rfl):p:=h
theorem zcn{p:Prop}(h:p:=by exact round (i+1) omq omq):p:=h
theorem zco{p:Prop}(h:p:=by intro k hk;subst hk;exact zb):p:=h
theorem zcp{p:Prop}(h:p:=by exact⟨y,by simp[Instr.loadAt,e,Instr.sureAddr,hr],hy⟩):p:=h
theorem zcq{p:Prop}(h:p:=by exact⟨51,_,rfl,rfl,rfl,.inl rfl,rfl⟩):p:=h
theorem zcr{p:Prop}(h:p:=by refine run ?_;exact finW (jef _)):p:=h
theorem zcs{p:Prop}(h:p:=by obtain⟨g,h1,h2,h3⟩:=h;exact⟨g,h1,fun j c e=>hle _ _ (h2 j c e),fun j c e=>(h3 j c e).mono hle⟩):p:=h
theorem zct{p:Prop}(h:p:=by intro h;exact⟨h 0 a b rfl rfl,fun i x y hx hy=>h (i+1) x y (by simpa using hx) (by simpa using hy)⟩):p:=h
theorem zcu{p:Prop}(h:p:=by exact⟨7,_,rfl,rfl,rfl,.inl rfl,rfl⟩):p:=h
theorem zcv{p:Prop}(h:p:=by exact⟨6,_,rfl,rfl,rfl,.inl rfl,rfl⟩):p:=h
theorem zcw{p:Prop}(h:p:=by simp[Instr.mapUpdate,run_underlying hu,hev,ja8 b1,hck,Instr.findKey,run_underlying hd,g1,hz,hstay,hset]):p:=h
theorem zcx{p:Prop}(h:p:=by obtain⟨v,q1,q2⟩:=h.get e;exact⟨v,by rw[xp (gsi.1 q1).1];exact q1,q2⟩):p:=h
theorem zcy{p:Prop}(h:p:=by exact fe (by simp only[resV,σ_mk,ay,↓reduceIte,bw])):p:=h
theorem zcz{p:Prop}(h:p:=by simp only[xn] at hi;subst hi;rw[dz (by have:=ss id j;omega),gl hj,qj hj];exact hc2):p:=h
theorem zc0{p:Prop}(h:p:=by refine runW (vf hz) ?_;exact zbw):p:=h
theorem zc1{p:Prop}(h:p:=by exact k F ρ st' _ w S' hK):p:=h
theorem zc2{p:Prop}(h:p:=by obtain⟨ad,g,hv,-⟩:=rm (show Rep F (.row cs) (a.eval x) from G.opr x _ hxv);exact⟨ad,hv⟩):p:=h
theorem zc3{p:Prop}(h:p:=by rw[xbl,hall,jao hd he];simp[hxy]):p:=h
theorem zc4{p:Prop}(h:p:=by rename_i h1;exact absurd h h1):p:=h
theorem zc5{p:Prop}(h:p:=by intro y hy;simp only[xn] at hy;subst hy;exact⟨4,_,rfl,rfl,rfl,.inl rfl,rfl⟩):p:=h
theorem zc6{p:Prop}(h:p:=by exact(show prog.wantsStandIn 3=false by kernel_rfl)):p:=h
theorem zc7{p:Prop}(h:p:=by rw[ve h0] at h;exact absurd h h0):p:=h
theorem zc8{p:Prop}(h:p:=by rw[List.find?_eq_some_iff_getElem];exact⟨hpi,i,hlt,rfl,fun j hj=>by simpa using hbef j hj⟩):p:=h
theorem zc9{p:Prop}(h:p:=by refine runW (vf h1) ?_;exact z6):p:=h
theorem zda{p:Prop}(h:p:=by refine run ?_;exact jd3 rfl (.refl _)):p:=h
theorem zdb{p:Prop}(h:p:=by refine rc (de _ 11) ?_;refine rc hap ?_;refine rc (de _ 22) ?_;refine rc (hF _ _ _) ?_;exact za):p:=h
theorem zdc{p:Prop}(h:p:=by simp[Instr.mapUpdate,run_underlying hu,hev,ja8 b1,hck,Instr.findKey,run_underlying hd,g1,hset]):p:=h
theorem zdd{p:Prop}(h:p:=by exact⟨.int .i64 m,by simp[Builtin.len_,run_underlying hu,Result.andThen,hv,goInt],.val _⟩):p:=h
theorem zde{p:Prop}(h:p:=by simp at this;subst this;rfl):p:=h
theorem zdf{p:Prop}(h:p:=by refine run ?_;exact zt):p:=h
theorem zdg{p:Prop}(h:p:=by simp only[vr,hl1,xw,List.length_cons,List.length_nil];omega):p:=h
theorem zdh{p:Prop}(h:p:=by rw[xat h',List.getElem_map,atU,xcy,gge h];rfl):p:=h
theorem zdi{p:Prop}(h:p:=by have:=al (G.v hv);exact⟨fun _ _=>undef,.inl ⟨this,rfl⟩,by simp[flat],smq,smq,smq⟩):p:=h
theorem zdj{p:Prop}(h:p:=by simp only;rw[hf];simp only[vr,List.length_cons,List.length_nil];omega):p:=h
theorem zdk{p:Prop}(h:p:=by rw[he] at hg';have:=xt hg';omega):p:=h
theorem zdl{p:Prop}(h:p:=by rw[g8,vd (fun e=>by cases e.2)] at hr5;refine runW hmr ?_;exact midK (hφ.mpr hr5)):p:=h
theorem zdm{p:Prop}(h:p:=by rw[xq] at this;omega):p:=h
theorem zdn{p:Prop}(h:p:=by simp only[only,vn] at h;have:=xc3 h.1;subst this;rfl):p:=h
theorem zdo{p:Prop}(h:p:=by refine runW hy ?_;exact fin (bc (uu (p:=fun n=>decide (x=n)) hall hy (by simp[hxy])))):p:=h
theorem zdp{p:Prop}(h:p:=by have hx:=al (p4 _ _ _ h3 (xu hlx));simp[World.cell?,p1,hlx,hx]):p:=h
theorem zdq{p:Prop}(h:p:=by intro y hy;rw[xn.1 hy];exact⟨999000,_,rfl,rfl,rfl,.inr rfl,rfl⟩):p:=h
theorem zdr{p:Prop}(h:p:=by have:=hl (j+1) (by simpa using hj);simpa [Nat.add_assoc,Nat.add_comm 1 j] using this):p:=h
theorem zds{p:Prop}(h:p:=by refine runW (ai hf (ai f1 (ai f2 f3))) ?_;refine round (j+1) hjl omq ?_;rw[hsn];rfl):p:=h
theorem zdt{p:Prop}(h:p:=by refine run ?_;exact zbo):p:=h
theorem zdu{p:Prop}(h:p:=by refine aq jr8 ?_;refine gR (ai hap (ai am (ai ao ac))) ?_;refine jfv fun _=>?_;rfl):p:=h
theorem zdv{p:Prop}(h:p:=by rw[Array.setIfInBounds_comm _ _ hji,jya σ z v (fun d e1 e2=>a2 d e2 e1)];exact hK):p:=h
theorem zdw{p:Prop}(h:p:=by refine gM hap (fu s [] [t] d smq) ?_;refine gM hap (fu t [] [] d smq) ?_;exact ij):p:=h
theorem zdx{p:Prop}(h:p:=by obtain⟨y,hy,-,-⟩:=af hjl;refine runW (ai hx hy) ?_;exact round (j+1) omq omq):p:=h
theorem zdy{p:Prop}(h:p:=by simp only[List.getElem?_cons_succ,vy] at e1 e2;exact hh j v' x' e1 e2):p:=h
theorem zdz{p:Prop}(h:p:=by refine run ?_;exact ja (.refl _)):p:=h
theorem zd0{p:Prop}(h:p:=by simp[Instr.sliceAt,run_underlying hu,Result.andThen,Instr.slice,hb,ik hi0,hsz]):p:=h
theorem zd1{p:Prop}(h:p:=by refine ax trivial ?_;exact rg hK () trivial):p:=h
theorem zd2{p:Prop}(h:p:=by rw[xck];intro e he;simp[List.findIdx?_eq_none_iff.1 hix e he]):p:=h
theorem zd3{p:Prop}(h:p:=by exact⟨g,k1,fun j c e=>hle _ _ (k2 j c e),fun j c e=>(k3 j c e).mono hle⟩):p:=h
theorem zd4{p:Prop}(h:p:=by exact xcc _ _):p:=h
theorem zd5{p:Prop}(h:p:=by rw[getD_set_ne true hjk] at hun;exact hun):p:=h
theorem zd6{p:Prop}(h:p:=by refine runW (vf hz) ?_;exact fin rfl):p:=h
theorem zd7{p:Prop}(h:p:=by simp only[qt,vn] at hp;exact Option.isNone_iff_eq_none.1 hp.1):p:=h
theorem zd8{p:Prop}(h:p:=by simp only[gz,ho];rw[vd h,vd (by simp[hn]),vd h0,hq];simp[hle]):p:=h
theorem zd9{p:Prop}(h:p:=by rw[z1] at hog;have:g'=g:=xt hog;subst this;exact⟨cur0,z3⟩):p:=h
theorem zea{p:Prop}(h:p:=by rw[vd h0];refine runW (ai (vf h0) (ai am (ai ao ac))) ?_;exact ij):p:=h
theorem zeb{p:Prop}(h:p:=by have:=WkB.con (ex:=[]) (Wks.refl cs);rw[xd] at this;exact this):p:=h
theorem zec{p:Prop}(h:p:=by rw[jiy (hg hB) hi hD];exact za):p:=h
theorem zed{p:Prop}(h:p:=by rw[jix (hg hB) hi hD];exact za):p:=h
theorem zee{p:Prop}(h:p:=by rw[ve ⟨g7,g8⟩] at hr5;obtain⟨e1,e2⟩:=hbad 6 hr5 dcq;exact zb8):p:=h
theorem zef{p:Prop}(h:p:=by rw[List.range_succ,xbk];rfl):p:=h
theorem zeg{p:Prop}(h:p:=by refine runW (vf h) ?_;exact fin rfl):p:=h
theorem zeh{p:Prop}(h:p:=by obtain⟨st'',S'',hK'⟩:=nz S' hr hw hK;exact k F' ρ' st'' _ w' S'' hK'):p:=h
theorem zei{p:Prop}(h:p:=by exact absurd (show az r.fls (nth e 0)<0 by unfold az;rw[g1];decide) hneg):p:=h
theorem zej{p:Prop}(h:p:=by exact vo _):p:=h
theorem zek{p:Prop}(h:p:=by simp only[vr,hl1,List.length_cons,List.length_nil];omega):p:=h
theorem zel{p:Prop}(h:p:=by exact⟨_,jae (jbb hu _ _ _ w) rfl,.val _,fun ox oy=>by simp[eqGuard]⟩):p:=h
theorem zem{p:Prop}(h:p:=by exact⟨_,jad (jbb hu _ _ _ w) rfl,.val _,fun ox oy=>by simp[eqGuard]⟩):p:=h
theorem zen{p:Prop}(h:p:=by exact⟨_,fun w'=>by rw[hv,hi];exact jbe h1 k j _ m cap hm.1 hm.2 w'⟩):p:=h
theorem zeo{p:Prop}(h:p:=by simp only;omega):p:=h
theorem zep{p:Prop}(h:p:=by simp;omega):p:=h
theorem zeq{p:Prop}(h:p:=by simp only[vr,hl1,List.length_cons,List.length_nil];omega):p:=h
theorem zer{p:Prop}(h:p:=by unfold Func.isWrapper;rw[vd (of_decide_eq_false krq)];exact⟨rfl,rfl⟩):p:=h
theorem zes{p:Prop}(h:p:=by rw[hk];rfl):p:=h
theorem zet{p:Prop}(h:p:=by as_aux_lemma=>kernel_rfl):p:=h
theorem zeu{p:Prop}(h:p:=by simpa using e2):p:=h
theorem zev{p:Prop}(h:p:=by rw[vn,vq,vq,UInt8.le_iff_toNat_le,UInt8.le_iff_toNat_le];exact h):p:=h
theorem zew{p:Prop}(h:p:=by rw[e];simp):p:=h
theorem zex{p:Prop}(h:p:=by rw[hog];intro h;have:=xt h;subst this;rw[hg0] at hb';cases hb'):p:=h
theorem zey{p:Prop}(h:p:=by simp[h]):p:=h
theorem zez{p:Prop}(h:p:=by simpa using hc):p:=h
theorem ze0{p:Prop}(h:p:=by rw[h2];decide):p:=h
theorem ze1{p:Prop}(h:p:=by simp only[xb,List.cons_append]):p:=h
theorem ze2{p:Prop}(h:p:=by rw[hpv];exact Bool.noConfusion):p:=h
theorem ze3{p:Prop}(h:p:=by simpa using hl):p:=h
theorem ze4{p:Prop}(h:p:=by simpa using e1):p:=h
theorem ze5{p:Prop}(h:p:=by simp[ae,qc,dk]):p:=h
theorem ze6{p:Prop}(h:p:=by rw[hs];simp[Value.ownBlock]):p:=h
theorem ze7{p:Prop}(h:p:=by simp[Call.operands,hc];simpa using hx):p:=h
theorem ze8{p:Prop}(h:p:=by rw[xq];omega):p:=h
theorem ze9{p:Prop}(h:p:=by rw[hog];exact fun h=>r2 g hog p u hp (xt h)):p:=h
theorem zfa{p:Prop}(h:p:=by simpa using hj):p:=h
theorem zfb{p:Prop}(h:p:=by simpa using hi):p:=h
theorem zfc{p:Prop}(h:p:=by rw[h0] at hr;cases hr):p:=h
theorem zfd{p:Prop}(h:p:=by simp[hy]):p:=h
theorem zfe{p:Prop}(h:p:=by rw[h] at hr;cases hr):p:=h
theorem zff{p:Prop}(h:p:=by simp[wfT,er]):p:=h
theorem zfg{p:Prop}(h:p:=by rw[hh];exact e):p:=h
theorem zfh{p:Prop}(h:p:=by rw[ha.1];exact hlt):p:=h
theorem zfi{p:Prop}(h:p:=by simpa using hx):p:=h
theorem zfj{p:Prop}(h:p:=by rw[h3];decide):p:=h
theorem zfk{p:Prop}(h:p:=by simpa using h):p:=h
namespace Go.Ab
theorem ai{a b:Prop}(h:a)(k:b):a/\b:=⟨h,k⟩
theorem gsi{α:Type _}{l:List α}{i:Nat}{a:α}:l[i]?=some a↔∃h:i<l.length,l[i]=a:=List.getElem?_eq_some_iff
theorem msi{α β:Type _}{x:Option α}{b:β}{f:α->β}:Option.map f x=some b↔∃a,x=some a/\f a=b:=Option.map_eq_some_iff
theorem asi{α:Type _}{l:Array α}{i:Nat}{a:α}:l[i]?=some a↔∃h:i<l.size,l[i]=a:=Array.getElem?_eq_some_iff
theorem gge{α:Type _}{l:List α}{i:Nat}(h:i<l.length):l[i]?=some l[i]:=List.getElem?_eq_getElem h
open Go.RowKit
inductive V where
 |val (v:Value)
 |str (l:List UInt8)
 |agg (cs:List V)
 |tup (vs:List V)
 |slice (size:Nat) (es:List (List V))
 |row (cs:List V)
 |func (f:FuncId) (cap:List V)
 |ifc
 |map (ks vs:List V)
def kj(xs:Array MapEntry)(ck:Nat):Prop:=(∀(j:Nat) x,xs[j]?=some x->x.born<ck)/\∀(i j:Nat) x y,xs[i]?=some x->xs[j]?=some y->x.born=y.born->i=j
theorem kj.nil:kj #[] 0:=⟨fun j x h=>by simp at h,fun i j x y h=>by simp at h⟩
theorem kj.push{xs:Array MapEntry}{ck:Nat}(h:kj xs ck)(k v:Value):kj (xs.push { key:=k,val:=v,born:=ck }) (ck+1):=by
 have get:∀(j:Nat) x,(xs.push ({ key:=k,val:=v,born:=ck } : MapEntry))[j]?=some x->(j=xs.size/\x.born=ck)\/xs[j]?=some x:=fun j x e=>by
  rw[Array.getElem?_push] at e;split at e
  .rename_i hj;cases e;exact .inl ⟨hj,rfl⟩
  exact .inr e
 refine⟨fun j x e=>?_,fun i j x y e1 e2 he=>?_⟩
 .rcases get j x e with⟨_,h2⟩|h2
  .omega
  have:=h.1 j x h2;omega
 rcases get i x e1 with⟨h1,h2⟩|h2<;>rcases get j y e2 with⟨h3,h4⟩|h4
 .omega
 .have:=h.1 j y h4;omega
 .have:=h.1 i x h2;omega
 exact h.2 i j x y h2 h4 he
theorem kj.modify{xs:Array MapEntry}{ck:Nat}(h:kj xs ck)(n:Nat)(k v:Value):kj (xs.modify n fun e=> { e with key:=k,val:=v }) ck:=by
 have get:∀(j:Nat) x,(xs.modify n fun e=> { e with key:=k,val:=v })[j]?=some x->∃y,xs[j]?=some y/\x.born=y.born:=fun j x e=>by
  rw[Array.getElem?_modify] at e;split at e
  .obtain⟨y,h1,rfl⟩:=msi.1 e;exact⟨y,h1,rfl⟩
  exact⟨x,e,rfl⟩
 refine⟨fun j x e=>?_,fun i j x y e1 e2 he=>?_⟩
 .obtain⟨y,h1,h2⟩:=get j x e;have:=h.1 j y h1;omega
 obtain⟨x',h1,h2⟩:=get i x e1;obtain⟨y',h3,h4⟩:=get j y e2;exact h.2 i j x' y' h1 h3 omq
structure Frz where
 c:Addr->Option Value
 m:Nat->Option (Array MapEntry×Nat)
 z:Nat->Nat:=fun _=>0
instance:CoeFun Frz (fun _=>Addr->Option Value):=⟨Frz.c⟩
def V.one:V->Bool
 |.val v=>v.oneCell'
 |.agg _=>false
 |.tup _=>false
 |_=>true
def V.cells:V->List V
 |.agg cs=>cs
 |v=>[v]
inductive Rep (F:Frz):V->Value->Prop
 |val (v:Value):Rep F (.val v) v
 |str (l:List UInt8):Rep F (.str l) (.string ⟨l.toArray⟩)
 |agg {cs:List V} {xs:Array Value} (hl:xs.size=cs.length) (ho:∀c∈cs,c.one=true) (h:∀(j:Nat) c x,cs[j]?=some c->xs[j]?=some x->Rep F c x):Rep F (.agg cs) (.agg xs)
 |tup {vs:List V} {xs:Array Value} (hl:xs.size=vs.length) (h:∀(j:Nat) c x,vs[j]?=some c->xs[j]?=some x->Rep F c x):Rep F (.tup vs) (.tuple xs)
 |snil {size:Nat} : Rep F (.slice size []) (.slice none 0 0)
 | slice {size:Nat} {es:List (List V)} {a:Addr} {cap:Nat} (g:Nat->Nat->Value) (hc:es.length<=cap) (hm:cap<=maxLen)
   (hs:∀e∈es,e.length=size) (ho:∀e∈es,∀c∈e,c.one=true)
   (hg:∀(i j:Nat) e c,es[i]?=some e->e[j]?=some c->F (a.add (i*size+j))=some (g i j))
   (hr:∀(i j:Nat) e c,es[i]?=some e->e[j]?=some c->Rep F c (g i j)):Rep F (.slice size es) (.slice (some a) es.length cap)
 | row {cs:List V} {a:Addr} (g:Nat->Value) (ho:∀c∈cs,c.one=true)
   (hg:∀(j:Nat) c,cs[j]?=some c->F (a.add j)=some (g j)) (hr:∀(j:Nat) c,cs[j]?=some c->Rep F c (g j)):Rep F (.row cs) (.pointer (some a))
 |func {f:FuncId} {cap:List V} {xs:Array Value} (hl:xs.size=cap.length) (h:∀(j:Nat) c x,cap[j]?=some c->xs[j]?=some x->Rep F c x):Rep F (.func f cap) (.func (.func f) #[] xs)
 |ifc (t:TypeId) (v:Value):Rep F .ifc (.iface t v)
 | map {ks vs:List V} {b:Nat} {xs:Array MapEntry} {ck:Nat} (hb:F.m b=some (xs,ck)) (hl:xs.size=ks.length) (hl':xs.size=vs.length) (hk:∀(j:Nat) k x,ks[j]? = some k->xs[j]? = some x->Rep F k x.key)
   (hv:∀(j:Nat) v x,vs[j]?=some v->xs[j]?=some x->Rep F v x.val):Rep F (.map ks vs) (.map (some b))
structure Le (F F':Frz):Prop where
 c:∀p v,F p=some v->F' p=some v
 m:∀b xs,F.m b=some xs->F'.m b=some xs
instance {F F':Frz} : CoeFun (Le F F') (fun _=>∀p v,F p=some v->F' p=some v):=⟨Le.c⟩
theorem Le.refl(F:Frz):Le F F:=⟨fun _ _ h=>h,fun _ _ h=>h⟩
theorem Le.trans{F F' F'':Frz}(h:Le F F')(h':Le F' F''):Le F F'':=⟨fun p v e=>h' p v (h p v e),fun b xs e=>h'.m b xs (h.m b xs e)⟩
abbrev fw(w:World):Frz:= { c:=w.cell?,m:=fun _=>none }
structure Sees (F:Frz) (w:World):Prop where
 c:∀p v,F p=some v->w.cell? p=some v
 m:∀b xs,F.m b=some xs->∃ck: { c:Nat // kj xs.1 c/\c=xs.2 },w.heap[b]?=some (.map xs.1 ck.1)
instance {F:Frz} {w:World} : CoeFun (Sees F w) (fun _=>∀p v,F p=some v->w.cell? p=some v):=⟨Sees.c⟩
theorem Rep.mono{F F':Frz}(hF:Le F F'){v:V}{x:Value}(h:Rep F v x):Rep F' v x:=by
 induction h with
 |val v=>exact .val v
 |str l=>exact .str l
 |agg hl ho _ ih=>exact .agg hl ho ih
 |tup hl _ ih=>exact .tup hl ih
 |snil=>exact .snil
 |slice g hc hm hs ho hg _ ih=>exact .slice g hc hm hs ho (fun i j e c h1 h2=>hF _ _ (hg i j e c h1 h2)) ih
 |row g ho hg _ ih=>exact .row g ho (fun j c h1=>hF _ _ (hg j c h1)) ih
 |func hl _ ih=>exact .func hl ih
 |ifc t v=>exact .ifc t v
 |map hb hl hl' _ _ ih ih'=>exact .map (hF.m _ _ hb) hl hl' ih ih'
theorem Rep.one{F:Frz}{v:V}{x:Value}(h:Rep F v x)(ho:v.one=true):x.oneCell'=true:=by
 cases h<;>first|exact ho|rfl|(simp[V.one] at ho)
theorem add_add(a:Addr)(i j:Nat):(a.add i).add j=a.add (i+j):=by
 unfold Addr.add;by_cases hi:i=0<;>by_cases hj:j=0<;>simp[hi,hj,Nat.add_assoc]
theorem eu(b o n:Nat):(⟨b,o,none⟩:Addr).add n=⟨b,o+n,none⟩:=by
 unfold Addr.add;split
 .rename_i h;subst h;rfl
 rfl
inductive TV where
 |v (x:V)
 |p (id off:Nat)
 |m (id:Nat)
 |s (id off n size:Nat)
 |u
inductive Blk where
 |var (cs:List V) (nm:Option Nat:=none) (k:Option (TypeId×Nat×Nat):=none)
 |con (cs:List V)
 |map (es:List (V×V)) (nm:Option Nat:=none)
 |itr (es:List (V×V)) (cur:Option (V×V)) (nm:Option Nat:=none)
def Blk.nm:Blk->Option Nat
 |.var _ n _=>n
 |.map _ n=>n
 |.itr _ _ n=>n
 |.con _=>none
def look{α:Type}(i:Nat):List (Nat×α)->Option α
 |[]=>none
 |(j,x)::r=>bif Nat.beq i j then some x else look i r
theorem dk{α:Type}(i:Nat):look i ([]:List (Nat×α))=none:=rfl
theorem er{α:Type}(i:Nat)(x:α)(r:List (Nat×α)):look i ((i,x)::r)=some x:=by simp[look]
theorem ae{α:Type}(i j:Nat)(x:α)(r:List (Nat×α)):look i ((j,x)::r)=if i=j then some x else look i r:=by
 by_cases h:i=j
 .subst h;simp[look]
 have:Nat.beq i j=false:=by
  cases hb:Nat.beq i j
  .rfl
  exact absurd (xc3 hb) h
 simp[look,this,h]
def nf:Value->V
 |.string s=>.str s.data.toList
 |.agg xs=>.agg (xs.toList.map fun x=>match x with|.string s=>.str s.data.toList|x=>.val x)
 |v=>.val v
def pi:Value->Bool
 |.agg xs=>xs.toList.all fun x=>x.oneCell'
 |_=>true
theorem qra(F:Frz)(x:Value):Rep F (match x with|.string s=>.str s.data.toList|x=>.val x) x:=by
 cases x<;>first|exact .val _|exact .str _
theorem je4(F:Frz)(v:Value)(h:pi v=true):Rep F (nf v) v:=by
 cases v<;>first|exact .val _|exact .str _|skip
 case agg xs=>
  have h':∀x∈xs.toList,x.oneCell'=true:=by unfold pi at h;exact xi.1 h
  refine .agg smq ?_ ?_
  .intro c hc;obtain⟨x,hx,rfl⟩:=ya.1 hc;have h1:=h' x hx;cases x<;>first|exact h1|rfl
  intro j c x h1 h2;simp only[xe,xcm,h2,Option.map_some,vk] at h1;subst h1;exact qra F x
def RepT(F:Frz)(ρ:Nat->Nat):TV->Value->Prop
 |.v x,y=>Rep F x y
 |.p id off,y=>y=.pointer (some ⟨ρ id,off,none⟩)
 |.m id,y=>y=.map (some (ρ id))
 |.s id off n _,y=>∃cap,n<=cap/\cap<=maxLen/\0<n/\y=.slice (some ⟨ρ id,off,none⟩) n cap
 |.u,y=>y=undef
def FzT(n:Nat)(fz:Nat×Nat):Prop:=fz=(0,0)\/n<=fz.1
theorem FzT.at{n j:Nat}{fz:Nat×Nat}(h:FzT n fz)(hj:j<n):(decide (fz.1<=j) && decide (j<fz.2))=false:=by
 rcases h with rfl|h
 .simp
 rw[vw omq,xau]
def RowK(xs:Array Value)(ty:TypeId×Nat×Nat):Option (TypeId×Nat×Nat)->Prop
 |none=>FzT xs.size ty.2
 |some (e,size,cap)=>ty.1=e/\xs.size=cap*size/\cap<=maxLen/\FzT xs.size ty.2
theorem RowK.size{xs ys:Array Value}{ty:TypeId×Nat×Nat}{k:Option (TypeId×Nat×Nat)}(h:RowK xs ty k)(hs:ys.size=xs.size):RowK ys ty k:=by
 cases k with
 |none=>show FzT _ _;rw[hs];exact h
 |some k=>exact⟨h.1,hs.trans h.2.1,h.2.2.1,by rw[hs];exact h.2.2.2⟩
theorem RowK.fz{xs:Array Value}{ty:TypeId×Nat×Nat}{k:Option (TypeId×Nat×Nat)}(h:RowK xs ty k):FzT xs.size ty.2:=by
 cases k with
 |none=>exact h
 |some k=>exact h.2.2.2
def co(w:World)(base:Nat)(e:TypeId)(size:Nat)(v:Value)(n:Nat)(xs:List Value):Prop:=
  xs.length=n*size/\
  ((v=.slice none 0 0/\n=0)\/
   ∃g cap cur,v=.slice (some ⟨g,0,none⟩) n cap/\base<=g/\(∃fz,FzT cur.size fz/\w.heap[g]?=some (.cells cur e fz))/\n<=cap/\cap<=maxLen/\cur.size=cap*size/\cur.toList.take (n*size)=xs)
theorem co.nil(w:World)(base:Nat)(e:TypeId)(size:Nat):co w base e size (.slice none 0 0) 0 []:=⟨smq,.inl ⟨rfl,rfl⟩⟩
theorem co.lt{w:World}{base:Nat}{e:TypeId}{size:Nat}{v:Value}{n:Nat}{xs:List Value}(h:co w base e size v n xs):∀k,v.ownBlock=some k->base<=k/\k<w.heap.size:=by
 intro k hk;rcases h.2 with⟨rfl,_⟩|⟨g,cap,cur,rfl,hb,⟨fz,_,hg⟩,_⟩
 .cases hk
 cases hk;exact⟨hb,(asi.1 hg).1⟩
theorem co.kept{w w':World}{base:Nat}{e:TypeId}{size:Nat}{v:Value}{n:Nat}{xs:List Value}{row:Option Nat}(h:co w base e size v n xs)(hg:w.grownBy w' row)(hne:v.ownBlock=none\/v.ownBlock≠row):co w' base e size v n xs:=by
 refine⟨h.1,?_⟩;rcases h.2 with hn|⟨g,cap,cur,rfl,hb,⟨fz,hf,hgg⟩,rest⟩
 .exact .inl hn
 refine .inr ⟨g,cap,cur,rfl,hb,⟨fz,hf,?_⟩,rest⟩;rw[hg.block g (asi.1 hgg).1 (by simpa [Value.ownBlock] using hne)];exact hgg
theorem co.cells{w:World}{base:Nat}{e:TypeId}{size:Nat}{v:Value}{n:Nat}{xs:List Value}(h:co w base e size v n xs){g:Nat}(hg:v.ownBlock=some g):∀j u,xs[j]?=some u->w.cell? ((⟨g,0,none⟩:Addr).add j)=some u:=by
 intro j u hu;rcases h.2 with⟨rfl,_⟩|⟨g',cap,cur,rfl,_,⟨fz,_,hgg⟩,_,_,_,htake⟩
 .cases hg
 cases hg;have hadd:(⟨g',0,none⟩:Addr).add j=⟨g',j,none⟩:=by unfold Addr.add;split<;>simp_all
 rw[hadd,cell_of_row w g' j cur e fz hgg];rw[<- htake,yx] at hu;split at hu
 .simpa using hu
 cases hu
def pj(xs:Array MapEntry)(seen:Array Nat):List MapEntry:=xs.toList.filter fun e=> !seen.contains e.born
def RepB(F:Frz)(w:World)(b:Nat):Blk->Prop
 | .var cs _ k=>∃(xs:Array Value) (ty: { t:TypeId×Nat×Nat // RowK xs t k }),w.heap[b]? = some (.cells xs ty.1.1 ty.1.2)/\cs.length<=xs.size/\(∀c∈cs,c.one=true)/\
   (∀(j:Nat) c x,cs[j]?=some c->xs[j]?=some x->Rep F c x)/\∀p v,F p=some v->p.block≠b
 |.con cs=>∃g:Nat->Value,(∀c∈cs,c.one=true)/\(∀(j:Nat) c,cs[j]?=some c->F ⟨b,j,none⟩=some (g j))/\∀(j:Nat) c,cs[j]?=some c->Rep F c (g j)
 | .map es _=>∃(xs:Array MapEntry) (clock: { c:Nat // kj xs c }),w.heap[b]? = some (.map xs clock.1)/\F.m b=none/\xs.size=es.length/\
   ∀(j:Nat) k v x,es[j]?=some (k,v)->xs[j]?=some x->Rep F k x.key/\Rep F v x.val
 | .itr es cur _=>∃(m:Nat) (seen:Array Nat) (xs:Array MapEntry) (ck:Nat),w.heap[b]? = some (.mapIter (some m) ck seen ck)/\F.m m=some (xs,ck)/\(pj xs seen).length=es.length/\
   (∀(j:Nat) k v x,es[j]?=some (k,v)->(pj xs seen)[j]?=some x->Rep F k x.key/\Rep F v x.val)/\∀k v,cur=some (k,v)->∃x∈xs.toList,seen.back?=some x.born/\Rep F k x.key/\Rep F v x.val
structure Ext (F:Frz) (w:World) (F':Frz) (w':World):Prop where
 le:Le F F'
 fr:Sees F' w'
 new:∀p v,F' p=some v->F p=some v\/w.heap.size<=p.block
 newm:∀b xs,F'.m b=some xs->F.m b=some xs\/w.heap.size<=b
 bel:Below w.heap.size w w'
theorem Ext.refl{F:Frz}{w:World}(h:Sees F w):Ext F w F w:=⟨Le.refl F,h,fun _ _ h=>.inl h,fun _ _ h=>.inl h,Below.refl _ _⟩
theorem Ext.trans{F F' F'':Frz}{w w' w'':World}(h:Ext F w F' w')(k:Ext F' w' F'' w''):Ext F w F'' w'':=
 ⟨h.le.trans k.le,k.fr,fun p v e=>(k.new p v e).elim (h.new p v) (fun hb=>.inr (xc h.bel.size hb)),fun p v e=>(k.newm p v e).elim (h.newm p v) (fun hb=>.inr (xc h.bel.size hb)),h.bel.trans (k.bel.mono h.bel.size)⟩
theorem Ext.drew{F F':Frz}{w w':World}(h:Ext F w F' w'):Ext F w F' w'.drew:=⟨h.le,⟨h.fr.c,h.fr.m⟩,h.new,h.newm,h.bel.drew⟩
theorem uf{w:World}{p:Addr}{v:Value}(h:w.cell? p=some v):p.block<w.heap.size:=by
 unfold World.cell? at h;rcases xk p.block w.heap.size with hlt|hge
 .exact hlt
 rw[xb6 hge] at h;cases h
theorem RepB.itr_mono{F F':Frz}{w w':World}{b:Nat}{es:List (V×V)}{cur:Option (V×V)}{nm nm':Option Nat}(h:RepB F w b (.itr es cur nm))(hb:w'.heap[b]?=w.heap[b]?)(hle:Le F F'):RepB F' w' b (.itr es cur nm'):=by
 obtain⟨m,seen,xs,ck,h1,h2,h3,h4,h5⟩:=h;refine⟨m,seen,xs,ck,hb.trans h1,hle.m _ _ h2,h3,fun j k v x e1 e2=>⟨((h4 j k v x e1 e2).1).mono hle,((h4 j k v x e1 e2).2).mono hle⟩,fun k v e=>?_⟩;obtain⟨x,g1,g2,g3,g4⟩:=h5 k v e;exact⟨x,g1,g2,g3.mono hle,g4.mono hle⟩
theorem RepB.ext{F F':Frz}{w w':World}{b:Nat}{k:Blk}(h:RepB F w b k)(hx:Ext F w F' w'):RepB F' w' b k:=by
 cases k with
 |var cs _ _=>
  obtain⟨xs,ty,h1,h2,h3,h4,h5⟩:=h
  have hlt:b<w.heap.size:=by
   rcases xk b w.heap.size with hlt|hge
   .exact hlt
   rw[xb6 hge] at h1;cases h1
  refine⟨xs,ty,(hx.bel.block b hlt).trans h1,h2,h3,fun j c x e1 e2=>(h4 j c x e1 e2).mono hx.le,fun p v e=>?_⟩;rcases hx.new p v e with e'|e'
  .exact h5 p v e'
  omega
 |con cs=>
  obtain⟨g,h1,h2,h3⟩:=h;exact⟨g,h1,fun j c e=>hx.le _ _ (h2 j c e),fun j c e=>(h3 j c e).mono hx.le⟩
 |itr es cur _=>
  have hlt:b<w.heap.size:=by
   obtain⟨m,seen,xs,ck,h1,_⟩:=h;rcases xk b w.heap.size with hlt|hge
   .exact hlt
   rw[xb6 hge] at h1;cases h1
  exact RepB.itr_mono h (hx.bel.block b hlt) hx.le
 |map es _=>
  obtain⟨xs,ck,h1,h0,h2,h3⟩:=h
  have hlt:b<w.heap.size:=by
   rcases xk b w.heap.size with hlt|hge
   .exact hlt
   rw[xb6 hge] at h1;cases h1
  have h0':F'.m b=none:=by
   cases e:F'.m b with
   |none=>rfl
   |some ys=>
    rcases hx.newm b ys e with e'|e'
    .rw[h0] at e';cases e'
    omega
  exact⟨xs,ck,(hx.bel.block b hlt).trans h1,h0',h2,fun j k v x e1 e2=>⟨((h3 j k v x e1 e2).1).mono hx.le,((h3 j k v x e1 e2).2).mono hx.le⟩⟩
theorem RepT.mono{F F':Frz}{ρ:Nat->Nat}{tv:TV}{y:Value}(h:RepT F ρ tv y)(hx:Le F F'):RepT F' ρ tv y:=by
 cases tv with
 |v x=>exact Rep.mono hx h
 |_=>exact h
end Go.Ab
namespace Go.Ab
open Go.RowKit
def aggB(P:Program)(t:TypeId):Option Bool:=
 match P.underlying t with
 |some (.struct _)=>some true
 |some (.array _ _)=>some true
 |some _=>some false
 |none=>none
def fldV(P:Program)(s:TypeId)(f:Nat):Option (Nat×TypeId):=
 match P.underlying s with
 |some (.struct fs)=>match fs[f]? with
  |some fd=>if P.cellsOf fd.type=0 then none else some (fd.offset,fd.type)
  |none=>none
 |_=>none
def slV(P:Program)(t:TypeId):Option (TypeId×Nat):=
 match P.underlying t with
 |some (.slice e)=>if P.cellsOf e=0 then none else some (e,P.cellsOf e)
 |_=>none
def strB(P:Program)(t:TypeId):Bool:=match P.underlying t with|some .string=>true|_=>false
def jg1(P:Program)(t:TypeId):Bool:=match P.underlying t with|some .bool=>true|_=>false
def ifcB(P:Program)(t:TypeId):Bool:=match P.underlying t with|some (.interface _)=>true|_=>false
def intK(P:Program)(t:TypeId):Option IntKind:=match P.underlying t with|some (.int k)=>some k|_=>none
def arrV(P:Program)(t:TypeId):Option (Nat×TypeId×Nat):=
 match P.underlying t with
 |some (.array n e)=>if P.cellsOf e=0 then none else some (n,e,P.cellsOf e)
 |_=>none
def cy:Nat->List V->Option (List V)
 |0,_=>some []
 |n+1,c::cs=>(cy n cs).map (c :: ·)
 |_+1,[]=>none
theorem ja5:∀ {n:Nat} {cs r:List V},cy n cs=some r->r=cs.take n/\n<=cs.length
 |0,_,_,h=>by simp[cy] at h;subst h;simp
 |n+1,c::cs,r,h=>by
  simp only[cy] at h;cases h':cy n cs with
  |none=>rw[h'] at h;cases h
  |some r'=>
   rw[h'] at h;obtain rfl:r=c::r':=by simpa using h.symm
   obtain⟨rfl,hl⟩:=ja5 h';exact⟨smq,by simp;omega⟩
 |_+1,[],_,h=>by simp[cy] at h
def ldV(P:Program)(t:TypeId)(cs:List V):Option V:=
 match aggB P t with
 |some true=>(cy (P.cellsOf t) cs).map .agg
 |some false=>cs.head?
 |none=>none
def bitF(op:BinOp)(k:IntKind)(a b:Int):Int:=
 match op with
 |.and=>k.wrap (BitVec.ofInt k.bits a &&& BitVec.ofInt k.bits b).toNat
 |.or=>k.wrap (BitVec.ofInt k.bits a ||| BitVec.ofInt k.bits b).toNat
 |.xor=>k.wrap (BitVec.ofInt k.bits a ^^^ BitVec.ofInt k.bits b).toNat
 |_=>k.wrap (BitVec.ofInt k.bits a &&& ~~~BitVec.ofInt k.bits b).toNat
def notF(k:IntKind)(a:Int):Int:=bitF .xor k (if k.signed then -1 else k.max) a
def shF(l:Bool)(k:IntKind)(a n:Int):Int:=bif l then k.wrap (a*2 ^ min n.toNat k.bits) else a.fdiv (2 ^ min n.toNat k.bits)
def shV(l:Bool)(k:IntKind)(a n:Int):Option V:=if 0<=n then some (.val (.int k (shF l k a n))) else none
theorem jqq{l:Bool}{k:IntKind}{a n:Int}(h:0<=n):shV l k a n=some (.val (.int k (shF l k a n))):=ve h
def jd2(op:BinOp)(k:IntKind)(a b:Int):Option V:=
 match op with
 |.add=>some (.val (.int k (k.wrap (a+b))))
 |.sub=>some (.val (.int k (k.wrap (a-b))))
 |.mul=>some (.val (.int k (k.wrap (a*b))))
 |.quo=>if b=0 then none else some (.val (.int k (k.wrap (a.tdiv b))))
 |.rem=>if b=0 then none else some (.val (.int k (a.tmod b)))
 |.eql=>some (.val (.bool (decide (a=b))))
 |.neq=>some (.val (.bool (!decide (a=b))))
 |.lss=>some (.val (.bool (decide (a<b))))
 |.leq=>some (.val (.bool (decide (a<=b))))
 |.gtr=>some (.val (.bool (decide (b<a))))
 |.geq=>some (.val (.bool (decide (b<=a))))
 |.and=>some (.val (.int k (bitF .and k a b)))
 |.or=>some (.val (.int k (bitF .or k a b)))
 |.xor=>some (.val (.int k (bitF .xor k a b)))
 |.andNot=>some (.val (.int k (bitF .andNot k a b)))
 |_=>none
def jcs(op:BinOp)(a b:List UInt8):Option V:=
 match op with
 |.add=>if a.length+b.length<=9223372036854775807 then some (.str (a++b)) else none
 |.eql=>some (.val (.bool (a == b)))
 |.neq=>some (.val (.bool (!(a == b))))
 |.lss=>some (.val (.bool (Op.bytesLess a b)))
 |.leq=>some (.val (.bool (Op.bytesLess a b || a == b)))
 |.gtr=>some (.val (.bool (!(Op.bytesLess a b || a == b))))
 |.geq=>some (.val (.bool (!Op.bytesLess a b)))
 |_=>none
def eqOp(op:BinOp)(b:Bool):Option V:=
 match op with
 |.eql=>some (.val (.bool b))
 |.neq=>some (.val (.bool (!b)))
 |_=>none
inductive Lf where
 |i
 |b
 |s
def eqC:Lf->V->V->Option Bool
 |.i,.val (.int j a),.val (.int k b)=>if j=k then some (decide (a=b)) else none
 |.b,.val (.bool a),.val (.bool b)=>some (a == b)
 |.s,.str a,.str b=>some (a == b)
 |_,_,_=>none
def gm:List Lf->List V->List V->Option Bool
 |[],[],[]=>some true
 |l::ls,x::xs,y::ys=>match eqC l x y,gm ls xs ys with
  |some p,some q=>some (p && q)
  |_,_=>none
 |_,_,_=>none
def jft(g:TypeId->Option (List Lf)):Nat->List Field->Option (List Lf)
 |_,[]=>some []
 | k, f :: r => if f.name ≠ "_" /\ f.offset = k then match g f.type with
  |some ks=>(jft g (k+ks.length) r).map (ks ++ ·)
  |none=>none
  else none
def ux(P:Program):Nat->TypeId->Option (List Lf)
 |0,_=>none
 |d+1,t=>match P.underlying t with
  |some (.int _)=>if aggB P t=some false then some [.i] else none
  |some .bool=>if aggB P t=some false then some [.b] else none
  |some .string=>if aggB P t=some false then some [.s] else none
  |some (.struct fs)=>if P.stoodInHeld t=false/\aggB P t=some true then match jft (ux P d) 0 fs.toList with
   |some ks=>if P.cellsOf t=ks.length then some ks else none
   |none=>none
   else none
  |_=>none
def eqT(P:Program)(t:TypeId):Option (List Lf):=
 match P.underlying t with
 |some (.struct _)=>if P.eqGuardType P.depth t=false then ux P 8 t else none
 |_=>none
def binV(P:Program)(op:BinOp)(t:TypeId)(x y:V):Option V:=
 match x,y with
 |.val (.int j a),.val (.int k b)=>match op with
  |.shl=>shV true j a b
  |.shr=>shV false j a b
  |_=>if j=k then jd2 op j a b else none
 |.val (.bool a),.val (.bool b)=>if jg1 P t=true then eqOp op (a == b) else none
 |.str a,.str b=>jcs op a b
 |.slice _ (_::_),.val (.slice none 0 0)=>if(slV P t).isSome=true then eqOp op false else none
 |.val (.slice none 0 0),.val (.slice none 0 0)=>if(slV P t).isSome=true then eqOp op true else none
 |.ifc,.val .nilIface=>if ifcB P t=true then eqOp op false else none
 |.agg cs,.agg ds=>match eqT P t with
  |some ks=>match gm ks cs ds with
   |some b=>eqOp op b
   |none=>none
  |none=>none
 |_,_=>none
def jfz(P:Program)(_src dst:TypeId)(x:V):Option V:=
 match x with
 |.val (.int _ n)=>match intK P dst with|some k=>some (.val (.int k (k.wrap n)))|none=>none
 |.str l=>if strB P dst=true then some (.str l) else none
 |_=>none
def nums:V->Option Int
 |.val (.int _ n)=>some n
 |_=>none
def cutV(n:Nat)(lo hi:Option V):Option (Nat×Nat):=
 match (match hi with|none=>some (n:Int)|some v=>nums v),(match lo with|none=>some 0|some v=>nums v) with
 |some h,some l=>if 0<=l/\l<=h/\h<=n then some (l.toNat,h.toNat) else none
 |_,_=>none
def vOf:Option TV->Option V
 |some (.v x)=>some x
 |_=>none
def vsOf(ρ:Operand->Option TV):List Operand->Option (List V)
 |[]=>some []
 |x::r=>match vOf (ρ x),vsOf ρ r with
  |some v,some vs=>some (v::vs)
  |_,_=>none
def jsa(v:Option V):Option TV:=v.map .v
end Go.Ab
namespace Go.Ab
open Go.RowKit
variable {P : Program}{F : Frz}{w : World}
variable {t:TypeId}{es:List (List V)}{size:Nat}{e:TypeId}{x:Value}{n:Nat}{ft:TypeId}{off:Nat}{s:TypeId}{v:V}{f:Nat}{len:Nat}
theorem jg6{d:TypeDesc}(h:P.underlying t=some d):∃i,P.info? t=some i:=by
 unfold Program.underlying at h;cases hi:P.info? t with
 |none=>rw[hi] at h;cases h
 |some i=>exact⟨i,rfl⟩
theorem mc(h:P.cellsOf t≠0):∃i,P.info? t=some i:=by
 unfold Program.cellsOf at h;cases hi:P.info? t with
 |none=>rw[hi] at h;simp at h
 |some i=>exact⟨i,rfl⟩
theorem ik{i:TypeInfo}(h:P.info? t=some i)(w:World):(sizeOf t).run P w=.ok (P.cellsOf t) w:=by
 simp[sizeOf,typeInfo,h,Program.cellsOf]
theorem rz{b:Bool}(h:aggB P t=some b)(w:World):(isAgg t).run P w=.ok b w:=by
 unfold aggB at h;unfold isAgg;cases hu:P.underlying t with
 |none=>rw[hu] at h;cases h
 |some d=>
  rw[hu] at h;simp only[Sem.run_bind,run_underlying hu,Result.andThen_ok];cases d<;>simp_all
structure At (F:Frz) (a:Addr) (cs:List V) (g:Nat->Value):Prop where
 one:∀c∈cs,c.one=true
 at_:∀(j:Nat) c,cs[j]?=some c->F (a.add j)=some (g j)
 rep:∀(j:Nat) c,cs[j]?=some c->Rep F c (g j)
theorem At.drop{a:Addr}{cs:List V}{g:Nat->Value}(h:At F a cs g)(n:Nat):At F (a.add n) (cs.drop n) (fun j=>g (n+j)):=
 ⟨fun c hc=>h.one c (xbn hc),fun j c hc=>by rw[add_add];exact h.at_ _ c zez,fun j c hc=>h.rep _ c zez⟩
theorem qba{a:Addr}{cs:List V}{g:Nat->Value}(hF:Sees F w)(h:At F a cs g)(hl:ldV P t cs=some v):
  ∃x,(loadVar t a).run P w=.ok x w/\Rep F v x:=by
 unfold ldV at hl;cases hb:aggB P t with
 |none=>rw[hb] at hl;cases hl
 |some b=>
  rw[hb] at hl;cases b with
  |true=>
   simp only[msi] at hl;obtain⟨r,hr,rfl⟩:=hl;obtain⟨rfl,hn⟩:=ja5 hr
   have hi:∃i,P.info? t=some i:=by
    unfold aggB at hb;cases hu:P.underlying t with
    |none=>rw[hu] at hb;cases hb
    |some d=>exact jg6 hu
   obtain⟨i,hi⟩:=hi;have hrun:=run_loadCells (P:=P) w a (P.cellsOf t) g (fun j hj=>hF _ _ (h.at_ j cs[j] (gge omq)));refine⟨.agg ((List.range (P.cellsOf t)).map g).toArray,by simp[loadVar,rz hb,ik hi,hrun,Result.andThen],?_⟩;refine .agg zep (fun c hc=>h.one c (xb5 hc)) ?_;intro j c x h1 h2
   have hj:j<P.cellsOf t:=by
    rcases xk j (P.cellsOf t) with hj|hj
    .exact hj
    rw[xay zep] at h1;cases h1
   have h1':cs[j]?=some c:=by simpa [List.getElem?_take,hj] using h1
   have:x=g j:=by simpa [hj] using h2.symm
   subst this;exact h.rep j c h1'
  |false=>
   simp only[xda] at hl;have:=hF _ _ (h.at_ 0 v hl);refine⟨g 0,?_,h.rep 0 v hl⟩;have h0:a.add 0=a:=by simp[Addr.add]
   rw[h0] at this;simp[loadVar,rz hb,Result.andThen,this]
theorem jhz{t:TypeId}{cs:List V}{xs:Array Value}{off:Nat}{v:V}(hl:xs.size=cs.length)(ho:∀c∈cs,c.one=true) 
  (hr:∀(j:Nat) c x,cs[j]?=some c->xs[j]?=some x->Rep F c x) (h:ldV P t (cs.drop off)=some v):
  ∃x,(part t xs off).run P w=.ok x w/\Rep F v x:=by
 unfold ldV at h;cases hb:aggB P t with
 |none=>rw[hb] at h;cases h
 |some b=>
  rw[hb] at h;cases b with
  |true=>
   simp only[msi] at h;obtain⟨r,hr',rfl⟩:=h;obtain⟨rfl,hn⟩:=ja5 hr'
   have hi:∃i,P.info? t=some i:=by
    unfold aggB at hb;cases hu:P.underlying t with
    |none=>rw[hu] at hb;cases hb
    |some d=>exact jg6 hu
   obtain⟨i,hi⟩:=hi;simp only[xw] at hn;refine⟨.agg (xs.extract off (off+P.cellsOf t)),by simp[part,rz hb,ik hi,Result.andThen],?_⟩;refine .agg zep (fun c hc=>ho c (xbn (xb5 hc))) ?_;intro j c x h1 h2
   have hj:j<P.cellsOf t:=by
    rcases xk j (P.cellsOf t) with hj|hj
    .exact hj
    rw[xay zep] at h1;cases h1
   have h1':cs[off+j]?=some c:=by simpa [List.getElem?_take,hj] using h1
   have h2':xs[off+j]?=some x:=by
    rw[Array.getElem?_extract] at h2;split at h2
    .exact h2
    cases h2
   exact hr _ c x h1' h2'
  |false=>
   have h':cs[off]?=some v:=by simpa [List.head?_eq_getElem?] using h
   have hlt:off<xs.size:=by
    rcases xk off cs.length with hj|hj
    .omega
    rw[xay hj] at h';cases h'
   refine⟨xs[off],?_,hr off v _ h' (xu hlt)⟩;simp[part,rz hb,Result.andThen,Array.getElem?_eq_getElem hlt]
theorem jx4(h:fldV P s f=some (off,ft)):
  ∃fs fd,P.underlying s=some (.struct fs)/\fs[f]?=some fd/\fd.offset=off/\fd.type=ft/\P.cellsOf ft≠0:=by
 unfold fldV at h;split at h
 .rename_i fs hu;split at h
  .rename_i fd hf;split at h
   .cases h
   rename_i hz;simp only[vk,xo] at h;obtain⟨rfl,rfl⟩:=h;exact⟨fs,fd,hu,hf,rfl,rfl,hz⟩
  cases h
 cases h
theorem jk0(h:fldV P s f=some (off,ft))(a:Addr)(w:World):
  (Instr.fieldAt s (.pointer (some a)) f).run P w=.ok (.pointer (some (a.add off))) w:=by
 obtain⟨fs,fd,hu,hf,rfl,rfl,hz⟩:=jx4 h;obtain⟨i,hi⟩:=mc hz;simp[Instr.fieldAt,run_underlying hu,hf,Result.andThen,Instr.sureAddr,fieldPlace,ik hi,hz]
theorem ip(h:slV P t=some (e,n)):P.underlying t=some (.slice e)/\P.cellsOf e=n/\n≠0:=by
 unfold slV at h;split at h
 .rename_i e' hu;split at h
  .cases h
  rename_i hz;simp only[vk,xo] at h;obtain⟨rfl,rfl⟩:=h;exact⟨hu,rfl,hz⟩
 cases h
theorem jbe(h:slV P t=some (e,n))(k:IntKind)(i:Int)(a:Addr)(len cap:Nat)(h0:0<=i)(h1:i<len)(w:World):
  (Instr.indexAt t (.slice (some a) len cap) (.int k i)).run P w=.ok (.pointer (some (a.add (i.toNat*n)))) w:=by
 obtain⟨hu,rfl,hz⟩:=ip h;obtain⟨inf,hi⟩:=mc hz;simp[Instr.indexAt,asIntOf,run_underlying hu,Result.andThen,ik hi,h0,h1]
theorem qyk{size:Nat}{es:List (List V)}{a:Addr}{g:Nat->Nat->Value} 
  (ho:∀e∈es,∀c∈e,c.one=true)
  (hg:∀(i j:Nat) e c,es[i]?=some e->e[j]?=some c->F (a.add (i*size+j))=some (g i j))
  (hr:∀(i j:Nat) e c,es[i]?=some e->e[j]?=some c->Rep F c (g i j)) {k:Nat} {e:List V} (he:es[k]?=some e):
  At F (a.add (k*size)) e (g k):=
 ⟨ho e (vp he),fun j c hc=>by rw[add_add];exact hg k j e c he hc,fun j c hc=>hr k j e c he hc⟩
theorem jy3(h:arrV P t=some (len,e,n)):P.underlying t=some (.array len e)/\n=P.cellsOf e/\P.cellsOf e≠0:=by
 unfold arrV at h;split at h
 .rename_i m e' hu;split at h
  .cases h
  rename_i hz;cases h;exact⟨hu,rfl,hz⟩
 cases h
theorem jhp(h:arrV P t=some (len,e,n))(k:IntKind)(i:Int)(a:Addr)(h0:0<=i)(h1:i<len)(w:World):
  (Instr.indexAt t (.pointer (some a)) (.int k i)).run P w=.ok (.pointer (some (a.add (i.toNat*n)))) w:=by
 obtain⟨hu,rfl,hz⟩:=jy3 h;obtain⟨inf,hi⟩:=mc hz;simp[Instr.indexAt,Instr.sureAddr,asIntOf,run_underlying hu,Result.andThen,ik hi,h0,h1]
theorem jp0{a:Addr}{cs:List V}{g:Nat->Value}(h:At F a cs g):Rep F (.row cs) (.pointer (some a)):=.row g h.one h.at_ h.rep
theorem rm{cs:List V}(h:Rep F (.row cs) x):∃a g,x=.pointer (some a)/\At F a cs g:=by
 cases h with
 |row g ho hg hr=>exact⟨_,g,rfl,ho,hg,hr⟩
theorem py(h:Rep F (.slice size es) x):
  (x=.slice none 0 0/\es=[])\/∃(a:Addr) (cap:Nat) (g:Nat->Nat->Value),x=.slice (some a) es.length cap/\es.length<=cap/\cap<=maxLen/\(∀e∈es,e.length=size)/\(∀e∈es,∀c∈e,c.one=true)/\
   (∀(i j:Nat) e c,es[i]?=some e->e[j]?=some c->F (a.add (i*size+j))=some (g i j))/\
   (∀(i j:Nat) e c,es[i]?=some e->e[j]?=some c->Rep F c (g i j)):=by
 cases h with
 |snil=>exact .inl ⟨rfl,rfl⟩
 |slice g hc hm hs ho hg hr=>exact .inr ⟨_,_,g,rfl,hc,hm,hs,ho,hg,hr⟩
theorem ja0(h:Rep F (.slice size es) x):∃a c,x=.slice a es.length c:=by
 rcases py h with⟨rfl,rfl⟩|⟨a,cap,g,rfl,_⟩
 .exact⟨none,0,rfl⟩
 exact⟨_,_,rfl⟩
theorem jwu{op:BinOp}{k:IntKind}{a b:Int}(h:jd2 op k a b=some v)(t:TypeId)(w:World):
    ∃x,v=.val x/\(binOp op t (.int k a) (.int k b)).run P w=.ok x w:=by
  cases op<;>simp only[jd2] at h <;>
    first
    |(cases h;refine⟨_,rfl,?_⟩;simp[binOp,Op.intArith];done)
    |(cases h;refine⟨_,rfl,?_⟩;simp[binOp,Op.intCmp,bne,BEq.beq];done)
    |(cases h;refine⟨_,rfl,?_⟩;simp[binOp,Op.intBits,bitF];done)
    | (split at h
       . cases h
       rename_i hz;cases h;refine⟨_,rfl,?_⟩;simp[binOp,Op.intDiv,hz]
       done)
    |cases h
end Go.Ab
namespace Go.Ab
open Go.RowKit
def nu:Option TV->Option TV
 |some .u=>none
 |r=>r
def memV(h:List (Nat×Blk))(id off:Nat):Option (List V):=
 match look id h with
 |some (.var cs _ _)=>some (cs.drop off)
 |some (.con cs)=>some (cs.drop off)
 |_=>none
def behind(h:List (Nat×Blk)):Option TV->Option (List V)
 |some (.v (.row cs))=>some cs
 |some (.p id off)=>memV h id off
 |_=>none
def capV(h:List (Nat×Blk)):Option TV->Option V
 |some (.v x)=>some x
 |some (.p id off)=>match look id h with
  |some (.con cs)=>some (.row (cs.drop off))
  |some (.var _ (some b) _)=>some (.val (.pointer (some ⟨b,off,none⟩)))
  |_=>none
 |_=>none
def ki(ρ:Operand->Option TV)(h:List (Nat×Blk)):List Operand->Option (List V)
 |[]=>some []
 |x::r=>match capV h (ρ x),ki ρ h r with
  |some v,some vs=>some (v::vs)
  |_,_=>none
def lenV(P:Program)(t:TypeId)(h:List (Nat×Blk)):Option TV->Option V
 |some (.v (.slice _ es))=>if(slV P t).isSome=true then some (.val (.int .i64 es.length)) else none
 |some (.v (.str l))=>if strB P t=true then some (.val (.int .i64 l.length)) else none
 |some (.v (.val (.slice none 0 0)))=>if(slV P t).isSome=true then some (.val (.int .i64 0)) else none
 |some (.v (.val (.slice (some _) n _)))=>if(slV P t).isSome=true then some (.val (.int .i64 n)) else none
 |some (.s _ _ n _)=>if(slV P t).isSome=true then some (.val (.int .i64 n)) else none
 |some (.m id)=>match look id h,P.underlying t with
  |some (.map es _),some (.map _ _)=>some (.val (.int .i64 es.length))
  |_,_=>none
 |_=>none
def rb(P:Program)(t:TypeId):Option (TypeId×TypeId):=
 match P.underlying t with
 |some (.map k e)=>some (k,e)
 |_=>none
def ic(P:Program)(t:TypeId):Option Value:=(P.info? t).bind (·.zero)
def jk:V->V->Option Bool
 |.val (.int j a),.val (.int k b)=>if j=k then some (decide (a=b)) else none
 |.str a,.str b=>some (a == b)
 |_,_=>none
def keyT(P:Program)(t:TypeId)(x:V):Bool:=
 match P.underlying t,x with
 |some (.int _),.val (.int _ _)=>true
 |some .string,.str _=>true
 |_,_=>false
def ma(k:V):List (V×V)->Option (Option V)
 |[]=>some none
 |(k',v)::r=>match jk k k' with
  |some true=>some (some v)
  |some false=>ma k r
  |none=>none
def eh(b:Nat):List (Nat×Blk)->Option Nat
 |[]=>none
 |(i,k)::r=>match k.nm with
  |some b'=>if b=b' then some i else eh b r
  |none=>eh b r
def nmOf:Option Blk->Option Nat
 |some k=>k.nm
 |none=>none
def dj(b:Nat)(h:List (Nat×Blk)):Option Nat:=match eh b h with
 |some id=>if nmOf (look id h)=some b then some id else none
 |none=>none
def mapB:Option Blk->Option (List (V×V))
 |some (.map es _)=>some es
 |_=>none
def mapN(b:Nat)(h:List (Nat×Blk)):Option (List (V×V)):=match dj b h with
 |some id=>mapB (look id h)
 |none=>none
def mapE(h:List (Nat×Blk)):Option TV->Option (List (V×V))
 |some (.m id)=>match look id h with
  |some (.map es _)=>some es
  |_=>none
 |some (.v (.map ks vs))=>some (ks.zip vs)
 |some (.v (.val (.map none)))=>some []
 |some (.v (.val (.map (some b))))=>mapN b h
 |_=>none
def idxV(es:List (List V))(i:V):Option (List V):=
 match i with
 |.val (.int _ n)=>if 0<=n then es[n.toNat]? else none
 |_=>none
def bytV(l:List UInt8)(i:V):Option V:=
 match i with
 |.val (.int _ n)=>if 0<=n then(l[n.toNat]?).map fun b=>.val (.int .u8 b.toNat) else none
 |_=>none
def jcb(P:Program)(t:TypeId)(x:V)(lo hi:Option V):Option V:=
 match x with
 |.str l=>if strB P t=true then(cutV l.length lo hi).map fun(a,b)=>.str ((l.take b).drop a) else none
 |.slice size es=>if(slV P t).map (·.2)=some size then(cutV es.length lo hi).map fun(a,b)=>.slice size ((es.take b).drop a) else none
 |_=>none
def idxS(m:Nat)(i:V):Option Nat:=
 match i with
 |.val (.int _ n)=>if 0<=n/\n<m then some n.toNat else none
 |_=>none
def cutS(id off size:Nat):Nat×Nat->TV
 |(a,b)=>if a=b then .v (.slice size []) else .s id (off+a*size) (b-a) size
def optV(ρ:Operand->Option TV):Option Operand->Option (Option V)
 |none=>some none
 |some x=>(vOf (ρ x)).map some
def minV(b:Bool):Option V->Option V->Option V
 |some (.val (.int k x)),some (.val (.int _ y))=>some (.val (.int k (bif b then(if y<x then y else x) else(if y > x then y else x))))
 |_,_=>none
def evq(P:Program)(ρ:Operand->Option TV)(h:List (Nat×Blk))(o:Op):Option TV:=
 match o with
 |.move x=>nu (ρ x)
 |.assign x=>nu (ρ x)
 |.nilCheck x=>match ρ x with
  |some (.p id off)=>some (.p id off)
  |some (.v (.row cs))=>some (.v (.row cs))
  |_=>none
 |.pick c a b=>match vOf (ρ c) with
  |some (.val (.bool t))=>bif t then nu (ρ a) else nu (ρ b)
  |_=>none
 |.load t a=>(behind h (ρ a)).bind fun cs=>(ldV P t cs).map .v
 |.fieldAddr s x f=>match fldV P s f,ρ x with
  |some (off,_),some (.v (.row cs))=>some (.v (.row (cs.drop off)))
  |some (off,_),some (.p id o)=>some (.p id (o+off))
  |_,_=>none
 |.field s x f=>match fldV P s f,vOf (ρ x) with
  |some (off,ft),some (.agg cs)=>(ldV P ft (cs.drop off)).map .v
  |_,_=>none
 |.indexAddr t x i=>match arrV P t with
  |some (n,_,size)=>match ρ x,vOf (ρ i) with
   |some (.p id off),some i=>(idxS n i).map fun k=>.p id (off+k*size)
   |some (.v (.row cs)),some i=>(idxS n i).map fun k=>.v (.row (cs.drop (k*size)))
   |_,_=>none
  |none=>match slV P t,ρ x,vOf (ρ i) with
   |some (_,n),some (.v (.slice size es)),some i=>if n=size then(idxV es i).map fun e=>.v (.row e) else none
   |some (_,n),some (.s id off m size),some i=>if n=size then(idxS m i).map fun k=>.p id (off+k*size) else none
   |some (_,n),some (.v (.val (.slice (some ⟨r,off,none⟩) m _))),some i=>match dj r h with
    |some id=>(idxS m i).map fun k=>.p id (off+k*n)
    |none=>none
   |_,_,_=>none
 |.index t x i=>match arrV P t with
  |some (n,e,size)=>match vOf (ρ x),vOf (ρ i) with
   |some (.agg cs),some i=>(idxS n i).bind fun k=>(ldV P e (cs.drop (k*size))).map .v
   |_,_=>none
  |none=>match strB P t,vOf (ρ x),vOf (ρ i) with
   |true,some (.str l),some i=>(bytV l i).map .v
   |_,_,_=>none
 |.slice t x lo hi none=>match ρ x,optV ρ lo,optV ρ hi with
  |some (.v x),some lo,some hi=>(jcb P t x lo hi).map .v
  |some (.s id off m size),some lo,some hi=>if(slV P t).map (·.2)=some size then(cutV m lo hi).map (cutS id off size) else none
  |_,_,_=>none
 |.binOp op t x y _=>match vOf (ρ x),vOf (ρ y) with
  |some (.val .nilIface),some (.val .nilIface)=>match y with
   |.const _=>if ifcB P t=true then(eqOp op true).map .v else none
   |_=>none
  |some x,some y=>(binV P op t x y).map .v
  |_,_=>none
 |.unOp .not _ x=>match vOf (ρ x) with
  |some (.val (.bool b))=>some (.v (.val (.bool (!b))))
  |_=>none
 |.unOp .neg _ x=>match vOf (ρ x) with
  |some (.val (.int k n))=>some (.v (.val (.int k (k.wrap (0-n)))))
  |_=>none
 |.unOp .xor _ x=>match vOf (ρ x) with
  |some (.val (.int k n))=>some (.v (.val (.int k (notF k n))))
  |_=>none
 |.convert src dst x=>match (P.underlying src).isSome,vOf (ρ x) with
  |true,some x=>(jfz P src dst x).map .v
  |_,_=>none
 |.extract x i=>match vOf (ρ x) with
  |some (.tup vs)=>(vs[i]?).map .v
  |_=>none
 |.makeFunc (.func f) first cap=>if first.size=0 then(ki ρ h cap.toList).map fun vs=>.v (.func f vs) else none
 |.lookup t x i ok=>match rb P t,mapE h (ρ x),vOf (ρ i) with
  |some (kt,et),some es,some k=>match ic P et with
   |some z=>if keyT P kt k=true/\pi z=true then(ma k es).map fun r=>.v (bif ok then .tup [r.getD (nf z),.val (.bool r.isSome)] else r.getD (nf z)) else none
   |none=>none
  |_,_,_=>none
 |.call c=>match c.callee with
  |.builtin .len=>match c.args.toList,c.argTypes.toList with
   |[x],[t]=>(lenV P t h (ρ x)).map .v
   |_,_=>none
  |.builtin .min=>match c.args.toList with
   |[x,y]=>(minV true (vOf (ρ x)) (vOf (ρ y))).map .v
   |_=>none
  |.builtin .max=>match c.args.toList with
   |[x,y]=>(minV false (vOf (ρ x)) (vOf (ρ y))).map .v
   |_=>none
  |_=>none
 |_=>none
end Go.Ab
namespace Go.Ab
open Go.RowKit
variable {P : Program}{F : Frz}{w : World}{ρ : Nat -> Nat}{h : List (Nat × Blk)}{ρa : Operand -> Option TV}{ρc : Operand -> Value}
variable {t:TypeId}{ms:Array (String×TypeId)}{b:Bool}{x:Value}{op:BinOp}{y:Value}{r:Option TV}{news:List V}{ks:List Lf}{lo:Option V}{hi:Option V}{d:TypeDesc}{off:Nat}{k:IntKind}{kt:TypeId}{tv:TV}{u:V}{e:TypeId}{n:Nat}{a:Nat}
theorem ql(h:nu r=some tv):r=some tv:=by
 unfold nu at h;split at h
 .cases h
 exact h
theorem jeg{x:V}(h:vOf r=some x):r=some (.v x):=by
 unfold vOf at h;split at h
 .cases h;rfl
 cases h
structure Good (F:Frz) (w:World) (ρ:Nat->Nat) (h:List (Nat×Blk)) (ρa:Operand->Option TV) (ρc:Operand->Value):Prop where
 sees:Sees F w
 blk:∀id k,look id h=some k->RepB F w (ρ id) k
 opr:∀x tv,ρa x=some tv->RepT F ρ tv (ρc x)
 nb:∀id k b,look id h=some k->k.nm=some b->ρ id=b
theorem Good.v(G:Good F w ρ h ρa ρc){x:Operand}{v:V}(hx:vOf (ρa x)=some v):Rep F v (ρc x):=G.opr x _ (jeg hx)
theorem qv6{w:World}{b j:Nat}{xs:Array Value}{ty:TypeId}{fz:Nat×Nat}(h:w.heap[b]?=some (.cells xs ty fz)):w.cell? ⟨b,off+j,none⟩=xs[off+j]? := by
 simp[World.cell?,h]
theorem ju7(G:Good F w ρ h ρa ρc){x:Operand}{cs:List V}{v:V}(hb:behind h (ρa x)=some cs)(hl:ldV P t cs=some v):
  ∃y,(Instr.loadAt t (ρc x)).run P w=.ok y w/\Rep F v y:=by
 unfold behind at hb;split at hb
 .rename_i cs' hx;cases hb;obtain⟨a,g,e,hat⟩:=rm (show Rep F (.row _) (ρc x) from G.opr x _ hx);obtain⟨y,hr,hy⟩:=qba (P:=P) G.sees hat hl;exact zcp
 .rename_i id off hx;have e:=show ρc x=_ from G.opr x _ hx
  unfold memV at hb;split at hb
  .rename_i cs' _ _ hk;cases hb;obtain⟨xs,ty,h1,h2,h3,h4,h5⟩:=G.blk id _ hk
   have hnaive:∃y,(loadVar t ⟨ρ id,off,none⟩).run P w=.ok y w/\Rep F v y:=by
    unfold ldV at hl;cases hag:aggB P t with
    |none=>rw[hag] at hl;cases hl
    |some b=>
     rw[hag] at hl;cases b with
     |true=>
      simp only[msi] at hl;obtain⟨r,hr,rfl⟩:=hl;obtain⟨rfl,hn⟩:=ja5 hr;simp only[xw] at hn
      have hi:∃i,P.info? t=some i:=by
       unfold aggB at hag;cases hu:P.underlying t with
       |none=>rw[hu] at hag;cases hag
       |some d=>exact jg6 hu
      obtain⟨i,hi⟩:=hi
      have hrun:=run_loadCells (P:=P) w ⟨ρ id,off,none⟩ (P.cellsOf t) (fun j=>xs.getD (off+j) undef) (fun j hj=>by
       rw[eu,qv6 h1];have:off+j<xs.size:=omq
       simp[this])
      refine⟨.agg ((List.range (P.cellsOf t)).map (fun j=>xs.getD (off+j) undef)).toArray,by simp[loadVar,rz hag,ik hi,hrun,Result.andThen],?_⟩;refine .agg zep (fun c hc=>h3 c (xbn (xb5 hc))) ?_;intro j c x h1' h2'
      have hj:j<P.cellsOf t:=by
       rcases xk j (P.cellsOf t) with hj|hj
       .exact hj
       rw[xay zep] at h1';cases h1'
      have h1'':cs'[off+j]?=some c:=by simpa [List.getElem?_take,hj] using h1'
      have hlt:off+j<xs.size:=omq;have hx':x=xs[off+j]:=by simpa [hj,hlt] using h2'.symm
      subst hx';exact h4 _ c _ h1'' (xu hlt)
     |false=>
      have hl':cs'[off]?=some v:=by simpa [List.head?_eq_getElem?] using hl
      have hlt:off<xs.size:=by
       have:=(gsi.1 hl').1;omega
      have hc:w.cell? ⟨ρ id,off,none⟩=some xs[off]:=by simp[World.cell?,h1,hlt]
      exact⟨xs[off],by simp[loadVar,rz hag,Result.andThen,hc],h4 off v _ hl' (xu hlt)⟩
   obtain⟨y,hr,hy⟩:=hnaive;exact zcp
  .rename_i cs' hk;cases hb;obtain⟨g,h1,h2,h3⟩:=G.blk id _ hk
   have hat:At F ⟨ρ id,off,none⟩ (cs'.drop off) (fun j=>g (off+j)):=
    ⟨fun c hc=>h1 c (xbn hc),fun j c hc=>by rw[eu];exact h2 _ c zez,fun j c hc=>h3 _ c zez⟩
   obtain⟨y,hr,hy⟩:=qba (P:=P) G.sees hat hl;exact zcp
  cases hb
 cases hb
theorem qlj(G:Good F w ρ h ρa ρc){x:Operand}{v:V}(hv:capV h (ρa x)=some v):Rep F v (ρc x):=by
 unfold capV at hv;split at hv
 .rename_i v' hx;cases hv;exact G.opr x _ hx
 .rename_i id off hx;have e:=show ρc x=_ from G.opr x _ hx
  split at hv
  .rename_i cs hk;cases hv;obtain⟨g,h1,h2,h3⟩:=G.blk id _ hk;rw[e];exact .row (fun j=>g (off+j)) (fun c hc=>h1 c (xbn hc)) (fun j c hc=>by rw[eu];exact h2 _ c zez) (fun j c hc=>h3 _ c zez)
  .rename_i cs b _ hk;cases hv;rw[e,G.nb id _ b hk rfl];exact .val _
  cases hv
 cases hv
theorem ju4(G:Good F w ρ h ρa ρc):∀ {l:List Operand} {vs:List V},ki ρa h l=some vs->vs.length=l.length/\∀(j:Nat) v x,vs[j]?=some v->(l.map ρc)[j]?=some x->Rep F v x
 |[],vs,e=>by simp[ki] at e;subst e;simp
 |x::r,vs,e=>by
  simp only[ki] at e;split at e
  .rename_i v vs' h1 h2;cases e;obtain⟨hl,hh⟩:=ju4 G h2;refine⟨by simp[hl],fun j v' x' e1 e2=>?_⟩;cases j with
   |zero=>
    simp only[List.getElem?_cons_zero,vk,vy] at e1 e2;subst e1 e2;exact qlj G h1
   |succ j=>
    exact zdy
  cases e
theorem jk9(G:Good F w ρ h ρa ρc):∀ {l:List Operand} {vs:List V},vsOf ρa l=some vs->vs.length=l.length/\∀(j:Nat) v x,vs[j]?=some v->(l.map ρc)[j]?=some x->Rep F v x
 |[],vs,e=>by simp[vsOf] at e;subst e;simp
 |x::r,vs,e=>by
  simp only[vsOf] at e;split at e
  .rename_i v vs' h1 h2;cases e;obtain⟨hl,hh⟩:=jk9 G h2;refine⟨by simp[hl],fun j v' x' e1 e2=>?_⟩;cases j with
   |zero=>
    simp only[List.getElem?_cons_zero,vk,vy] at e1 e2;subst e1 e2;exact G.v h1
   |succ j=>
    exact zdy
  cases e
theorem jbm(e:strB P t=true):P.underlying t=some .string:=by
 unfold strB at e;split at e
 .rename_i h;exact h
 cases e
theorem jvx(e:jg1 P t=true):P.underlying t=some .bool:=by
 unfold jg1 at e;split at e
 .rename_i h;exact h
 cases e
theorem jww(e:ifcB P t=true):∃ms,P.underlying t=some (.interface ms):=by
 unfold ifcB at e;split at e
 .rename_i ms h;exact⟨ms,h⟩
 cases e
theorem jhh(e:intK P t=some k):P.underlying t=some (.int k):=by
 unfold intK at e;split at e
 .rename_i k' h;cases e;exact h
 cases e
theorem tk(e:(slV P t).isSome=true):∃e',P.underlying t=some (.slice e'):=by
 obtain⟨⟨e',n⟩,h⟩:=xbe.1 e;exact⟨e',(ip h).1⟩
theorem cw{l:List UInt8}(h:Rep F (.str l) x):x=.string ⟨l.toArray⟩:=by cases h;rfl
theorem al{v:Value}(h:Rep F (.val v) x):x=v:=by cases h;rfl
theorem qr2(l:List UInt8):ByteArray.size ⟨l.toArray⟩=l.length:=rfl
theorem qjh(G:Good F w ρ h ρa ρc){ty:TypeId}{x:Operand}{v:V}(e:lenV P t h (ρa x)=some v):
  ∃y,(Builtin.len_ #[t] ty #[ρc x]).run P w=.ok y w/\Rep F v y:=by
 unfold lenV at e;split at e
 .rename_i size es hx;split at e
  .rename_i hs;cases e;obtain⟨e',hu⟩:=tk hs;obtain⟨a,c,hv⟩:=ja0 (show Rep F (.slice size es) (ρc x) from G.opr x _ hx);exact⟨.int .i64 es.length,by simp[Builtin.len_,run_underlying hu,Result.andThen,hv,goInt],.val _⟩
  cases e
 .rename_i l hx;split at e
  .rename_i hs;cases e;have hv:=cw (show Rep F (.str l) (ρc x) from G.opr x _ hx);exact⟨.int .i64 l.length,by simp only[Builtin.len_,hv];simp[run_underlying (jbm hs),Result.andThen,qr2];rfl,.val _⟩
  cases e
 .rename_i hx;split at e
  .rename_i hs;cases e;obtain⟨e',hu⟩:=tk hs;have hv:=al (show Rep F (.val _) (ρc x) from G.opr x _ hx);exact⟨.int .i64 0,by simp[Builtin.len_,run_underlying hu,Result.andThen,hv,goInt],.val _⟩
  cases e
 .rename_i ad m cap hx;split at e
  .rename_i hs;cases e;obtain⟨e',hu⟩:=tk hs;have hv:=al (show Rep F (.val _) (ρc x) from G.opr x _ hx);exact zdd
  cases e
 .rename_i id off m size hx;split at e
  .rename_i hs;cases e;obtain⟨e',hu⟩:=tk hs;obtain⟨cap,_,_,_,hv⟩:=show ∃cap,m<=cap/\cap<=maxLen/\0<m/\ρc x=_ from G.opr x _ hx
   exact zdd
  cases e
 .rename_i id hx;split at e
  .rename_i es _ k' e' hk hu;cases e;have hv:=show ρc x=_ from G.opr x _ hx
   obtain⟨xs,ck,h1,_,h2,h3⟩:=G.blk id _ hk
   have hg:(getObj (ρ id)).run P w=.ok (.map xs ck) w:=by
    unfold getObj;simp only[Sem.run];rw[h1]
   exact⟨.int .i64 es.length,by simp[Builtin.len_,run_underlying hu,Result.andThen,hv,goInt,hg,h2],.val _⟩
  cases e
 cases e
theorem jie(l:List UInt8):(⟨l.toArray⟩:ByteArray).size=l.length:=by simp[ByteArray.size]
theorem jw4(l:List UInt8):(⟨l.toArray⟩:ByteArray).toList=l:=by simp[ByteArray.toList_eq]
theorem qm8{a b:List UInt8}{v:V}(e:jcs op a b=some v)(t:TypeId)(w:World):
  ∃y,(binOp op t (.string ⟨a.toArray⟩) (.string ⟨b.toArray⟩)).run P w=.ok y w/\Rep F v y:=by
 cases op<;>simp only[jcs] at e<;>try (cases e;done)
 case add=>
  split at e
  .rename_i hle;cases e;refine⟨.string ⟨(a++b).toArray⟩,?_,.str _⟩
   have:(⟨a.toArray⟩:ByteArray)++⟨b.toArray⟩=⟨(a++b).toArray⟩:=by
    apply WideShapes.bytes_inj;simp
   have hm:IntKind.i64.max=9223372036854775807:=by decide
   simp[binOp,Op.stringOp,hm,jie,this];omega
  cases e
 all_goals
  cases e;refine⟨_,?_,.val _⟩;simp[binOp,Op.stringOp]
theorem jbs{v:V}(e:eqOp op b=some v):(op=.eql/\v=.val (.bool b))\/(op=.neq/\v=.val (.bool (!b))):=by
 unfold eqOp at e;split at e
 .cases e;exact zn
 .cases e;exact .inr ⟨rfl,rfl⟩
 cases e
theorem jt6(d:Nat)(hu:P.underlying t=some .bool)(a b:Bool)(w:World):(Op.equalIn (d+1) t (.bool a) (.bool b)).run P w=.ok (a == b) w:=by
 simp[Op.equalIn,run_underlying hu]
theorem jv6(hu:P.underlying t=some .bool)(a b:Bool)(w:World):(Op.equal t (.bool a) (.bool b)).run P w=.ok (a == b) w:=jt6 9999 hu a b w
theorem qem(d:Nat)(hu:P.underlying t=some (.slice e))(a:Option Addr)(n c:Nat)(w:World):(Op.equalIn (d+1) t (.slice a n c) (.slice none 0 0)).run P w=.ok a.isNone w:=by
 cases a<;>simp[Op.equalIn,run_underlying hu]
theorem jbb(hu:P.underlying t=some (.slice e))(a:Option Addr)(n c:Nat)(w:World):(Op.equal t (.slice a n c) (.slice none 0 0)).run P w=.ok a.isNone w:=qem 9999 hu a n c w
theorem qet(d:Nat)(hu:P.underlying t=some (.interface ms))(u:TypeId)(x:Value)(w:World):(Op.equalIn (d+1) t (.iface u x) .nilIface).run P w=.ok false w:=by
 simp[Op.equalIn,run_underlying hu]
theorem jst(hu:P.underlying t=some (.interface ms))(u:TypeId)(x:Value)(w:World):(Op.equal t (.iface u x) .nilIface).run P w=.ok false w:=qet 9999 hu u x w
theorem qes(d:Nat)(hu:P.underlying t=some (.interface ms))(w:World):(Op.equalIn (d+1) t .nilIface .nilIface).run P w=.ok true w:=by
 simp[Op.equalIn,run_underlying hu]
theorem jss(hu:P.underlying t=some (.interface ms))(w:World):(Op.equal t .nilIface .nilIface).run P w=.ok true w:=qes 9999 hu w
theorem jae{w:World}(h:(Op.equal t x y).run P w=.ok b w) 
  (h1:binOp .eql t x y=(do pure (.bool (<- Op.equal t x y)))):(binOp .eql t x y).run P w=.ok (.bool b) w:=by
 rw[h1];simp[h,Result.andThen]
theorem jad{w:World}(h:(Op.equal t x y).run P w=.ok b w) 
  (h1:binOp .neq t x y=(do pure (.bool (!(<- Op.equal t x y))))):(binOp .neq t x y).run P w=.ok (.bool (!b)) w:=by
 rw[h1];simp[h,Result.andThen]
theorem eqC_i{v:V}(h:eqC .i v u=some b):∃j a c,v=.val (.int j a)/\u=.val (.int j c)/\b=decide (a=c):=by
 unfold eqC at h;split at h
 .split at h
  .rename_i hj;subst hj;cases h;exact⟨_,_,_,rfl,rfl,rfl⟩
  cases h
 .rename_i h1;cases h1
 .rename_i h1;cases h1
 cases h
theorem eqC_b{v:V}(h:eqC .b v u=some b):∃a c,v=.val (.bool a)/\u=.val (.bool c)/\b=(a == c):=by
 unfold eqC at h;split at h
 .rename_i h1;cases h1
 .cases h;exact⟨_,_,rfl,rfl,rfl⟩
 .rename_i h1;cases h1
 cases h
theorem eqC_s{v:V}(h:eqC .s v u=some b):∃a c,v=.str a/\u=.str c/\b=(a == c):=by
 unfold eqC at h;split at h
 .rename_i h1;cases h1
 .rename_i h1;cases h1
 .cases h;exact⟨_,_,rfl,rfl,rfl⟩
 cases h
theorem jgi:∀ {ks:List Lf} {a b:List V} {r:Bool},gm ks a b=some r->a.length=ks.length/\b.length=ks.length
 |[],[],[],_,_=>⟨rfl,rfl⟩
 |l::ls,x::xs,y::ys,r,h=>by
  simp only[gm] at h;split at h
  .rename_i p q _ hq;have:=jgi hq;simp[this.1,this.2]
  cases h
theorem jtn:∀ {ks ks':List Lf} {a b:List V} {r:Bool},gm (ks++ks') a b=some r->
  ∃r1 r2,gm ks (a.take ks.length) (b.take ks.length)=some r1/\gm ks' (a.drop ks.length) (b.drop ks.length)=some r2/\r=(r1 && r2)
 |[],ks',a,b,r,h=>⟨true,r,rfl,h,smq⟩
 |l::ls,ks',[],b,r,h=>by cases b<;>simp[gm] at h
 |l::ls,ks',x::xs,[],r,h=>by simp[gm] at h
 |l::ls,ks',x::xs,y::ys,r,h=>by
  simp only[List.cons_append,gm] at h;split at h
  .rename_i p q hp hq;cases h;obtain⟨r1,r2,h1,h2,rfl⟩:=jtn hq;exact⟨p && r1,r2,by simp[gm,hp,h1],by simpa using h2,by rw[Bool.and_assoc]⟩
  cases h
theorem jhu:∀ {n:Nat} {cs:List V},n<=cs.length->cy n cs=some (cs.take n)
 |0,_,_=>rfl
 |n+1,c::cs,h=>by simp[cy,jhu (n:=n) (cs:=cs) (by simpa using h)]
 |_+1,[],h=>by simp at h
theorem qb9{k:Nat}(h:ux P k t=some ks){cs:List V}(hl:ks.length<=cs.length):∃v,ldV P t cs=some v:=by
 cases k with
 |zero=>cases h
 |succ k=>
  have leaf:∀l:Lf,(if aggB P t=some false then some [l] else none)=some ks->∃v,ldV P t cs=some v:=fun l h=>by
   split at h
   .rename_i ha;cases h
    match cs,hl with
    |c::cs,_=>exact⟨c,by simp[ldV,ha]⟩
   cases h
  unfold ux at h;split at h
  .exact leaf _ h
  .exact leaf _ h
  .exact leaf _ h
  .split at h
   .rename_i ha;split at h
    .split at h
     .rename_i hc;cases h;exact⟨_,by rw[ldV,ha.2];simp only;rw[jhu omq];rfl⟩
     cases h
    cases h
   cases h
  cases h
structure AggRep (F:Frz) (cs:List V) (xs:Array Value):Prop where
 size:xs.size=cs.length
 one:∀c∈cs,c.one=true
 rep:∀(j:Nat) c x,cs[j]?=some c->xs[j]?=some x->Rep F c x
theorem jgn{cs:List V}(h:Rep F (.agg cs) x):∃xs,x=.agg xs/\AggRep F cs xs:=by
 cases h with
 |agg h1 h2 h3=>exact⟨_,rfl,h1,h2,h3⟩
def EqAt(P:Program)(k:Nat):Prop:=∀ {t:TypeId} {ks:List Lf},ux P k t=some ks->∀ {d:Nat},k<=d->∀ {F:Frz} {w:World} {cs ds:List V} {v u:V} {x y:Value} {b:Bool},
 ldV P t cs=some v->ldV P t ds=some u->(∀c∈cs,c.one=true)->(∀c∈ds,c.one=true)->Rep F v x->Rep F u y->
 gm ks (cs.take ks.length) (ds.take ks.length)=some b->(Op.equalIn d t x y).run P w=.ok b w
theorem jxe{k:Nat}(IH:EqAt P k){d:Nat}(hd:k<=d){cs ds:List V}{xs ys:Array Value}(hx:AggRep F cs xs)(hy:AggRep F ds ys):
  ∀(fs:List Field) (off:Nat) {ks:List Lf} {b:Bool},jft (ux P k) off fs=some ks->gm ks (cs.drop off) (ds.drop off)=some b->(Op.eqFields d xs ys fs).run P w=.ok b w
 |[],off,ks,b,h,e=>by
  simp only[jft,vk] at h;subst h;obtain⟨h1,h2⟩:=jgi e;rw[yg h1,yg h2] at e;cases e;simp[Op.eqFields]
 |f::fs,off,ks,b,h,e=>by
  simp only[jft] at h;split at h
  .rename_i hf;obtain⟨hn,ho⟩:=hf;split at h
   .rename_i ks1 h1;simp only[msi] at h;obtain⟨ks2,h2,rfl⟩:=h;obtain⟨e1,e2⟩:=jgi e;simp only[vr] at e1 e2;obtain⟨r1,r2,g1,g2,rfl⟩:=jtn e;obtain⟨v,hv⟩:=qb9 h1 (cs:=cs.drop off) omq;obtain⟨u,hu⟩:=qb9 h1 (cs:=ds.drop off) omq;obtain⟨x,hx1,hx2⟩:=jhz (P:=P) (w:=w) hx.size hx.one hx.rep hv;obtain⟨y,hy1,hy2⟩:=jhz (P:=P) (w:=w) hy.size hy.one hy.rep hu;have key:=IH h1 hd (w:=w) hv hu (fun c hc=>hx.one c (xbn hc)) (fun c hc=>hy.one c (xbn hc)) hx2 hy2 g1;have rest:=jxe IH hd hx hy fs (off+ks1.length) h2 (by simpa [List.drop_drop] using g2);rw[Op.eqFields,ve hn,ho];cases r1 with
    |true=>simp[hx1,hy1,key,rest,Result.andThen]
    |false=>simp[hx1,hy1,key,Result.andThen]
   cases h
  cases h
theorem qbx:∀(k:Nat),EqAt P k
 |0=>fun h=>by cases h
 |k+1=>by
  intro h d hd F w cs ds v u x y b hv hu hc1 hc2 hx hy e;rename_i t ks;obtain⟨d,rfl⟩:∃d',d=d'+1:=⟨d-1,omq⟩
  have leaf:∀l:Lf,(if aggB P t=some false then some [l] else none)=some ks->eqC l v u=some b:=fun l h=>by
   split at h
   .rename_i ha;cases h;simp only[ldV,ha] at hv hu;cases cs with
    |nil=>cases hv
    |cons c cs=>
     cases ds with
     |nil=>cases hu
     |cons c' ds=>
      cases hv;cases hu;simp only[List.length_cons,List.length_nil,List.take_succ_cons,List.take_zero,gm] at e;split at e
      .rename_i p q hp hq;cases hq;cases e;simpa using hp
      cases e
   cases h
  unfold ux at h;split at h
  .rename_i kd hu';obtain⟨j,a,c,rfl,rfl,rfl⟩:=eqC_i (leaf _ h);have:=al hx;subst this;have:=al hy;subst this;rw[run_equalIn_int w d t _ _ _ _ hu'];congr
  .rename_i hu';obtain⟨a,c,rfl,rfl,rfl⟩:=eqC_b (leaf _ h);have:=al hx;subst this;have:=al hy;subst this;exact jt6 d hu' _ _ w
  .rename_i hu';obtain⟨a,c,rfl,rfl,rfl⟩:=eqC_s (leaf _ h);have:=cw hx;subst this;have:=cw hy;subst this;rw[run_equalIn_string w d t _ _ hu',jw4,jw4]
  .rename_i fs hu';split at h
   .rename_i ha;split at h
    .rename_i ks' hks;split at h
     .rename_i hc;cases h;simp only[ldV,ha.2,msi] at hv hu;obtain⟨c1,hv,rfl⟩:=hv;obtain⟨c2,hu,rfl⟩:=hu;obtain⟨rfl,l1⟩:=ja5 hv;obtain⟨rfl,l2⟩:=ja5 hu;obtain⟨xs,rfl,hx'⟩:=jgn hx;obtain⟨ys,rfl,hy'⟩:=jgn hy;have hfo:P.fieldsOf t=fs:=by simp[Program.fieldsOf,hu']
      rw[run_equalIn_struct w d t xs ys (by rw[hfo];exact hu') ha.1,hfo];exact jxe (qbx k) omq hx' hy' fs.toList 0 hks (by simpa [hc] using e)
     cases h
    cases h
   cases h
  cases h
theorem qww{cs ds:List V}(h:eqT P t=some ks)(hx:Rep F (.agg cs) x)(hy:Rep F (.agg ds) y)(e:gm ks cs ds=some b)(w:World):
  (Op.equal t x y).run P w=.ok b w/\∃xs ys,x=.agg xs/\y=.agg ys/\P.eqGuardType P.depth t=false:=by
 unfold eqT at h;split at h
 .rename_i fs hu;split at h
  .rename_i hg;obtain⟨l1,l2⟩:=jgi e;have h':=h;simp only[ux,hu] at h';split at h'
   .rename_i ha;split at h'
    .rename_i ks' hks;split at h'
     .rename_i hc;cases h';obtain⟨xs,rfl,hx1⟩:=jgn hx;obtain⟨ys,rfl,hy1⟩:=jgn hy;refine⟨?_,xs,ys,rfl,rfl,hg⟩;refine qbx 8 h (d:=10000) omq (cs:=cs) (ds:=ds) ?_ ?_ hx1.one hy1.one hx hy ?_
      .rw[ldV,ha.2];simp only;rw[jhu omq,ye omq];rfl
      .rw[ldV,ha.2];simp only;rw[jhu omq,ye omq];rfl
      rw[ye omq,ye omq];exact e
     cases h'
    cases h'
   cases h'
  cases h
 cases h
theorem qa8{x y:V}{v:V}{a b:Value}(ha:Rep F x a)(hb:Rep F y b)(e:binV P op t x y=some v)(w:World):
  ∃r,(binOp op t a b).run P w=.ok r w/\Rep F v r/\∀(ox oy:Operand),(eqGuard op t ox oy a b).run P w=.ok () w:=by
 unfold binV at e;split at e
 ·-- ints
  have:=al ha;subst this;have:=al hb;subst this;split at e
  .unfold shV at e;split at e
   .rename_i hn;cases e;exact zb6
   cases e
  .unfold shV at e;split at e
   .rename_i hn;cases e;exact zb6
   cases e
  split at e
  .rename_i hk;subst hk;obtain⟨r,rfl,hr⟩:=jwu (P:=P) e t w;exact⟨r,hr,.val _,fun ox oy=>by unfold eqGuard;split<;>rfl⟩
  cases e
 ·-- bools
  have:=al ha;subst this;have:=al hb;subst this;split at e
  .rename_i hu;rcases jbs e with⟨rfl,rfl⟩|⟨rfl,rfl⟩
   .exact⟨_,jae (jv6 (jvx hu) _ _ w) rfl,.val _,fun ox oy=>by simp[eqGuard]⟩
   exact⟨_,jad (jv6 (jvx hu) _ _ w) rfl,.val _,fun ox oy=>by simp[eqGuard]⟩
  cases e
 ·-- strings
  have:=cw ha;subst this;have:=cw hb;subst this;obtain⟨r,hr,hv⟩:=qm8 (P:=P) (F:=F) e t w;exact⟨r,hr,hv,fun ox oy=>by unfold eqGuard;split<;>rfl⟩
 ·-- a slice that is not empty,against nil
  have:=al hb;subst this;split at e
  .rename_i hu;obtain⟨e',hu⟩:=tk hu;rcases py ha with⟨_,h0⟩|⟨ad,cap,g,rfl,_⟩
   .cases h0
   rcases jbs e with⟨rfl,rfl⟩|⟨rfl,rfl⟩
   .exact zel
   exact zem
  cases e
 .have:=al ha;subst this;have:=al hb;subst this;split at e
  .rename_i hu;obtain⟨e',hu⟩:=tk hu;rcases jbs e with⟨rfl,rfl⟩|⟨rfl,rfl⟩
   .exact zel
   exact zem
  cases e
 .have:=al hb;subst this;split at e
  .rename_i hu;obtain⟨ms,hu⟩:=jww hu;cases ha with
   |ifc u x=>
    rcases jbs e with⟨rfl,rfl⟩|⟨rfl,rfl⟩
    .exact⟨_,jae (jst hu _ _ w) rfl,.val _,fun ox oy=>by simp[eqGuard]⟩
    exact⟨_,jad (jst hu _ _ w) rfl,.val _,fun ox oy=>by simp[eqGuard]⟩
  cases e
 .split at e
  .rename_i ks hks;split at e
   .rename_i b hb';obtain⟨h1,xs,ys,rfl,rfl,hg⟩:=qww hks ha hb hb' w;rcases jbs e with⟨rfl,rfl⟩|⟨rfl,rfl⟩
    .exact⟨_,jae h1 rfl,.val _,fun ox oy=>run_eqGuard_agg w _ t ox oy xs ys hg⟩
    exact⟨_,jad h1 rfl,.val _,fun ox oy=>run_eqGuard_agg w _ t ox oy xs ys hg⟩
   cases e
  cases e
 cases e
theorem qgf{v:V}(hu:ifcB P t=true)(e:eqOp op true=some v)(w:World)(c:Value):
  ∃r,(binOp op t .nilIface .nilIface).run P w=.ok r w/\Rep F v r/\∀(ox:Operand),(eqGuard op t ox (.const c) .nilIface .nilIface).run P w=.ok () w:=by
 obtain⟨ms,hu⟩:=jww hu;rcases jbs e with⟨rfl,rfl⟩|⟨rfl,rfl⟩
 .exact⟨_,jae (jss hu w) rfl,.val _,fun ox=>by simp[eqGuard]⟩
 exact⟨_,jad (jss hu w) rfl,.val _,fun ox=>by simp[eqGuard]⟩
theorem jn8{v:V}{n:Int}(h:Rep F v x)(e:nums v=some n):∃k,x=.int k n:=by
 unfold nums at e;split at e
 .cases e;exact⟨_,al h⟩
 cases e
theorem jg7{i:Int}{y:Nat}(h0:0<=i)(h1:i<=y)(c:BoundsCode)(w:World):(Instr.sliceBound (.int k i) y c).run P w=.ok i.toNat w:=by
 simp[Instr.sliceBound,asIntOf,h0,h1]
theorem jho{b:Nat}(e:cutV n lo hi=some (a,b)):
  a<=b/\b<=n/\(match hi with|none=>b=n|some v=>nums v=some (b:Int))/\(match lo with|none=>a=0|some v=>nums v=some (a:Int)):=by
 unfold cutV at e;split at e
 .rename_i hv lv hh hl;split at e
  .rename_i hc;simp only[vk,xo] at e;obtain⟨rfl,rfl⟩:=e;refine⟨omq,omq,?_,?_⟩
   .cases hi with
    |none=>simp at hh;subst hh;simp
    |some v=>simp only at hh ⊢;rw[hh];simp;omega
   cases lo with
   |none=>simp at hl;subst hl;simp
   |some v=>simp only at hl ⊢;rw[hl];simp;omega
  cases e
 cases e
def jfk(F:Frz):Option V->Option Value->Prop
 |none,none=>True
 |some v,some x=>Rep F v x
 |_,_=>False
theorem jh6{cap b:Nat}{isS:Bool}{lo' hi':Option Value}(e:cutV n lo hi=some (a,b))(hcap:n<=cap) 
  (hlo:jfk F lo lo')
  (hhi:jfk F hi hi') (w:World):
  (Instr.sliceBounds isS n cap lo' hi' none).run P w=.ok (a,b,cap) w:=by
 obtain⟨h1,h2,h3,h4⟩:=jho e;unfold Instr.sliceBounds;cases hi with
 |none=>
  cases hi' with
  |some x=>exact hhi.elim
  |none=>
   simp only at h3;subst h3;cases lo with
   |none=>
    cases lo' with
    |some x=>exact hlo.elim
    |none=>simp only at h4;subst h4;simp
   |some v=>
    cases lo' with
    |none=>exact hlo.elim
    |some x=>
     obtain⟨k,rfl⟩:=jn8 hlo h4;simp[Result.andThen,jg7 (P:=P) (k:=k) (i:=(a:Int)) (y:=b) omq omq]
 |some vh=>
  cases hi' with
  |none=>exact hhi.elim
  |some xh=>
   obtain⟨kh,rfl⟩:=jn8 hhi h3;cases lo with
   |none=>
    cases lo' with
    |some x=>exact hlo.elim
    |none=>
     simp only at h4;subst h4;simp[Result.andThen,jg7 (P:=P) (k:=kh) (i:=(b:Int)) (y:=cap) omq omq]
   |some v=>
    cases lo' with
    |none=>exact hlo.elim
    |some x=>
     obtain⟨k,rfl⟩:=jn8 hlo h4;simp[Result.andThen,jg7 (P:=P) (k:=kh) (i:=(b:Int)) (y:=cap) omq omq,jg7 (P:=P) (k:=k) (i:=(a:Int)) (y:=b) omq omq]
theorem jhc(G:Good F w ρ h ρa ρc){x:Option Operand}{v:Option V}(e:optV ρa x=some v):
  jfk F v (x.map ρc):=by
 cases x with
 |none=>simp[optV] at e;subst e;trivial
 |some o=>
  simp only[optV,msi] at e;obtain⟨v',h1,rfl⟩:=e;exact G.v h1
theorem qiw{x:V}{v:V}{lo' hi':Option Value}(hx:Rep F x y)(e:jcb P t x lo hi=some v) 
  (hlo:jfk F lo lo')
  (hhi:jfk F hi hi') (w:World):
  ∃r,(Instr.sliceAt t y lo' hi' none).run P w=.ok r w/\Rep F v r:=by
 unfold jcb at e;split at e
 .rename_i l;split at e
  .rename_i hs;simp only[msi] at e;obtain⟨⟨a,b⟩,hc,rfl⟩:=e;have:=cw hx;subst this;have hb:=jh6 (P:=P) (F:=F) (isS:=false) (cap:=l.length) hc (vo _) hlo hhi w;obtain⟨h1,h2,_,_⟩:=jho hc;refine⟨.string ((⟨l.toArray⟩:ByteArray).extract a b),?_,?_⟩
   .simp[Instr.sliceAt,run_underlying (jbm hs),Result.andThen,Instr.slice,jie,hb]
   have:((⟨l.toArray⟩:ByteArray).extract a b)=⟨((l.take b).drop a).toArray⟩:=by
    apply WideShapes.bytes_inj;simp[ByteArray.data_extract,List.extract_eq_take_drop,List.drop_take]
   rw[this];exact .str _
  cases e
 .rename_i size es;split at e
  .rename_i hs;simp only[msi] at e;obtain⟨⟨a,b⟩,hc,rfl⟩:=e;simp only[msi] at hs;obtain⟨⟨e',n⟩,hsl,rfl⟩:=hs;obtain⟨hu,hsz,hz⟩:=ip hsl;simp only at *;obtain⟨inf,hi0⟩:=mc (P:=P) (t:=e') omq;obtain⟨h1,h2,_,_⟩:=jho hc;rcases py hx with⟨rfl,rfl⟩|⟨ad,cap,g,rfl,hcap,hm,hss,ho,hg,hr⟩
   .have hb:=jh6 (P:=P) (F:=F) (isS:=true) (n:=0) (cap:=0) hc (vo _) hlo hhi w;simp only[List.length_nil] at h2;obtain rfl:b=0:=omq;obtain rfl:a=0:=omq;refine⟨.slice none 0 0,?_,by simpa using Rep.snil⟩;simp[Instr.sliceAt,run_underlying hu,Result.andThen,Instr.slice,hb,ik hi0]
   have hb:=jh6 (P:=P) (F:=F) (isS:=true) (n:=es.length) (cap:=cap) hc hcap hlo hhi w;refine⟨.slice (if cap=a then some ad else some (ad.add (a*n))) (b-a) (cap-a),?_,?_⟩
   .exact zd0
   have hlen:((es.take b).drop a).length=b-a:=by simp;omega
   have hnth:∀(i:Nat) (e:List V),((es.take b).drop a)[i]?=some e->es[a+i]?=some e:=fun i e hi=>by
    rw[xcz,yx] at hi;split at hi
    .exact hi
    cases hi
   have hmem:∀e∈(es.take b).drop a,e∈es:=fun e he=>xb5 (xbn he);rw[<- hlen];by_cases hca:cap=a
   .have:(es.take b).drop a=[]:=yg omq;rw[ve hca,this];exact .slice g smq omq smq smq smq smq
   rw[vd hca];refine .slice (fun i j=>g (a+i) j) omq omq (fun e he=>hss e (hmem e he)) (fun e he=>ho e (hmem e he)) (fun i j e c h1 h2=>?_) (fun i j e c h1 h2=>hr _ j e c (hnth i e h1) h2);rw[add_add,<- xbf,<- yy];exact hg _ j e c (hnth i e h1) h2
  cases e
 cases e
theorem jws{k k':V}{x':Value}(hk:Rep F k x)(hk':Rep F k' x')(ht:keyT P kt k=true)(hu:P.underlying kt=some d)(e:jk k k'=some b):
  Instr.sameNow d x x'=some b:=by
 unfold jk at e;split at e
 .rename_i j a k0 b0;split at e
  .rename_i hjk;cases e;subst hjk;have:=al hk;subst this;have:=al hk';subst this;unfold keyT at ht;rw[hu] at ht;cases d<;>simp_all [Instr.sameNow]
   rfl
  cases e
 .rename_i a b0;cases e;have:=cw hk;subst this;have:=cw hk';subst this;unfold keyT at ht;rw[hu] at ht;cases d<;>simp_all [Instr.sameNow]
  rw[xc1];simp only[xax];constructor
  .intro h;exact congrArg (fun b:ByteArray=>b.data.toList) ((MapKept.bytes_beq _ _).1 h)
  intro h;subst h;exact(MapKept.bytes_beq _ _).2 rfl
 cases e
theorem jx6{k:V}{x:Value}{kt:TypeId}{d:TypeDesc}(hk:Rep F k x)(ht:keyT P kt k=true)(hu:P.underlying kt=some d):
  ∀(es:List (V×V)) (xs:List MapEntry) (n:Nat) {r:Option V},xs.length=es.length->(∀(j:Nat) k' v y,es[j]?=some (k',v)->xs[j]?=some y->Rep F k' y.key/\Rep F v y.val)->ma k es=some r->
   match r with
   |none=>Instr.findNow d x xs n=some none
   |some v=>∃i y,Instr.findNow d x xs n=some (some (n+i,y.val))/\xs[i]?=some y/\Rep F v y.val
 |[],[],n,r,_,_,e=>by simp[ma] at e;subst e;simp[Instr.findNow]
 |[],_::_,_,_,hl,_,_=>by simp at hl
 |_::_,[],_,_,hl,_,_=>by simp at hl
 |(k',v)::es,y::xs,n,r,hl,hh,e=>by
  obtain⟨h1,h2⟩:=hh 0 k' v y rfl rfl;simp only[ma] at e;cases hb:jk k k' with
  |none=>rw[hb] at e;cases e
  |some b=>
   rw[hb] at e;have hs:=jws hk h1 ht hu hb;cases b with
   |true=>
    simp only[vk] at e;subst e;exact⟨0,y,by simp[Instr.findNow,hs],rfl,h2⟩
   |false=>
    simp only at e;have ih:=jx6 hk ht hu es xs (n+1) ze3 (fun j k'' v' y' e1 e2=>hh (j+1) k'' v' y' ze4 zeu) e;cases r with
    |none=>simp only at ih ⊢;simp[Instr.findNow,hs,ih]
    |some v'=>
     simp only at ih ⊢;obtain⟨i,y',h3,h4,h5⟩:=ih;exact⟨i+1,y',by simp[Instr.findNow,hs,h3,Nat.add_assoc,Nat.add_comm 1 i],by simpa using h4,h5⟩
theorem jjm(em:Bool)(n:Nat)(hu:P.underlying kt=some d){k:V}(ht:keyT P kt k=true)(x:Value)(w:World):(Instr.checkKey em (n+1) kt x).run P w=.ok () w:=by
 unfold keyT at ht;rw[hu] at ht;cases d<;>simp_all [Instr.checkKey,run_underlying hu]
theorem ja8{b:Nat}{xs:Array MapEntry}{ck:Nat}(h1:w.heap[b]?=some (.map xs ck)):(getObj b).run P w=.ok (.map xs ck) w:=by
 unfold getObj;simp only[Sem.run];rw[h1]
theorem cm{s:Sem Value}{w':World}(hr:s.run P w=.ok y w'):(do pure (Next.value (<- s)):Sem Next).run P w=.ok (.value y) w':=by
 simp[hr]
theorem qr9{v:V}(h1:Rep F v x)(h2:Rep F u y):Rep F (.tup [v,u]) (.tuple #[x,y]):=by
 refine .tup rfl fun j c z e1 e2=>?_
 match j with
 |0=>simp at e1 e2;subst e1 e2;exact h1
 |1=>simp at e1 e2;subst e1 e2;exact h2
 |j+2=>simp at e1
theorem ja9{b:Nat}{h:List (Nat×Blk)}{id:Nat}(e:dj b h=some id):∃k,look id h=some k/\k.nm=some b:=by
 unfold dj at e;split at e
 .rename_i i hi;split at e
  .rename_i hn;cases e;cases hk:look id h with
   |none=>rw[hk] at hn;cases hn
   |some k=>rw[hk] at hn;exact⟨k,rfl,hn⟩
  cases e
 cases e
theorem qjd(G:Good F w ρ h ρa ρc){x:Operand}{es:List (V×V)}(e:mapE h (ρa x)=some es):
  (ρc x=.map none/\es=[])\/∃(b:Nat) (xs:Array MapEntry) (ck:Nat),ρc x=.map (some b)/\w.heap[b]?=some (.map xs ck)/\xs.size=es.length/\
   ∀(j:Nat) k v y,es[j]?=some (k,v)->xs[j]?=some y->Rep F k y.key/\Rep F v y.val:=by
 unfold mapE at e;split at e
 .rename_i id hx;split at e
  .rename_i es' hk;cases e;obtain⟨xs,ck,g1,_,g2,g3⟩:=G.blk id _ hk;exact .inr ⟨_,xs,ck,G.opr x _ hx,g1,g2,g3⟩
  cases e
 .rename_i ks vs hx;cases e;have hr:Rep F (.map ks vs) (ρc x):=G.opr x _ hx;generalize hy:ρc x=y at hr;cases hr with
  | @map _ _ b xs ck0 hb hl hl' hk hv=>
   obtain⟨ck,g1⟩:=G.sees.m _ _ hb;refine .inr ⟨b,xs,ck,rfl,g1,by simp[List.length_zip];omega,fun j k v y e1 e2=>?_⟩;obtain⟨e3,e4⟩:=List.getElem?_zip_eq_some.1 e1;exact⟨hk j k y e3 e2,hv j v y e4 e2⟩
 .rename_i hx;cases e;exact .inl ⟨al (G.opr x _ hx),rfl⟩
 .rename_i b hx;unfold mapN at e;split at e
  .rename_i id hid;obtain⟨k,hk,hb⟩:=ja9 hid;rw[hk] at e;unfold mapB at e;split at e
   .rename_i es' nm hke;cases e;cases hke;obtain⟨xs,ck,g1,_,g2,g3⟩:=G.blk id _ hk;rw[G.nb id _ b hk hb] at g1;exact .inr ⟨b,xs,ck,al (G.opr x _ hx),g1,g2,g3⟩
   cases e
  cases e
 cases e
theorem jlv{a c:Option V}{v:V}(h:minV b a c=some v):∃k k' m q,a=some (.val (.int k m))/\c=some (.val (.int k' q))/\v=.val (.int k (bif b then(if q<m then q else m) else(if q > m then q else m))):=by
 unfold minV at h;split at h
 .cases h;exact⟨_,_,_,_,rfl,rfl,rfl⟩
 cases h
theorem jm5(G:Good F w ρ h ρa ρc)(o:Oper)(e:evq P ρa h o.op=some tv):
  ∃x,(execOp ρc o).run P w=.ok (.value x) w/\RepT F ρ tv x:=by
 obtain⟨dst,op,ty,pos,after,guard⟩:=o;simp only at e;unfold evq at e;split at e
 .rename_i x;exact⟨ρc x,rfl,G.opr x _ (ql e)⟩
 .rename_i x;exact⟨ρc x,rfl,G.opr x _ (ql e)⟩
 .rename_i x;split at e
  .rename_i id off hx;cases e;have hv:ρc x=.pointer (some ⟨ρ id,off,none⟩):=G.opr x _ hx;exact⟨.pointer (some ⟨ρ id,off,none⟩),by simp[execOp,hv],rfl⟩
  .rename_i cs hx;cases e;have hr:Rep F (.row cs) (ρc x):=G.opr x _ hx;obtain⟨a,g,hv,-⟩:=rm hr;rw[hv] at hr;exact⟨.pointer (some a),by simp[execOp,hv],hr⟩
  cases e
 .rename_i c a b;split at e
  .rename_i t hc;have hv:=al (G.v hc);cases t with
   |true=>exact⟨ρc a,by simp[execOp,hv,asBool],G.opr a _ (ql e)⟩
   |false=>exact⟨ρc b,by simp[execOp,hv,asBool],G.opr b _ (ql e)⟩
  cases e
 .rename_i t a;simp only[xaz,msi] at e;obtain⟨cs,h1,v,h2,rfl⟩:=e;obtain⟨y,hr,hy⟩:=ju7 (P:=P) G h1 h2;exact⟨y,cm hr,hy⟩
 .rename_i s x f;split at e
  .rename_i off ft cs h1 h2;cases e;obtain⟨a,g,hv,hat⟩:=rm (show Rep F (.row cs) (ρc x) from G.opr x _ h2);exact⟨.pointer (some (a.add off)),cm (by rw[hv];exact jk0 h1 a w),jp0 (hat.drop off)⟩
  .rename_i off ft id o' h1 h2;cases e;have hv:=show ρc x=_ from G.opr x _ h2
   refine⟨.pointer (some ⟨ρ id,o'+off,none⟩),cm ?_,rfl⟩;rw[hv,jk0 h1,eu]
  cases e
 .rename_i s x f;split at e
  .rename_i off ft cs h1 h2;simp only[msi] at e;obtain⟨v,h3,rfl⟩:=e;obtain⟨fs,fd,hu,hf,rfl,rfl,hz⟩:=jx4 h1;have hr:=G.v h2;generalize hy0:ρc x=y at hr;cases hr with
   |agg hl ho hh=>
    rename_i xs;obtain⟨z,hz',hzr⟩:=jhz (P:=P) (w:=w) hl ho hh h3;exact⟨z,cm (by rw[hy0];simp[Instr.field,run_underlying hu,hf,asAgg,hz']),hzr⟩
  cases e
 .rename_i t x i;split at e
  .rename_i n e' size ha;split at e
   .rename_i id off iv h2 h3;simp only[msi] at e;obtain⟨q,h4,rfl⟩:=e;unfold idxS at h4;split at h4
    .rename_i k j;split at h4
     .rename_i hm;cases h4;have hi:=al (G.v h3);have hv:ρc x=.pointer (some ⟨ρ id,off,none⟩):=G.opr x _ h2;refine⟨_,cm (by rw[hv,hi];exact jhp ha k j _ hm.1 hm.2 w),?_⟩;rw[eu];rfl
     cases h4
    cases h4
   .rename_i cs iv h2 h3;simp only[msi] at e;obtain⟨q,h4,rfl⟩:=e;unfold idxS at h4;split at h4
    .rename_i k j;split at h4
     .rename_i hm;cases h4;have hi:=al (G.v h3);obtain⟨a,g,hv,hat⟩:=rm (show Rep F (.row cs) (ρc x) from G.opr x _ h2);exact⟨_,cm (by rw[hv,hi];exact jhp ha k j a hm.1 hm.2 w),jp0 (hat.drop _)⟩
     cases h4
    cases h4
   cases e
  ·
   split at e
   .rename_i e' n size es iv h1 h2 h3;split at e
    .rename_i hn;subst hn;simp only[msi] at e;obtain⟨cs,h4,rfl⟩:=e;unfold idxV at h4;split at h4
     .rename_i k m;split at h4
      .rename_i hm;have hi:=al (G.v h3);have hlt:=(gsi.1 h4).1;rcases py (show Rep F (.slice n es) (ρc x) from G.opr x _ h2) with⟨_,h0⟩|⟨a,cap,g,hv,hc,hmx,hs,ho,hg,hr⟩
       .subst h0;simp at hlt
       exact⟨_,cm (by rw[hv,hi];exact jbe h1 k m a es.length cap hm omq w),jp0 (qyk ho hg hr h4)⟩
      cases h4
     cases h4
    cases e
   .rename_i e' n id off m size iv h1 h2 h3;split at e
    .rename_i hn;subst hn;simp only[msi] at e;obtain⟨q,h4,rfl⟩:=e;unfold idxS at h4;split at h4
     .rename_i k j;split at h4
      .rename_i hm;cases h4;have hi:=al (G.v h3);obtain⟨cap,hc1,hc2,hc3,hv⟩:=show ∃cap,m<=cap/\cap<=maxLen/\0<m/\ρc x=_ from G.opr x _ h2
       refine⟨_,cm (by rw[hv,hi];exact jbe h1 k j _ m cap hm.1 hm.2 w),?_⟩;rw[eu];rfl
      cases h4
     cases h4
    cases e
   .rename_i e' n r off m cap iv h1 h2 h3;split at e
    .rename_i id hfn;simp only[msi] at e;obtain⟨q,h4,rfl⟩:=e;unfold idxS at h4;split at h4
     .rename_i k j;split at h4
      .rename_i hm;cases h4;have hi:=al (G.v h3);have hv:=al (show Rep F (.val _) (ρc x) from G.opr x _ h2);obtain⟨kb,z1,z2⟩:=ja9 hfn;have hρ:=G.nb id kb r z1 z2;refine⟨_,cm (by rw[hv,hi];exact jbe h1 k j _ m cap hm.1 hm.2 w),?_⟩;rw[eu]
       show _=Value.pointer (some ⟨ρ id,_,none⟩)
       rw[hρ]
      cases h4
     cases h4
    cases e
   cases e
 .rename_i t x i;split at e
  .rename_i n e' size ha;split at e
   .rename_i cs iv h2 h3;simp only[xaz,msi] at e;obtain⟨q,h4,v,h5,rfl⟩:=e;unfold idxS at h4;split at h4
    .rename_i k j;split at h4
     .rename_i hm;cases h4;have hi:=al (G.v h3);obtain⟨hu,rfl,hz⟩:=jy3 ha;obtain⟨inf,hi0⟩:=mc hz;have hr:=G.v h2;generalize hy0:ρc x=y at hr;cases hr with
      |agg hl ho hh=>
       rename_i xs;obtain⟨z,hz',hzr⟩:=jhz (P:=P) (w:=w) hl ho hh h5;exact⟨z,cm (by rw[hy0,hi];simp[Instr.index,asIntOf,run_underlying hu,Result.andThen,ik hi0,hm.1,hm.2,hz']),hzr⟩
     cases h4
    cases h4
   cases e
  ·
   split at e
   .rename_i l iv h1 h2 h3;simp only[msi] at e;obtain⟨v,h4,rfl⟩:=e;unfold bytV at h4;split at h4
    .rename_i k m;split at h4
     .rename_i hm;simp only[msi] at h4;obtain⟨b,h5,rfl⟩:=h4;have hi:=al (G.v h3);have hx:=cw (G.v h2);refine⟨.int .u8 b.toNat,cm ?_,.val _⟩;have hlt:=(gsi.1 h5).1;have hsz:m.toNat<(⟨l.toArray⟩:ByteArray).size:=by rw[jie];exact hlt
      have hb:(⟨l.toArray⟩:ByteArray)[m.toNat]?=some b:=by
       rw[getElem?_pos (⟨l.toArray⟩:ByteArray) m.toNat hsz];have:l[m.toNat]=b:=(gsi.1 h5).2;rw[<- this];rfl
      rw[hi,hx];simp[Instr.index,asIntOf,run_underlying (jbm h1),hm,hb]
     cases h4
    cases h4
   cases e
 .rename_i t x lo hi;split at e
  .rename_i xv lov hiv h1 h2 h3;simp only[msi] at e;obtain⟨v,h4,rfl⟩:=e;obtain⟨r,hr,hv⟩:=qiw (P:=P) (show Rep F xv (ρc x) from G.opr x _ h1) h4 (jhc G h2) (jhc G h3) w;exact⟨r,cm hr,hv⟩
  .rename_i id off m size lov hiv h1 h2 h3;split at e
   .rename_i hs;simp only[msi] at e;obtain⟨⟨a,b⟩,hc,rfl⟩:=e;simp only[msi] at hs;obtain⟨⟨e',n⟩,hsl,rfl⟩:=hs;obtain⟨hu,hsz,hz⟩:=ip hsl;simp only at *;obtain⟨inf,hi0⟩:=mc (P:=P) (t:=e') omq;obtain⟨g1,g2,_,_⟩:=jho hc;obtain⟨cap,hc1,hc2,hc3,hv⟩:=show ∃cap,m<=cap/\cap<=maxLen/\0<m/\ρc x=_ from G.opr x _ h1
    have hb:=jh6 (P:=P) (F:=F) (isS:=true) (n:=m) (cap:=cap) hc hc1 (jhc G h2) (jhc G h3) w;refine⟨.slice (if cap=a then some ⟨ρ id,off,none⟩ else some ((⟨ρ id,off,none⟩:Addr).add (a*n))) (b-a) (cap-a),cm ?_,?_⟩
    .rw[hv];exact zd0
    simp only[cutS];by_cases hab:a=b
    .rw[ve hab];subst hab;have:(a-a)=([]:List (List V)).length:=by simp
     show Rep F (.slice n []) _
     rw[this];split
     .exact .slice (fun _ _=>undef) smq omq smq smq smq smq
     exact .slice (fun _ _=>undef) smq omq smq smq smq smq
    rw[vd hab,vd omq,eu];exact⟨cap-a,omq,omq,omq,rfl⟩
   cases e
  cases e
 .rename_i op t x y ty';split at e
  .rename_i h1 h2;split at e
   .rename_i c;split at e
    .rename_i hu;simp only[msi] at e;obtain⟨v,h3,rfl⟩:=e;have hx:=al (G.v h1);have hy:=al (G.v h2);obtain⟨r,hr,hv,hg⟩:=qgf (P:=P) (F:=F) hu h3 w c;exact⟨r,cm (by rw[hx,hy];simp[hg x,hr]),hv⟩
    cases e
   cases e
  .rename_i xv yv h1 h2;simp only[msi] at e;obtain⟨v,h3,rfl⟩:=e;obtain⟨r,hr,hv,hg⟩:=qa8 (P:=P) (G.v h1) (G.v h2) h3 w;exact⟨r,cm (by simp[hg x y,hr]),hv⟩
  cases e
 .rename_i t x;split at e
  .rename_i b h1;cases e;have hv:=al (G.v h1);exact⟨.bool (!b),cm (by rw[hv];rfl),.val _⟩
  cases e
 .rename_i t x;split at e
  .rename_i k n h1;cases e;have hv:=al (G.v h1);exact⟨.int k (k.wrap (0-n)),cm (by rw[hv];rfl),.val _⟩
  cases e
 .rename_i t x;split at e
  .rename_i k n h1;cases e;have hv:=al (G.v h1);exact⟨.int k (notF k n),cm (by rw[hv];rfl),.val _⟩
  cases e
 .rename_i src dst' x;split at e
  .rename_i xv h1 h2;simp only[msi] at e;obtain⟨v,h3,rfl⟩:=e;obtain⟨ds,hs⟩:=xbe.1 h1;unfold jfz at h3;split at h3
   .rename_i k0 n;split at h3
    .rename_i k hk;cases h3;have hv:=al (G.v h2);refine⟨.int k (k.wrap n),cm ?_,.val _⟩;rw[hv];simp[convert,run_underlying hs,run_underlying (jhh hk),Conv.intToInt]
    cases h3
   .rename_i l;split at h3
    .rename_i hd;cases h3;have hv:=cw (G.v h2);refine⟨.string ⟨l.toArray⟩,cm ?_,.str _⟩;rw[hv];simp[convert,run_underlying hs,run_underlying (jbm hd)]
    cases h3
   cases h3
  cases e
 .rename_i x i;split at e
  .rename_i vs h1;simp only[msi] at e;obtain⟨v,h2,rfl⟩:=e;have hr:=G.v h1;generalize hy0:ρc x=y at hr;cases hr with
   |tup hl hh=>
    rename_i xs
    have hlt:i<xs.size:=by
     have:=(gsi.1 h2).1;omega
    exact⟨xs[i],cm (by rw[hy0];simp[Instr.extract,Array.getElem?_eq_getElem hlt]),hh i v _ h2 (xu hlt)⟩
  cases e
 .rename_i f first cap
  split at e
  .rename_i h0;simp only[msi] at e;obtain⟨vs,h1,rfl⟩:=e;obtain⟨hl,hh⟩:=ju4 G h1;obtain rfl:first= #[]:=Array.eq_empty_of_size_eq_zero h0
   refine⟨.func (.func f) #[] (cap.map ρc),cm (by simp[Instr.makeFunc]),.func (by simp[hl]) (fun j c x e1 e2=>hh j c x e1 ?_)⟩;rw[<- e2];simp[Array.getElem?_map,List.getElem?_map]
  cases e
 .rename_i t x i ok;split at e
  .rename_i kt et es k h1 h2 h3;split at e
   .rename_i z h5;split at e
    .rename_i hc;simp only[msi] at e;obtain⟨r,h6,rfl⟩:=e
     have hu:P.underlying t=some (.map kt et):=by
      unfold rb at h1;split at h1
      .rename_i a b hu;cases h1;exact hu
      cases h1
     have hz:(zeroValue et).run P w=.ok z w:=by
      unfold ic at h5;cases hi:P.info? et with
      |none=>rw[hi] at h5;cases h5
      |some inf=>
       rw[hi] at h5;simp only[Option.bind_some] at h5;simp[zeroValue,typeInfo,hi,h5]
     have hkd:∃d,P.underlying kt=some d:=by
      have:=hc.1;unfold keyT at this;cases hd:P.underlying kt with
      |none=>rw[hd] at this;cases k<;>simp at this
      |some d=>exact⟨d,rfl⟩
     obtain⟨d,hd⟩:=hkd;have hck:=fun em=>jjm em 9999 hd hc.1 (ρc i) w
     have pair:∀ {v:V} {y:Value} (b:Bool),Rep F v y->Rep F (bif ok then .tup [v,.val (.bool b)] else v) (if ok=true then .tuple #[y,.bool b] else y):=fun {v y} b hr=>by
      cases ok with
      |false=>exact hr
      |true=>exact qr9 hr (.val _)
     rcases qjd G h2 with⟨hx,rfl⟩|⟨b,xs,ck,hx,g1,g2,g3⟩
     .simp only[ma,vk] at h6;subst h6;refine⟨if ok=true then .tuple #[z,.bool false] else z,cm ?_,pair false (je4 F z hc.2)⟩;rw[hx];have e0:Instr.findNow d (ρc i) [] 0=some none:=rfl;simp[Instr.lookup,run_underlying hu,hck,Instr.findKey,run_underlying hd,e0,hz]
     have hnow:=jx6 (P:=P) (G.v h3) hc.1 hd es xs.toList 0 (by simp[g2]) (fun j k' v y e1 e2=>g3 j k' v y e1 zeu) h6;cases r with
     |none=>
      simp only at hnow;refine⟨if ok=true then .tuple #[z,.bool false] else z,cm ?_,pair false (je4 F z hc.2)⟩;rw[hx];simp[Instr.lookup,run_underlying hu,ja8 g1,hck,Instr.findKey,run_underlying hd,hnow,hz]
     |some v=>
      simp only at hnow;obtain⟨i',y,e1,e2,e3⟩:=hnow;refine⟨if ok=true then .tuple #[y.val,.bool true] else y.val,cm ?_,pair true e3⟩;rw[hx];simp[Instr.lookup,run_underlying hu,ja8 g1,hck,Instr.findKey,run_underlying hd,e1]
    cases e
   cases e
  cases e
 .rename_i c;split at e
  .rename_i hcal;split at e
   .rename_i x t h1 h2;simp only[msi] at e;obtain⟨v,h3,rfl⟩:=e;obtain⟨y,hr,hy⟩:=qjh (P:=P) (ty:=ty) G h3;have ha:c.args= #[x]:=by apply yj;simpa using h1
    have hb:c.argTypes= #[t]:=by apply yj;simpa using h2
    refine⟨y,?_,hy⟩;simp[execOp,resolve,hcal,ha,hb,invoke,builtin,hr]
   cases e
  .rename_i hcal;split at e
   .rename_i x y h1;simp only[msi] at e;obtain⟨v,h3,rfl⟩:=e;obtain⟨k,k',m,q,g1,g2,rfl⟩:=jlv h3;have ha:c.args= #[x,y]:=by apply yj;simpa using h1
    have hx:=al (G.v g1);have hy:=al (G.v g2);refine⟨_,?_,.val _⟩;simp[execOp,resolve,hcal,ha,invoke,builtin,Builtin.min_,Builtin.min2,hx,hy]
   cases e
  .rename_i hcal;split at e
   .rename_i x y h1;simp only[msi] at e;obtain⟨v,h3,rfl⟩:=e;obtain⟨k,k',m,q,g1,g2,rfl⟩:=jlv h3;have ha:c.args= #[x,y]:=by apply yj;simpa using h1
    have hx:=al (G.v g1);have hy:=al (G.v g2);refine⟨_,?_,.val _⟩;simp[execOp,resolve,hcal,ha,invoke,builtin,Builtin.max_,Builtin.max2,hx,hy]
   cases e
  cases e
 cases e
def gn(F:Frz)(b n:Nat)(xs:Array Value):Frz:= { c:=fun p=>if p.block=b/\p.spot=none/\p.off<n then xs[p.off]? else F p,m:=F.m }
theorem ry(F:Frz)(b n:Nat)(xs:Array Value)(p:Addr):gn F b n xs p=if p.block=b/\p.spot=none/\p.off<n then xs[p.off]? else F p:=rfl
theorem ju(hF:Sees F w){b:Nat}{xs:Array MapEntry×Nat}(e:F.m b=some xs):b<w.heap.size:=by
 obtain⟨ck,h⟩:=hF.m b xs e;rcases xk b w.heap.size with hlt|hge
 .exact hlt
 rw[xb6 hge] at h;cases h
theorem jje(hF:Sees F w){b:Nat}{xs:Array Value}{fz:Nat×Nat}(h:w.heap[b]?=some (.cells xs t fz)):F.m b=none:=by
 cases e:F.m b with
 |none=>rfl
 |some ys=>obtain⟨ck,h2⟩:=hF.m b ys e;rw[h] at h2;cases h2
theorem qms(hF:Sees F w):F.m w.heap.size=none:=by
 cases e:F.m w.heap.size with
 |none=>rfl
 |some ys=>exact absurd (ju hF e) (Nat.lt_irrefl _)
theorem jxa(hF:Sees F w)(n:Nat)(xs:Array Value)(e:TypeId):Ext F w (gn F w.heap.size n xs) (w.alloc (.cells xs e)):=by
 have hno:∀p v,F p=some v->p.block<w.heap.size:=fun p v hp=>uf (hF p v hp);refine⟨⟨fun p v hp=>?_,fun _ _ e=>e⟩,⟨fun p v hp=>?_,fun b xs e=>?_⟩,fun p v hp=>?_,fun _ _ e=>.inl e,(Below.refl _ _).alloc (vo _) _⟩
 .have:=hno p v hp;rw[ry,vd omq];exact hp
 .rw[ry] at hp;split at hp
  .rename_i hb;obtain⟨b,o,s⟩:=p;simp only at hb hp;obtain⟨rfl,rfl,_⟩:=hb
   have:(w.alloc (.cells xs e)).heap[w.heap.size]?=some (.cells xs e (0,0)):=by
    show (w.heap.push _)[w.heap.size]?=_
    simp
   unfold World.cell?;rw[this];simp[hp]
  have:=hF p v hp;rw[World.cell?_of_block (w:=w) (Below.heap_alloc w _ _ (hno p v hp))];exact this
 .obtain⟨ck,h⟩:=hF.m b xs e;exact⟨ck,(Below.heap_alloc w _ _ (ju hF e)).trans h⟩
 rw[ry] at hp;split at hp
 .rename_i hb;right;omega
 exact .inl hp
def oneV:V->Bool
 |.agg _=>true
 |v=>v.one
theorem jbc{v:V}(hr:Rep F v x)(ho:oneV v=true):
  x.cells.size=v.cells.length/\(∀c∈v.cells,c.one=true)/\∀(j:Nat) c y,v.cells[j]?=some c->x.cells[j]?=some y->Rep F c y:=by
 cases hr with
 |agg hl hone hh=>exact⟨hl,hone,hh⟩
 |tup hl hh=>cases ho
 |val=>
  have hu:x.cells= #[x]:=by cases x<;>first|rfl|(simp[oneV,V.one,Value.oneCell'] at ho)
  refine⟨by simp[hu,V.cells],fun c hc=>by simp[V.cells] at hc;subst hc;exact ho,fun j c y h1 h2=>?_⟩;rw[hu] at h2;cases j with
  |zero=>simp[V.cells] at h1 h2;subst h1 h2;exact .val _
  |succ j=>simp[V.cells] at h1
 |str l=>
  refine⟨rfl,fun c hc=>by simp[V.cells] at hc;subst hc;rfl,fun j c y h1 h2=>?_⟩;cases j with
  |zero=>simp[V.cells,Value.cells] at h1 h2;subst h1 h2;exact .str _
  |succ j=>simp[V.cells] at h1
 |snil=>
  refine⟨rfl,fun c hc=>by simp[V.cells] at hc;subst hc;rfl,fun j c y h1 h2=>?_⟩;cases j with
  |zero=>simp[V.cells,Value.cells] at h1 h2;subst h1 h2;exact .snil
  |succ j=>simp[V.cells] at h1
 |slice g hc hm hs ho' hg hr=>
  refine⟨rfl,fun c hc=>by simp[V.cells] at hc;subst hc;rfl,fun j c y h1 h2=>?_⟩;cases j with
  |zero=>simp[V.cells,Value.cells] at h1 h2;subst h1 h2;exact .slice g hc hm hs ho' hg hr
  |succ j=>simp[V.cells] at h1
 |row g ho' hg hr=>
  refine⟨rfl,fun c hc=>by simp[V.cells] at hc;subst hc;rfl,fun j c y h1 h2=>?_⟩;cases j with
  |zero=>simp[V.cells,Value.cells] at h1 h2;subst h1 h2;exact .row g ho' hg hr
  |succ j=>simp[V.cells] at h1
 |func hl hh=>
  refine⟨rfl,fun c hc=>by simp[V.cells] at hc;subst hc;rfl,fun j c y h1 h2=>?_⟩;cases j with
  |zero=>simp[V.cells,Value.cells] at h1 h2;subst h1 h2;exact .func hl hh
  |succ j=>simp[V.cells] at h1
 |ifc t u=>
  refine⟨rfl,fun c hc=>by simp[V.cells] at hc;subst hc;rfl,fun j c y h1 h2=>?_⟩;cases j with
  |zero=>simp[V.cells,Value.cells] at h1 h2;subst h1 h2;exact .ifc _ _
  |succ j=>simp[V.cells] at h1
 |map hb hl hl' hk hv=>
  refine⟨rfl,fun c hc=>by simp[V.cells] at hc;subst hc;rfl,fun j c y h1 h2=>?_⟩;cases j with
  |zero=>simp[V.cells,Value.cells] at h1 h2;subst h1 h2;exact .map hb hl hl' hk hv
  |succ j=>simp[V.cells] at h1
theorem qbb(xs:Array Value)(off:Nat):∀(l:List Value) (k:Nat) (i:Nat),off+k+l.length<=xs.size->
  ((l.zipIdx k).foldl (fun cs (c,j)=>cs.setIfInBounds (off+j) c) xs)[i]?=if off+k<=i/\i<off+k+l.length then l[i-(off+k)]? else xs[i]? := by
 intro l
 induction l generalizing xs with
 |nil=>intro k i _;simp;intro h1 h2;omega
 |cons c l ih=>
  intro k i hb;simp only[List.zipIdx_cons,List.foldl_cons,List.length_cons] at hb ⊢;rw[ih (xs.setIfInBounds (off+k) c) (k+1) i zep];by_cases h1:off+(k+1)<=i/\i<off+(k+1)+l.length
  .rw[ve h1,ve omq];have:i-(off+k)=(i-(off+(k+1)))+1:=omq;rw[this,List.getElem?_cons_succ]
  rw[vd h1];by_cases h2:i=off+k
  .subst h2;rw[ve omq];have hlt:off+k<xs.size:=omq;simp[hlt]
  rw[vd omq,xcn omq]
theorem jnf(xs:Array Value)(off:Nat):∀(l:List Value) (k:Nat),((l.zipIdx k).foldl (fun cs (c,j)=>cs.setIfInBounds (off+j) c) xs).size=xs.size:=by
 intro l
 induction l generalizing xs with
 |nil=>intro k;rfl
 |cons c l ih=>intro k;simp only[List.zipIdx_cons,List.foldl_cons];rw[ih];simp
def ba(cs:List V)(off:Nat)(news:List V):List V:=cs.take off++news++cs.drop (off+news.length)
theorem dy{cs:List V}(hb:off+news.length<=cs.length)(i:Nat):
  (ba cs off news)[i]?=if off<=i/\i<off+news.length then news[i-off]? else cs[i]? := by
 unfold ba;by_cases h1:i<off
 .rw[vd omq,xb,xp zep,yx,ve h1]
 by_cases h2:i<off+news.length
 .rw[ve omq,xb,yb zep,xp zep];congr 1;simp;omega
 rw[vd omq,xb,yb zep,yb zep,xcz];congr 1;simp;omega
theorem rj{cs:List V}(hb:off+news.length<=cs.length):(ba cs off news).length=cs.length:=by
 unfold ba;simp;omega
def pq(pl:Nat->Option (Nat×Nat)):List V->List (Nat×V)->Option (List V)
 |cs,[]=>some cs
 |cs,(i,v)::r=>match pl i with
  |none=>none
  |some (off,size)=>if v.cells.length=size/\off+size<=cs.length/\oneV v=true then pq pl (ba cs off v.cells) r else none
theorem jjz(pl:Nat->Option (Nat×Nat)):∀(ps:List (Nat×V)) (qs:List (Nat×Value)) (cs r:List V) (xs:Array Value),
  xs.size=cs.length->(∀c∈cs,c.one=true)->(∀(j:Nat) c y,cs[j]?=some c->xs[j]?=some y->Rep F c y)->
  qs.length=ps.length->(∀(j:Nat) i v i' y,ps[j]?=some (i,v)->qs[j]?=some (i',y)->i'=i/\Rep F v y)->pq pl cs ps=some r->
  ∃ys,Instr.fill pl xs qs=some ys/\ys.size=r.length/\(∀c∈r,c.one=true)/\∀(j:Nat) c y,r[j]?=some c->ys[j]?=some y->Rep F c y
 |[],[],cs,r,xs,h1,h2,h3,_,_,e=>by
  simp only[pq,vk] at e;subst e;exact⟨xs,rfl,h1,h2,h3⟩
 |[],_::_,_,_,_,_,_,_,hl,_,_=>by simp at hl
 |_::_,[],_,_,_,_,_,_,hl,_,_=>by simp at hl
 |(i,v)::ps,(i',x)::qs,cs,r,xs,h1,h2,h3,hl,hh,e=>by
  obtain⟨rfl,hr⟩:=hh 0 i v i' x rfl rfl;simp only[pq] at e;cases hp:pl i' with
  |none=>rw[hp] at e;cases e
  |some os=>
   obtain⟨off,size⟩:=os;rw[hp] at e;simp only at e;split at e
   .rename_i hc;obtain⟨c1,c2,c3⟩:=hc;obtain⟨s1,s2,s3⟩:=jbc hr c3;subst c1;have hlen:x.cells.toList.length=v.cells.length:=by simpa using s1
    have hfill:Instr.fill pl xs ((i',x)::qs)=Instr.fill pl (x.cells.zipIdx.foldl (fun cs (c,j)=>cs.setIfInBounds (off+j) c) xs) qs:=by
     simp only[Instr.fill,hp];rw[vd zep]
    have hfold:x.cells.zipIdx.foldl (fun cs (c,j)=>cs.setIfInBounds (off+j) c) xs=(x.cells.toList.zipIdx 0).foldl (fun cs (c,j)=>cs.setIfInBounds (off+j) c) xs:=by
     rw[<- Array.foldl_toList];simp
    rw[hfill,hfold];have hget:=fun i=>qbb xs off x.cells.toList 0 i zep;refine jjz pl ps qs _ r _ (by rw[jnf,rj c2];exact h1) ?_ ?_ ze3 (fun j a b c d e1 e2=>hh (j+1) a b c d ze4 zeu) e
    .intro c hc;obtain⟨j,hj⟩:=xm hc;rw[dy c2] at hj;split at hj
     .exact s2 c (vp hj)
     exact h2 c (vp hj)
    intro j c y e1 e2;rw[hget] at e2;rw[dy c2] at e1;simp only[Nat.add_zero,hlen] at e2;split at e1
    .rename_i hin;rw[ve hin] at e2;exact s3 _ c y e1 zeu
    rename_i hin;rw[vd hin] at e2;exact h3 j c y e1 e2
   cases e
def mu(ρ:Operand->Option TV):List (Nat×Operand)->Option (List (Nat×V))
 |[]=>some []
 |(i,x)::r=>match vOf (ρ x),mu ρ r with
  |some v,some vs=>some ((i,v)::vs)
  |_,_=>none
theorem jjo(G:Good F w ρ h ρa ρc):∀ {l:List (Nat×Operand)} {vs:List (Nat×V)},mu ρa l=some vs->
  (l.map fun(i,x)=>(i,ρc x)).length=vs.length/\∀(j:Nat) i v i' x,vs[j]?=some (i,v)->(l.map fun(i,x)=>(i,ρc x))[j]?=some (i',x)->i'=i/\Rep F v x
 |[],vs,e=>by simp[mu] at e;subst e;simp
 |(i,x)::r,vs,e=>by
  simp only[mu] at e;split at e
  .rename_i v vs' h1 h2;cases e;obtain⟨hl,hh⟩:=jjo G h2;refine⟨by simpa using hl,fun j a b c d e1 e2=>?_⟩;cases j with
   |zero=>
    simp only[List.getElem?_cons_zero,vk,vy,xo] at e1 e2;obtain⟨rfl,rfl⟩:=e1;obtain⟨rfl,rfl⟩:=e2;exact⟨rfl,G.v h1⟩
   |succ j=>
    simp only[List.getElem?_cons_succ,vy] at e1 e2;exact hh j a b c d e1 e2
  cases e
def jii(P:Program)(t:TypeId):Option (List (Nat×Nat)):=
 match P.underlying t with
 |some (.struct fs)=>fs.toList.mapM fun f=>(P.info? f.type).map fun i=>(f.offset,i.size)
 |some (.array n e)=>(P.info? e).map fun i=>(List.range n).map fun j=>(j*i.size,i.size)
 |_=>none
theorem jv4{pl pl':Nat->Option (Nat×Nat)}(hp:∀i x,pl i=some x->pl' i=some x):∀(ps:List (Nat×V)) (cs r:List V),pq pl cs ps=some r->pq pl' cs ps=some r
 |[],cs,r,e=>e
 |(i,v)::ps,cs,r,e=>by
  simp only[pq] at e ⊢;cases h1:pl i with
  |none=>rw[h1] at e;cases e
  |some q=>
   obtain⟨off,size⟩:=q;rw[h1] at e;rw[hp i _ h1];simp only at e ⊢;split at e
   .rename_i hc;rw[ve hc];exact jv4 hp ps _ r e
   cases e
def lb(P:Program)(t:TypeId):Option (List V):=(ic P t).bind fun z=>if pi z=true/\oneV (nf z)=true then some (nf z).cells else none
def bsV(size:Nat):List (Nat×V)->Nat->Option (List (List V))
 |[],_=>some []
 |(i,v)::r,k=>if i=k/\v.cells.length=size/\oneV v=true then(bsV size r (k+1)).map (v.cells :: ·) else none
def evb(P:Program)(ρ:Operand->Option TV)(o:Op):Option V:=
 match o with
 |.build t parts=>match jii P t,lb P t,mu ρ parts.toList with
  |some pl,some zs,some ps=>(pq (pl[·]?) zs ps).map .agg
  |_,_,_=>none
 |.buildSlice t len parts=>match slV P t,mu ρ parts.toList with
  |some (e,size),some ps=>if ps.length=len/\len*size<=16777216/\(ic P e).isSome=true then(bsV size ps 0).map (.slice size) else none
  |_,_=>none
 |_=>none
theorem jdj{zs:List V}(e:lb P t=some zs):
  ∃z,(zeroValue t).run P w=.ok z w/\z.cells.size=zs.length/\(∀c∈zs,c.one=true)/\∀(j:Nat) c y,zs[j]?=some c->z.cells[j]?=some y->Rep F c y:=by
 unfold lb at e;simp only[xaz] at e;obtain⟨z,hz,e⟩:=e;split at e
 .rename_i hc;cases e;obtain⟨h1,h2,h3⟩:=jbc (je4 F z hc.1) hc.2;refine⟨z,?_,h1,h2,h3⟩;unfold ic at hz;cases hi:P.info? t with
  |none=>rw[hi] at hz;cases hz
  |some inf=>
   rw[hi] at hz;simp only[Option.bind_some] at hz;simp[zeroValue,typeInfo,hi,hz]
 cases e
theorem qcd(size:Nat):∀(ps:List (Nat×V)) (qs:List (Nat×Value)) (k:Nat) (es:List (List V)) (xs:Array Value),
  qs.length=ps.length->(∀(j:Nat) i v i' y,ps[j]?=some (i,v)->qs[j]?=some (i',y)->i'=i/\Rep F v y)->bsV size ps k=some es->(k+ps.length)*size=xs.size->
  ∃ys,Instr.fill (fun i=>some (i*size,size)) xs qs=some ys/\ys.size=xs.size/\es.length=ps.length/\(∀e∈es,e.length=size)/\(∀e∈es,∀c∈e,c.one=true)/\
   (∀i,i<k*size->ys[i]?=xs[i]?)/\∀(i j:Nat) e c,es[i]?=some e->e[j]?=some c->∃y,ys[(k+i)*size+j]?=some y/\Rep F c y
 |[],[],k,es,xs,_,_,e,_=>by
  simp only[bsV,vk] at e;subst e;exact⟨xs,rfl,rfl,rfl,smq,smq,fun _ _=>rfl,smq⟩
 |[],_::_,_,_,_,hl,_,_,_=>by simp at hl
 |_::_,[],_,_,_,hl,_,_,_=>by simp at hl
 |(i,v)::ps,(i',x)::qs,k,es,xs,hl,hh,e,hsz=>by
  obtain⟨rfl,hr⟩:=hh 0 i v i' x rfl rfl;simp only[bsV] at e;split at e
  .rename_i hc;obtain⟨rfl,c2,c3⟩:=hc;simp only[msi] at e;obtain⟨es',he',rfl⟩:=e;obtain⟨s1,s2,s3⟩:=jbc hr c3;have hlen:x.cells.toList.length=size:=by simpa [c2] using s1
   have hxs:x.cells.size=size:=by simpa using hlen
   have hbig:i'*size+size<=xs.size:=by
    rw[<- hsz];simp only[List.length_cons];have:(i'+(ps.length+1))*size=i'*size+ps.length*size+size:=by rw[yy,yy];omega
    omega
   have hfold:x.cells.zipIdx.foldl (fun cs (c,j)=>cs.setIfInBounds (i'*size+j) c) xs=(x.cells.toList.zipIdx 0).foldl (fun cs (c,j)=>cs.setIfInBounds (i'*size+j) c) xs:=by
    rw[<- Array.foldl_toList];simp
   have hfill:Instr.fill (fun i=>some (i*size,size)) xs ((i',x)::qs)=Instr.fill (fun i=>some (i*size,size)) ((x.cells.toList.zipIdx 0).foldl (fun cs (c,j)=>cs.setIfInBounds (i'*size+j) c) xs) qs:=by
    simp only[Instr.fill];rw[vd (by simp[hxs];omega),hfold]
   have hget:=fun i=>qbb xs (i'*size) x.cells.toList 0 i omq;have hm1:(i'+1)*size=i'*size+size:=by rw[yy];omega
   obtain⟨ys,h1,h2,h3,h4,h5,h6,h7⟩:=qcd size ps qs (i'+1) es' ((x.cells.toList.zipIdx 0).foldl (fun cs (c,j)=>cs.setIfInBounds (i'*size+j) c) xs) ze3 (fun j a b c d e1 e2=>hh (j+1) a b c d ze4 zeu) he'
    (by rw[jnf,<- hsz];simp only[List.length_cons];congr 1;omega)
   rw[jnf] at h2;refine⟨ys,by rw[hfill,h1],h2,by simp[h3],?_,?_,?_,?_⟩
   .intro e he;rcases vt.1 he with rfl|he
    .exact c2
    exact h4 e he
   .intro e he;rcases vt.1 he with rfl|he
    .exact s2
    exact h5 e he
   .intro i hi;rw[h6 i omq,hget];rw[vd omq]
   intro a j e c e1 e2;cases a with
   |zero=>
    simp only[List.getElem?_cons_zero,vk] at e1;subst e1
    have hj:j<size:=by
     have:=(gsi.1 e2).1;omega
    have hjx:j<x.cells.toList.length:=omq;refine⟨x.cells.toList[j],?_,s3 j c _ e2 (by simp[hxs,hj])⟩;rw[h6 _ (by simp only[Nat.add_zero];omega),hget,ve (by simp only[Nat.add_zero];omega)];simp[hxs,hj]
   |succ a=>
    simp only[List.getElem?_cons_succ] at e1;obtain⟨y,hy,hry⟩:=h7 a j e c e1 e2;refine⟨y,?_,hry⟩;rw[<- hy];congr 2;congr 1;omega
  cases e
theorem qa7(G:Good F w ρ h ρa ρc)(o:Oper){len:Nat}{parts:Array (Nat×Operand)}{v:V}(ho:o.op=.buildSlice t len parts)(e:evb P ρa o.op=some v):
  ∃x F' w',(execOp ρc o).run P w=.ok (.value x) w'/\Ext F w F' w'/\Rep F' v x/\
   ∃e' size ys,slV P t=some (e',size)/\x=.slice (some ⟨w.heap.size,0,none⟩) len len/\len<=maxLen/\w'=w.alloc (.cells ys e')/\ys.size=len*size/\∀p v,F' p=some v->p.block=w.heap.size->p.off<len*size:=by
 obtain⟨dst,op,ty,pos,after,guard⟩:=o;simp only at ho;subst ho;unfold evb at e;simp only at e;split at e
 .rename_i e' size ps h1 h2;split at e
  .rename_i hc;simp only[msi] at e;obtain⟨es,h4,rfl⟩:=e;obtain⟨hu,hsz,hz⟩:=ip h1;obtain⟨inf,hi⟩:=mc (P:=P) (t:=e') omq;obtain⟨p1,p2⟩:=jjo G h2;have hmap:(parts.map fun(i,x)=>(i,ρc x)).toList=parts.toList.map fun(i,x)=>(i,ρc x):=by simp
   have key:∀(xs:Array Value),xs.size=len*size->∃ys F',Instr.fill (fun i=>some (i*size,size)) xs (parts.toList.map fun(i,x)=>(i,ρc x))=some ys/\
     Ext F w F' (w.alloc (.cells ys e'))/\Rep F' (.slice size es) (.slice (some ⟨w.heap.size,0,none⟩) len len)/\len<=maxLen/\ys.size=len*size/\∀p v,F' p=some v->p.block=w.heap.size->p.off<len*size:=by
    intro xs hxs;obtain⟨ys,y1,y2,y3,y4,y5,_,y7⟩:=qcd (F:=F) size ps _ 0 es xs p1 p2 h4 (by rw[hxs,hc.1];simp);have hx:=jxa (w:=w) G.sees ys.size ys e';have hl:es.length=len:=by rw[y3];exact hc.1
    have hlm:len<=maxLen:=by
     have:len*1<=len*size:=Nat.mul_le_mul_left _ omq;unfold maxLen;omega
    refine⟨ys,_,y1,hx,?_,hlm,y2.trans hxs,fun p v hp hb=>?_⟩
    rotate_left
    .rw[ry] at hp;split at hp
     .rename_i hc2;have:=hc2.2.2;rw[y2,hxs] at this;exact this
     have:=uf (G.sees p v hp);omega
    rw[<- hl];refine .slice (fun i j=>ys.getD (i*size+j) undef) omq omq y4 y5 (fun i j e c e1 e2=>?_) (fun i j e c e1 e2=>?_)
    .obtain⟨y,g1,g2⟩:=y7 i j e c e1 e2;simp only[xl] at g1;have hlt:=(asi.1 g1).1;rw[eu,xl];rw[ry];rw[ve ⟨rfl,rfl,hlt⟩];simp[hlt]
    obtain⟨y,g1,g2⟩:=y7 i j e c e1 e2;simp only[xl] at g1;have hlt:=(asi.1 g1).1;have:y=ys[i*size+j]:=by simpa [hlt] using g1.symm
    subst this;simp only[xce,xu hlt,Option.getD_some];exact g2.mono hx.le
   obtain⟨z,hz'⟩:=xbe.1 hc.2.2
   have hzr:(zeroValue e').run P w=.ok z w:=by
    unfold ic at hz';rw[hi] at hz';simp only[Option.bind_some] at hz';simp[zeroValue,typeInfo,hi,hz']
   have hle:¬(len*size > 16777216):=omq;by_cases h0:len*size=0
   .obtain⟨ys,F',k1,k2,k3,k4,k5,k6⟩:=key ((Array.range (len*size)).map fun i=>(#[]:Array Value)[i % (#[]:Array Value).size]!) smq;refine⟨.slice (some ⟨w.heap.size,0,none⟩) len len,F',w.alloc (.cells ys e'),cm ?_,k2,k3,e',size,ys,h1,rfl,k4,rfl,k5,k6⟩;simp only[Instr.buildSlice,Sem.run_bind,run_underlying hu,Result.andThen_ok,ik hi,hsz,xd0];rw[vd hle,ve h0];simp only[Sem.run_pure,Sem.run_bind,Result.andThen_ok];rw[k1];rfl
   obtain⟨ys,F',k1,k2,k3,k4,k5,k6⟩:=key ((Array.range (len*size)).map (z.cells[· % z.cells.size]!)) smq;refine⟨.slice (some ⟨w.heap.size,0,none⟩) len len,F',w.alloc (.cells ys e'),cm ?_,k2,k3,e',size,ys,h1,rfl,k4,rfl,k5,k6⟩;simp only[Instr.buildSlice,Sem.run_bind,run_underlying hu,Result.andThen_ok,ik hi,hsz,xd0];rw[vd hle,vd h0];simp only[Sem.run_pure,Sem.run_bind,Result.andThen_ok,hzr];rw[k1];rfl
  cases e
 cases e
theorem jxc(G:Good F w ρ h ρa ρc)(o:Oper){v:V}(e:evb P ρa o.op=some v):
  ∃x F' w',(execOp ρc o).run P w=.ok (.value x) w'/\Ext F w F' w'/\Rep F' v x:=by
 obtain⟨dst,op,ty,pos,after,guard⟩:=o;simp only at e;unfold evb at e;split at e
 .rename_i t parts;split at e
  .rename_i pl zs ps h1 h2 h3;simp only[msi] at e;obtain⟨cs,h4,rfl⟩:=e;obtain⟨z,z1,z2,z3,z4⟩:=jdj (P:=P) (F:=F) (w:=w) h2;obtain⟨p1,p2⟩:=jjo G h3;obtain⟨ys,y1,y2,y3,y4⟩:=jjz (F:=F) _ ps _ zs cs z.cells z2 z3 z4 p1 p2 h4;unfold jii at h1;split at h1
   .rename_i fs hu;have hp:=run_places (P:=P) w fs.toList pl h1;have hmap:(parts.map fun(i,x)=>(i,ρc x)).toList=parts.toList.map fun(i,x)=>(i,ρc x):=by simp
    refine⟨.agg ys,F,w,?_,Ext.refl G.sees,.agg y2 y3 y4⟩;refine cm ?_;have y1':Instr.fill (fun i=>pl[i]?) z.cells ((parts.map fun(i,x)=>(i,ρc x)).toList)=some ys:=by rw[hmap];exact y1
    simp only[xd0] at y1';simp[Instr.build,run_underlying hu,z1,Array.mapM_eq_mapM_toList,hp,y1']
   .rename_i n e hu;simp only[msi] at h1;obtain⟨inf,hi,rfl⟩:=h1
    have h4':=jv4 (pl':=fun i=>some (i*inf.size,inf.size)) (fun i x hx=>by
     simp only[xe,msi] at hx;obtain⟨a,ha,rfl⟩:=hx;have:=gsi.1 ha;obtain⟨hl,hl'⟩:=this;simp at hl';subst hl'
     rfl) _ _ _ h4
    obtain⟨ys,y1,y2,y3,y4⟩:=jjz (F:=F) _ ps _ zs cs z.cells z2 z3 z4 p1 p2 h4';have hmap:(parts.map fun(i,x)=>(i,ρc x)).toList=parts.toList.map fun(i,x)=>(i,ρc x):=by simp
    refine⟨.agg ys,F,w,?_,Ext.refl G.sees,.agg y2 y3 y4⟩;refine cm ?_;have y1':Instr.fill (fun i=>some (i*inf.size,inf.size)) z.cells ((parts.map fun(i,x)=>(i,ρc x)).toList)=some ys:=by rw[hmap];exact y1
    simp only[xd0] at y1';have hsz:P.cellsOf e=inf.size:=by simp[Program.cellsOf,hi]
    simp[Instr.build,run_underlying hu,z1,ik hi,hsz,y1']
   cases h1
  cases e
 .rename_i t len parts;obtain⟨x,F',w',h1,h2,h3,-⟩:=qa7 G ⟨dst,.buildSlice t len parts,ty,pos,after,guard⟩ rfl (v:=v) (by unfold evb;exact e);exact⟨x,F',w',h1,h2,h3⟩
 cases e
end Go.Ab
namespace Go.Ab
variable {P : Program}{r : Option Nat}
def fc(r:Option Nat):Fence:= { Fence.wide with round:=r }
abbrev wpG(r:Option Nat)(P:Program)(c:Code)(Q:Exit->Act->World->Prop)(a:Act)(w:World):Prop:=c.wpIn (fc r) 0 P Q a w
abbrev opG(r:Option Nat)(P:Program)(o:Oper)(a:Act)(w:World)(next:Act->World->Prop)(Q:Exit->Act->World->Prop):Prop:=o.wpIn (fc r) 0 P a w next Q
theorem qu5{f:FuncId}{args:Array Value}{w:World}{n:Nat}{R:Ending->World->Prop}(h:Calls P f args w R):CallsIn (fc r) n P f args w R:=
 match r with
 |none=>callsIn_wide.2 h
 |some l=>CallsIn.inRound l (callsIn_wide.2 h)
theorem jls{o:Oper}{ρ:Operand->Value}{x:Next}{w w':World}(hr:(execOp ρ o).run P w=.ok x w')(hx:∀d,x≠ .defer d)(c:Go.Call):o.op≠ .defer c:=fun h=>by
 unfold execOp at hr;rw[h] at hr;simp only[Sem.run_bind] at hr;cases hs:(resolve ρ c o.type).run P w with
 |ok d w1=>
  rw[hs] at hr;simp only[Result.andThen_ok,Sem.run_pure,Result.ok.injEq] at hr;exact hx d hr.1.symm
 |halt h w1=>rw[hs] at hr;simp[Result.andThen] at hr
variable {o : Oper}{a : Act}{w w' : World}{next : Act -> World -> Prop}{Q : Exit -> Act -> World -> Prop}
theorem cx{y:Value}(hr:(execOp a.eval o).run P w=.ok (.value y) w')(k:next (a.put o.dst y) w'):opG r P o a w next Q:=by
 refine⟨fun _ _=>trivial,?_⟩;rw[Oper.semAt_eq _ _ _ (jls hr (fun d h=>by cases h)),hr];exact k
theorem jn3(hr:(execOp a.eval o).run P w=.ok .skip w')(k:next (a.put o.dst undef) w'):opG r P o a w next Q:=by
 refine⟨fun _ _=>trivial,?_⟩;rw[Oper.semAt_eq _ _ _ (jls hr (fun d h=>by cases h)),hr];exact k
theorem tn {f:FuncId} {args:Array Value} (hr:(execOp a.eval o).run P w=.ok (.enter f args) w') (k:Calls P f args w' fun
  |.returned v,w''=>next (a.put o.dst v) w''
  |.panicked chain,w''=>Q (.panic chain) a w''
  |.outgrown,_=>LetsOut Q):opG r P o a w next Q:=by
 refine⟨fun _ _=>trivial,?_⟩;rw[Oper.semAt_eq _ _ _ (jls hr (fun d h=>by cases h)),hr];exact⟨fun h=>(by cases h),qu5 k⟩
theorem jso{c:Code}(I:Nat->Act->World->Prop)(n₀:Nat)(h₀:I n₀ a w) 
  (round:∀n a w,I n a w->wpG r P c (Exit.then (fun a' w'=>∃n',n'<n/\I n' a' w') Q) a w):wpG r P (Code.loop c) Q a w:=by
 refine wpIn_loop (fun a w=>∃n,I n a w) (fun a w=>leastOf (fun n=>I n a w)) ⟨n₀,h₀⟩ ?_;intro a w hI;refine wpIn_mono (round _ a w (leastOf_spec hI).1) ?_;intro e a' w' hq;cases e with
 |normal=>
  obtain⟨n',hlt,hI'⟩:=hq;exact show (∃n,I n a' w')/\leastOf (fun n=>I n a' w')<leastOf (fun n=>I n a w) from⟨⟨n',hI'⟩,Nat.lt_of_le_of_lt ((leastOf_spec ⟨n',hI'⟩).2 n' hI') hlt⟩
 |exit id=>exact hq
 |goto l=>exact hq
 |ret=>exact hq
 |panic ch=>exact hq
 |outgrown=>exact hq
end Go.Ab
