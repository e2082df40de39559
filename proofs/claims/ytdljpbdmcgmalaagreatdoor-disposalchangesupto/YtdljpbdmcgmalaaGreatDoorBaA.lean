/- A part of this claim. -/
import Derived.Calls
import Derived.Orders
import Derived.Still
import Derived.Deep.LoopGhost
import Derived.Below
import Derived.Maps.AppendAt
import Derived.Laws.Cells
import Derived.IntWalk
import Derived.Laws.StructEq
import Derived.Lib.SmallJoins
import Derived.WideShapes
import Derived.MapKept
import Derived.Laws.Tables
import Derived.CallsIn
import Derived.OrdersIn
import Derived.RangeFuncCalls
import Derived.RangeFuncIn
import Derived.KernelRfl
theorem om {p:Prop} (h:p:=by omega):p:=h
theorem kr {p:Prop} (h:p:=by kernel_rfl):p:=h
theorem dc {p:Prop} (h:p:=by decide):p:=h
theorem sm {p:Prop} (h:p:=by simp):p:=h
theorem rfq {p:Prop} (h:p:=by rfl):p:=h
theorem za {p:Prop} (h:p:=by refine run ?_;exact fin rfl):p:=h
theorem zb {p:Prop} (h:p:=by refine run ?_;refine hE () _ trivial ?_;exact jak [1,2] [1,2] rfl rfl rfl (fun _ _ e=>e) rfl):p:=h
theorem zc {p:Prop} (h:p:=by rw[List.getElem?_append_right om] at e1;rw[List.getElem?_append_right (by rw[List.length_map]; omega)] at e2;rw[List.length_map,<- hl2] at e2;exact hh _ v x e1 (by simpa using e2)):p:=h
theorem zd {p:Prop} (h:p:=by refine runW (ai hx (ai hap (ai ja9 (ai jaa ja2)))) ?_;exact round (k+1) hlt om):p:=h
theorem ze {p:Prop} (h:p:=by refine runW hx ?_;exact fin rfl):p:=h
theorem zf {p:Prop} (h:p:=by exact ⟨.slice none 0 0,sm,⟨0,[],jba.nil _ _ _ _,fun g hg'=>by simp[Value.ownBlock] at hg'⟩,fun id k' _=>by simp[Value.ownBlock]⟩):p:=h
theorem zg {p:Prop} (h:p:=by intro y hy;simp only[List.mem_singleton] at hy;subst hy;exact ⟨999000,_,rfl,rfl,rfl,.inr rfl,rfl⟩):p:=h
theorem zh {p:Prop} (h:p:=by rw[List.getElem?_append_left hj] at e1;rw[List.getElem?_append_left (by rw[List.length_map]; omega)] at e2;exact hh2 j v x e1 e2):p:=h
theorem zi {p:Prop} (h:p:=by rw[harr,<- this];simp[execOp,ho,resolve,hc,hfx,Deferred.ofValue,invoke]):p:=h
theorem zj {p:Prop} (h:p:=by refine runW (eq_false hz) ?_;exact finW (jbq _)):p:=h
theorem zk {p:Prop} (h:p:=by refine runW (ai ha (ai (show (r.trg == [111,112,101,110,101,100])=true from ho) (ai hy he))) ?_;exact fin rfl):p:=h
theorem zl {p:Prop} (h:p:=by simp only[execOp,ho,resolve,hc,ha,hb,Sem.run_bind,Sem.run_pure,Result.andThen_ok,invoke,builtin,List.map_toArray,List.map_cons,List.map_nil];rw[hrun];rfl):p:=h
theorem zm {p:Prop} (h:p:=by exact round (k+1) hlt om):p:=h
theorem zn {p:Prop} (h:p:=by obtain ⟨x0,hx0,_⟩:=S.tm i _ (jl5 hv);have hlt:=(asi.1 hx0).1;have:=hv1 i hi0;rw[jew (by have:=S.nn; omega)] at this;simp[Act.eval,this]):p:=h
theorem zo {p:Prop} (h:p:=by rename_i he; subst he; exact e):p:=h
theorem zp {p:Prop} (h:p:=by rw[List.getElem?_append_right om] at e1;rw[List.getElem?_append_right (by rw[List.length_map]; omega)] at e2;rw[List.length_map,<- hl2] at e2;simp only[List.getElem?_map,msi] at e1;obtain ⟨t,e1,rfl⟩:=e1;exact hh _ t x e1 (by simpa using e2)):p:=h
theorem zq {p:Prop} (h:p:=by refine hE (r',cap') _ ⟨by rw[hz]; exact h1,h2⟩ ?_;exact jak [] [] rfl rfl rfl (fun _ _ e=>by rw[hz1] at e; exact e) rfl):p:=h
theorem zr {p:Prop} (h:p:=by refine fin (ja3 ?_);simp):p:=h
theorem zt {p:Prop} (h:p:=by refine run ?_;exact finC1 (.refl _)):p:=h
theorem zu {p:Prop} (h:p:=by simp only;obtain ⟨hlt',rfl⟩:=gsi.1 hx;rw[List.take_succ_eq_append_getElem hlt',hall,List.map_append]; rfl):p:=h
theorem zw {p:Prop} (h:p:=by simp only[List.size_toArray,List.length_append,List.length_take,List.length_drop,Array.length_toList];omega):p:=h
theorem zx {p:Prop} (h:p:=by exact round (k+1) om om):p:=h
theorem zy {p:Prop} (h:p:=by rw[List.take_succ_eq_append_getElem hlt,List.map_append,List.map_append];obtain ⟨_,rfl⟩:=gsi.1 hx;rfl):p:=h
theorem z5 {p:Prop} (h:p:=by refine runW (ai jfc (ai ja9 (ai jaa ja2))) ?_;exact ⟨_,_,jbv rfl,.refl _,.inl ⟨none,hs,rfl,rfl⟩⟩):p:=h
theorem z6 {p:Prop} (h:p:=by refine rcW (ai ja9 (ai jaa ja2)) hch ?_;refine runW jfc ?_;exact fin rfl):p:=h
theorem z7 {p:Prop} (h:p:=by exact jeo (.v (.refl _))):p:=h
theorem z8 {p:Prop} (h:p:=by refine jb8 (ai ja9 (ai jaa ja2)) ?_;exact jdu hK (r',cap') ⟨h1,h2⟩):p:=h
theorem z9 {p:Prop} (h:p:=by obtain ⟨b,hb⟩:=jev h1;obtain ⟨b',hb'⟩:=jev h2;obtain ⟨id,_,e1,e2,_⟩:=hlent' k b hb;obtain ⟨id',_,e1',e2',_⟩:=hlent' k' b' hb';rw[e2,e2'] at he;subst he;exact jiy hκ e1 e1'):p:=h
theorem zba {p:Prop} (h:p:=by simp only[msi] at e;obtain ⟨v,_,rfl⟩:=e;trivial):p:=h
theorem zbb {p:Prop} (h:p:=by subst hxy;refine runW (ai hx hy) ?_;exact round (k+1) ⟨om,by rw[hall,jiz hd he]; simp⟩ om):p:=h
theorem zbc {p:Prop} (h:p:=by refine run ?_;refine round (k+1,m.length) ⟨by simp only; omega,by simp only; rw[jgz hps]; omega,fun _=>hhas,hgo _ om om⟩ (by simp only; omega) ?_;simp only; rw[<- hnew]; rfl):p:=h
theorem zbd {p:Prop} (h:p:=by refine run ?_;exact finC2 (.refl _)):p:=h
theorem zbe {p:Prop} (h:p:=by have:=jha hor _ List.mem_cons_self;simp only[RepT] at h3 ⊢; rw[<- hid k this]; exact h3):p:=h
theorem zbf {p:Prop} (h:p:=by obtain ⟨a,b,rfl,h1,c,d,rfl,h2,rfl⟩:=h;obtain ⟨s,rfl,hs⟩:=jdx Tryz.underlying9 h1;obtain ⟨u,rfl,hu⟩:=jdx Tryz.underlying9 h2;exact ⟨⟨s,u⟩,rfl,hs,hu⟩):p:=h
theorem zbg {p:Prop} (h:p:=by rw[List.getElem?_append_left hj] at e1;rw[List.getElem?_append_left (by rw[List.length_map]; omega)] at e2;exact hh2 j (.v v) x (by rw[List.getElem?_map,e1]; rfl) e2):p:=h
theorem zbh {p:Prop} (h:p:=by rw[jdq hr ((jbl r).2 (.inl (by simp[idB]; omega)))];exact za):p:=h
theorem zbi {p:Prop} (h:p:=by refine run ?_;exact finO (.refl _)):p:=h
theorem zbj {p:Prop} (h:p:=by refine run ?_;exact fin (ja3 (je5 p l))):p:=h
theorem zbk {p:Prop} (h:p:=by refine run ?_;exact fin (ja3 (je5 _ l))):p:=h
theorem zbl {p:Prop} (h:p:=by have:id≠d:=fun he=>hw (he▸hd);simp only[RepT] at e2 ⊢;rw[if_neg this]; exact e2):p:=h
theorem zbm {p:Prop} (h:p:=by refine run ?_;exact fin (ja5 (fault_c hv hg h3 h4 hc).symm)):p:=h
theorem zbn {p:Prop} (h:p:=by unfold jh1 jdi at hzc;rw[hi] at hzc;simp only[Option.bind_some,msi] at hzc;exact hzc):p:=h
theorem zbo {p:Prop} (h:p:=by rw[if_pos hpv];refine runW hq ?_;exact fin rfl):p:=h
theorem zbp {p:Prop} (h:p:=by refine hE (r',cap') _ ⟨h1,h2⟩ ?_;exact jak [] [] rfl rfl rfl (fun _ _ e=>e) rfl):p:=h
theorem zbq {p:Prop} (h:p:=by obtain ⟨x,hx,-,-⟩:=ja1 hlt;refine runW hx ?_;exact zx):p:=h
theorem zbr {p:Prop} (h:p:=by obtain ⟨-,⟨m,ys,e2,_⟩,-⟩:=S.oval hj hi (by rw[<- jfw S (w':=w') (fun g hg _=>hx.bel.block g hg) j e c hj i hi]; exact hu);exact (e2.lt _ hq).2):p:=h
theorem zbs {p:Prop} (h:p:=by simp only[only,Bool.and_eq_true] at h;have:=Nat.eq_of_beq_eq_true h.1;subst this;simp only[okA,jce,Option.isSome_some,Bool.true_and];exact jjq h.2):p:=h
theorem zbt {p:Prop} (h:p:=by refine runW h1 ?_;refine fin (ja3 ?_); simp[jd7,hn,h1]):p:=h
theorem zbu {p:Prop} (h:p:=by exact jak [5,2] [1,2,5] rfl rfl rfl (fun _ _ e=>e) rfl):p:=h
theorem zbv {p:Prop} (h:p:=by rw[bad 1 (by unfold wdrE; rw[if_pos hz]) dc];exact zj):p:=h
theorem zbw {p:Prop} (h:p:=by simp at hv hw; subst hv hw; exact .refl _):p:=h
theorem zbx {p:Prop} (h:p:=by exact finW (jbq _)):p:=h
theorem zby {p:Prop} (h:p:=by have:=Sim.putr (d:=t) S1 hT trivial (by have:=(asi.1 h1).1; rw[<- S.n]; exact this);rw[jn5 h1] at this;unfold SimS;rw[σ_cons];exact this):p:=h
theorem zbz {p:Prop} (h:p:=by simp only[List.length_append,List.length_cons,List.length_nil];omega):p:=h
theorem zb0 {p:Prop} (h:p:=by rw[hbad 6 hr dc];refine runW hb ?_;exact fin rfl):p:=h
theorem zb1 {p:Prop} (h:p:=by exact ⟨_,by simp only[binOp,Op.shift]; rw[if_neg (Int.not_lt.2 hn)]; rfl,.val _,fun ox oy=>by unfold eqGuard; split <;> rfl⟩):p:=h
theorem zb2 {p:Prop} (h:p:=by exact hall i om):p:=h
theorem zb3 {p:Prop} (h:p:=by rw[e1,e2];refine runW hmr ?_;exact z7):p:=h
theorem zb4 {p:Prop} (h:p:=by rw[e1] at hvv; simp only[Value.slice.injEq] at hvv; exact hvv.2.1):p:=h
theorem zb5 {p:Prop} (h:p:=by exact ⟨q,.agg h2.len.symm h2.one fun j c x e1 e2=>h2.rep j c x e1 (by show cs.toList[j]? = some x; simpa using e2),hq⟩):p:=h
theorem zb6 {p:Prop} (h:p:=by exact jgf (.v (.refl _))):p:=h
theorem zb7 {p:Prop} (h:p:=by symm; rw[decide_eq_false_iff_not]; intro h; exact hl (by rw[h])):p:=h
theorem zb8 {p:Prop} (h:p:=by obtain ⟨b,hb⟩:=Option.isSome_iff_exists.1 h.1; simp[wfT,hb]):p:=h
theorem zb9 {p:Prop} (h:p:=by rw[hbad 2 (jj4 (.inl ((jjz _).2 (.inr h3)))) dc];refine runW (ai hx (ai (eq_false h2) (eq_true h3))) ?_;exact fin rfl):p:=h
theorem zca {p:Prop} (h:p:=by refine .inl ⟨by simp[ix,h],?_⟩;rw[List.findIdx?_eq_none_iff] at h;rw[List.find?_eq_none];intro x hx; simp[h x hx]):p:=h
theorem zcb {p:Prop} (h:p:=by rw[bad (by unfold bigC; simp[q4])];exact ze):p:=h
theorem zcc {p:Prop} (h:p:=by rw[bad (by unfold bigC; simp[q3])];exact ze):p:=h
theorem zcd {p:Prop} (h:p:=by rename_i he; subst he; rw[hk]; rfl):p:=h
theorem zce {p:Prop} (h:p:=by rw[<- pK_succ a hlt] at hR;refine rcW (ai hc (ai (tk25 hl) tr)) hR ?_;refine runW (ai hl2 (jo9 hl)) ?_;exact zm):p:=h
theorem zcf {p:Prop} (h:p:=by rw[if_pos hbig];refine runW (eq_true hbig) ?_;exact fin rfl):p:=h
theorem zcg {p:Prop} (h:p:=by refine runW (eq_false hz) ?_;exact fin rfl):p:=h
theorem zch {p:Prop} (h:p:=by refine run ?_;exact round (k+1) ⟨om,jae hall hx hpc⟩ om):p:=h
theorem zci {p:Prop} (h:p:=by refine runW hy ?_;exact round (k+1) ⟨om,jae (q:=fun n:Int=>decide (x=n)=false) hall hy (by simp[hxy])⟩ om):p:=h
theorem zcj {p:Prop} (h:p:=by obtain ⟨y,hr,hy⟩:=ldV_run (P:=P) G.sees hat hl;exact ⟨y,by simp[Instr.loadAt,e,Instr.sureAddr,hr],hy⟩):p:=h
theorem zck {p:Prop} (h:p:=by refine fin (ja3 ?_);simp[h2]):p:=h
theorem zcl {p:Prop} (h:p:=by intro k hk;subst hk;exact zb):p:=h
theorem zcm {p:Prop} (h:p:=by refine round (k+1) hlt om ?_;rw[hS']; rfl):p:=h
theorem zcn {p:Prop} (h:p:=by refine run ?_;exact finW (jl4 _)):p:=h
theorem zco {p:Prop} (h:p:=by exact ⟨6,_,rfl,rfl,rfl,.inl rfl,rfl⟩):p:=h
theorem zcp {p:Prop} (h:p:=by simp[Instr.mapUpdate,run_underlying hu,hev,jid b1,hck,Instr.findKey,run_underlying hd,g1,hz,hstay,hset]):p:=h
theorem zcq {p:Prop} (h:p:=by obtain ⟨v,q1,q2⟩:=h.get e;exact ⟨v,by rw[List.getElem?_append_left (gsi.1 q1).1]; exact q1,q2⟩):p:=h
theorem zcr {p:Prop} (h:p:=by rw[e]; exact hz):p:=h
theorem zcs {p:Prop} (h:p:=by rw[hbad 2 (jj4 (.inl ((jjz _).2 (.inl h2)))) dc];refine runW (ai hx (eq_true h2)) ?_;exact fin rfl):p:=h
theorem zct {p:Prop} (h:p:=by obtain ⟨ad,g,hv,-⟩:=jh2 (show Rep F (.row cs) (a.eval x) from G.opr x _ hxv);exact ⟨ad,hv⟩):p:=h
theorem zcu {p:Prop} (h:p:=by exact k F ρ st' _ w S' hK):p:=h
theorem zcv {p:Prop} (h:p:=by refine rc (jbk _ 11) ?_;refine rc hap ?_;refine rc (jbk _ 22) ?_;refine rc (hF _ _ _) ?_;exact za):p:=h
theorem zcw {p:Prop} (h:p:=by simpa using this):p:=h
theorem zcx {p:Prop} (h:p:=by rw[decide_eq_false_iff_not,hall,jiz hd he];simp[hxy]):p:=h
theorem zcy {p:Prop} (h:p:=by intro y hy;simp only[List.mem_singleton] at hy;subst hy;exact ⟨4,_,rfl,rfl,rfl,.inl rfl,rfl⟩):p:=h
theorem zcz {p:Prop} (h:p:=by rw[List.find?_eq_some_iff_getElem];exact ⟨hpi,i,hlt,rfl,fun j hj=>by simpa using hbef j hj⟩):p:=h
theorem zc0 {p:Prop} (h:p:=by rw[List.drop_eq_getElem_cons hlt];rfl):p:=h
theorem zc1 {p:Prop} (h:p:=by refine runW (eq_false h1) ?_;exact zr):p:=h
theorem zc2 {p:Prop} (h:p:=by subst hkl;rw[h1,List.drop_of_length_le om];exact za):p:=h
theorem zc3 {p:Prop} (h:p:=by simp[Instr.mapUpdate,run_underlying hu,hev,jid b1,hck,Instr.findKey,run_underlying hd,g1,hset]):p:=h
theorem zc4 {p:Prop} (h:p:=by refine runW (ai ha (show (r.trg == [111,112,101,110,101,100])=false from ho)) ?_;exact fin rfl):p:=h
theorem zc5 {p:Prop} (h:p:=by exact ⟨.int .i64 m,by simp[Builtin.len_,run_underlying hu,Result.andThen,hv,goInt],.val _⟩):p:=h
theorem zc6 {p:Prop} (h:p:=by rw[if_neg (by rw[hany]; decide)] at hEE;subst hEE;refine runW (eq_false hlt) ?_;exact fin rfl):p:=h
theorem zc7 {p:Prop} (h:p:=by refine runW (ai ha (show (r.trg == [111,112,101,110,101,100])=true from ho)) ?_;exact fin rfl):p:=h
theorem zc8 {p:Prop} (h:p:=by refine run ?_;exact zm):p:=h
theorem zc9 {p:Prop} (h:p:=by obtain ⟨y,hy,he,-⟩:=ja1 hlt';refine run ?_;refine fin (ja5 ?_);rw[hall,he,jc2 hlt]; rfl):p:=h
theorem zda {p:Prop} (h:p:=by rw[if_pos (.inl (show idB h.obj=false by simp[idB]; omega))] at hn;rw[sc_e hn dc];exact za):p:=h
theorem zdb {p:Prop} (h:p:=by rw[List.drop_eq_getElem_cons h',List.getElem_map,atU,List.getD_eq_getElem?_getD,gge h];rfl):p:=h
theorem zdc {p:Prop} (h:p:=by rw[bad 11 (by rw[hE,if_pos (.inl hw)]) dc];refine runW (ai hx (eq_false hw)) ?_;exact zbx):p:=h
theorem zdd {p:Prop} (h:p:=by refine runW hx ?_;exact round (k+1) ⟨om,by rw[all_snocR hx,hall]; simp[je6,c1,c2]⟩ om):p:=h
theorem zde {p:Prop} (h:p:=by simp only[ex14,List.mem_cons,List.not_mem_nil,or_false] at hq;subst hq;exact ⟨dc,dc⟩):p:=h
theorem zdf {p:Prop} (h:p:=by refine runW hx ?_;exact fin (hn (by rw[hp,hall,hd]; simp only[vnum]; rw[if_neg om]) rfl)):p:=h
theorem zdg {p:Prop} (h:p:=by have:=ja8 (G.v hv);exact ⟨fun _ _=>undef,.inl ⟨this,rfl⟩,by simp[flat],sm,sm,sm⟩):p:=h
theorem zdh {p:Prop} (h:p:=by rw[Array.setIfInBounds_comm _ _ hji,upd_comm σ z v (fun d e1 e2=>a2 d e2 e1)];exact hK):p:=h
theorem zdi {p:Prop} (h:p:=by refine runW hy ?_;exact fin (ja5 (jge (p:=fun n=>decide (x=n)) hall hy (by simp[hxy])))):p:=h
theorem zdj {p:Prop} (h:p:=by rw[he] at hg'; have:=Option.some.inj hg'; omega):p:=h
theorem zdk {p:Prop} (h:p:=by rw[g8,if_neg (fun e=>by cases e.2)] at hr5;refine runW hmr ?_;exact midK (hφ.mpr hr5)):p:=h
theorem zdl {p:Prop} (h:p:=by refine runW hx ?_;exact round (k+1) ⟨hlt,next (by unfold bigC; simp[q2,q3,q4])⟩ om):p:=h
theorem zdm {p:Prop} (h:p:=by refine runW hx ?_;exact round (k+1) ⟨hlt,next (by unfold bigC; simp[q1,q3,q4])⟩ om):p:=h
theorem zdn {p:Prop} (h:p:=by refine runW (digs (n % 10) om) ?_;exact fin rfl):p:=h
theorem zdo {p:Prop} (h:p:=by simp only[only,Bool.and_eq_true] at h;have:=Nat.eq_of_beq_eq_true h.1;subst this; rfl):p:=h
theorem zdp {p:Prop} (h:p:=by have:=hl (j+1) (by simpa using hj);simpa [Nat.add_assoc,Nat.add_comm 1 j] using this):p:=h
theorem zdq {p:Prop} (h:p:=by refine run ?_;exact zbx):p:=h
theorem zdr {p:Prop} (h:p:=by rw[Lib.nDigits_big h10];have:=ih (u / 10) (by rw[Nat.pow_succ] at hu; omega);omega):p:=h
theorem zds {p:Prop} (h:p:=by refine runW (ai hf (ai f1 (ai f2 f3))) ?_;refine round (j+1) hjl om ?_;rw[hsn];rfl):p:=h
theorem zdt {p:Prop} (h:p:=by refine jab trivial ?_;exact jdu hK () trivial):p:=h
theorem zdu {p:Prop} (h:p:=by refine runW hb ?_;exact round (j+1) ⟨hjl,jae hall hy (by rw[hgc,hb]; rfl)⟩ om):p:=h
theorem zdv {p:Prop} (h:p:=by refine run ?_;refine round (k+1) ⟨om,om,?_⟩ om;rw[hall,hr,lt2_s hc]; simp[h0]):p:=h
theorem zdw {p:Prop} (h:p:=by simp only[List.getElem?_cons_succ,List.map_cons] at e1 e2;exact hh j v' x' e1 e2):p:=h
theorem zdx {p:Prop} (h:p:=by obtain ⟨y,hy,-,-⟩:=ja1 hjl;refine runW (ai hx hy) ?_;exact round (j+1) om om):p:=h
theorem zdy {p:Prop} (h:p:=by simp[Instr.sliceAt,run_underlying hu,Result.andThen,Instr.slice,hb,jdm hi0,hsz]):p:=h
theorem zdz {p:Prop} (h:p:=by rw[jg0 hfi ((jff f).2 (.inr (.inr (.inr (.inl h4))))),h4.1];have:=h4.2;exact za):p:=h
theorem zd0 {p:Prop} (h:p:=by refine runW ho ?_;exact fin rfl):p:=h
theorem zd1 {p:Prop} (h:p:=by exact ⟨g,k1,fun j c e=>hle _ _ (k2 j c e),fun j c e=>(k3 j c e).mono hle⟩):p:=h
theorem zd2 {p:Prop} (h:p:=by simp only[jh0,Bool.and_eq_true] at hp;exact Option.isNone_iff_eq_none.1 hp.1):p:=h
theorem zd3 {p:Prop} (h:p:=by simp only[jct,ho]; rw[if_neg h,if_neg (by simp[hn]),if_neg h0,hq]; simp[hle]):p:=h
theorem zd4 {p:Prop} (h:p:=by rw[if_pos hpv] at hr;rw[out 5 hr dc];refine runW (ai hh hq) ?_;exact fin rfl):p:=h
theorem zd5 {p:Prop} (h:p:=by rw[getD_set_ne true hjk] at hun; exact hun):p:=h
theorem zd6 {p:Prop} (h:p:=by rw[z1] at hog;have:g'=g:=Option.some.inj hog;subst this;exact ⟨cur0,z3⟩):p:=h
theorem zd7 {p:Prop} (h:p:=by obtain ⟨st'',S'',hK'⟩:=jfv S' hr hw hK;exact k F' ρ' st'' _ w' S'' hK'):p:=h
theorem zd8 {p:Prop} (h:p:=by have:=WkB.con (ex:=[]) (Wks.refl cs);rw[List.append_nil] at this;exact this):p:=h
theorem zd9 {p:Prop} (h:p:=by rw[List.range_succ,List.foldl_append];rfl):p:=h
theorem zea {p:Prop} (h:p:=by rw[if_pos ⟨g7,g8⟩] at hr5;obtain ⟨e1,e2⟩:=hbad 6 hr5 dc;exact zb3):p:=h
theorem zeb {p:Prop} (h:p:=by refine run ?_;exact tail _ (jak [1] [1,3] rfl rfl rfl (fun _ _ e=>e) rfl)):p:=h
theorem zec {p:Prop} (h:p:=by exact ⟨_,jil (jj6 hu _ _ _ w) rfl,.val _,fun ox oy=>by simp[eqGuard]⟩):p:=h
theorem zed {p:Prop} (h:p:=by exact ⟨_,jik (jj6 hu _ _ _ w) rfl,.val _,fun ox oy=>by simp[eqGuard]⟩):p:=h
theorem zee {p:Prop} (h:p:=by exact ⟨_,fun w'=>by rw[hv,hi]; exact jja h1 k j _ m cap hm.1 hm.2 w'⟩):p:=h
theorem zef {p:Prop} (h:p:=by exact jak [3,6,7,11] [1,2,3,6,7,8,9,11,12] rfl rfl rfl (fun _ _ e=>e) rfl):p:=h
theorem zeg {p:Prop} (h:p:=by exact finM0 (.refl _)):p:=h
theorem zeh {p:Prop} (h:p:=by simp only; omega):p:=h
theorem zei {p:Prop} (h:p:=by simp; omega):p:=h
theorem zej {p:Prop} (h:p:=by rw[hpv]; exact Bool.noConfusion):p:=h
theorem zek {p:Prop} (h:p:=by simp only[List.length_append,hl1,List.length_cons,List.length_nil]; omega):p:=h
theorem zel {p:Prop} (h:p:=by simpa using e2):p:=h
theorem zem {p:Prop} (h:p:=by rw[e]; simp):p:=h
theorem zen {p:Prop} (h:p:=by rw[hog]; intro h; have:=Option.some.inj h; subst this; rw[hg0] at hb'; cases hb'):p:=h
theorem zeo {p:Prop} (h:p:=by simp[ja4,jgn,jc7]):p:=h
theorem zep {p:Prop} (h:p:=by simpa using hc):p:=h
theorem zeq {p:Prop} (h:p:=by simp only[List.append_assoc,List.cons_append]):p:=h
theorem zer {p:Prop} (h:p:=by simpa using hl):p:=h
theorem zes {p:Prop} (h:p:=by simpa using e1):p:=h
theorem zet {p:Prop} (h:p:=by rw[hs]; simp[Value.ownBlock]):p:=h
theorem zeu {p:Prop} (h:p:=by simp[Call.operands,hc]; simpa using hx):p:=h
theorem zev {p:Prop} (h:p:=by rw[hog]; exact fun h=>r2 g hog p u hp (Option.some.inj h)):p:=h
theorem zew {p:Prop} (h:p:=by unfold jac; rw[if_neg (Nat.succ_ne_zero j)]; exact hx):p:=h
theorem zex {p:Prop} (h:p:=by simpa using hj):p:=h
theorem zey {p:Prop} (h:p:=by simpa using hi):p:=h
theorem zez {p:Prop} (h:p:=by rw[decide_eq_true_eq]; exact hlt2):p:=h
theorem ze0 {p:Prop} (h:p:=by rw[h0] at hr; cases hr):p:=h
theorem ze1 {p:Prop} (h:p:=by simp[wfT,jce]):p:=h
theorem ze2 {p:Prop} (h:p:=by exact Bool.noConfusion):p:=h
theorem ze3 {p:Prop} (h:p:=by rw[e]; rfl):p:=h
theorem ze4 {p:Prop} (h:p:=by simp[hy]):p:=h
theorem ze5 {p:Prop} (h:p:=by rw[h] at hr; cases hr):p:=h
theorem ze6 {p:Prop} (h:p:=by rw[hh]; exact e):p:=h
theorem ze7 {p:Prop} (h:p:=by rw[ha.1]; exact hlt):p:=h
theorem ze8 {p:Prop} (h:p:=by rw[List.length_take]; omega):p:=h
theorem ze9 {p:Prop} (h:p:=by simpa using hx):p:=h
theorem zfa {p:Prop} (h:p:=by rw[he]; exact hne):p:=h
namespace Go.Ab
theorem ai {a b:Prop} (h:a) (k:b):a∧b:=⟨h,k⟩
theorem gsi {α:Type _} {l:List α} {i:Nat} {a:α}:l[i]?=some a↔∃h:i<l.length,l[i]=a:=List.getElem?_eq_some_iff
theorem msi {α β:Type _} {x:Option α} {b:β} {f:α→β}:Option.map f x=some b↔∃a,x=some a∧f a=b:=Option.map_eq_some_iff
theorem asi {α:Type _} {l:Array α} {i:Nat} {a:α}:l[i]?=some a↔∃h:i<l.size,l[i]=a:=Array.getElem?_eq_some_iff
theorem gge {α:Type _} {l:List α} {i:Nat} (h:i<l.length):l[i]?=some l[i]:=List.getElem?_eq_getElem h
open Go.RowKit
inductive V where
 | val (v:Value)
 | str (l:List UInt8)
 | agg (cs:List V)
 | tup (vs:List V)
 | slice (size:Nat) (es:List (List V))
 | row (cs:List V)
 | func (f:FuncId) (cap:List V)
 | ifc
 | map (ks vs:List V)
def jer (xs:Array MapEntry) (ck:Nat):Prop:=(∀(j:Nat) x,xs[j]? = some x->x.born<ck)/\∀(i j:Nat) x y,xs[i]? = some x->xs[j]? = some y->x.born=y.born->i=j
theorem jer.nil:jer #[] 0:=⟨fun j x h=>by simp at h,fun i j x y h=>by simp at h⟩
theorem jer.push {xs:Array MapEntry} {ck:Nat} (h:jer xs ck) (k v:Value):jer (xs.push { key:=k,val:=v,born:=ck }) (ck+1):=by
 have get:∀(j:Nat) x,(xs.push ({ key:=k,val:=v,born:=ck } : MapEntry))[j]? = some x->(j=xs.size/\x.born=ck)\/xs[j]? = some x:=fun j x e=>by
  rw[Array.getElem?_push] at e;split at e
  ·rename_i hj; cases e; exact .inl ⟨hj,rfl⟩
  ·exact .inr e
 refine ⟨fun j x e=> ?_,fun i j x y e1 e2 he=> ?_⟩
 ·rcases get j x e with ⟨_,h2⟩ | h2
  ·omega
  ·have:=h.1 j x h2; omega
 ·rcases get i x e1 with ⟨h1,h2⟩ | h2 <;> rcases get j y e2 with ⟨h3,h4⟩ | h4
  ·omega
  ·have:=h.1 j y h4; omega
  ·have:=h.1 i x h2; omega
  ·exact h.2 i j x y h2 h4 he
theorem jer.modify {xs:Array MapEntry} {ck:Nat} (h:jer xs ck) (n:Nat) (k v:Value):jer (xs.modify n fun e=> { e with key:=k,val:=v }) ck:=by
 have get:∀(j:Nat) x,(xs.modify n fun e=> { e with key:=k,val:=v })[j]? = some x->∃y,xs[j]? = some y/\x.born=y.born:=fun j x e=>by
  rw[Array.getElem?_modify] at e;split at e
  ·obtain ⟨y,h1,rfl⟩:=msi.1 e;exact ⟨y,h1,rfl⟩
  ·exact ⟨x,e,rfl⟩
 refine ⟨fun j x e=> ?_,fun i j x y e1 e2 he=> ?_⟩
 ·obtain ⟨y,h1,h2⟩:=get j x e;have:=h.1 j y h1; omega
 ·obtain ⟨x',h1,h2⟩:=get i x e1;obtain ⟨y',h3,h4⟩:=get j y e2;exact h.2 i j x' y' h1 h3 om
structure Frz where
 c:Addr->Option Value
 m:Nat->Option (Array MapEntry×Nat)
 z:Nat->Nat:=fun _=>0
instance:CoeFun Frz (fun _=>Addr->Option Value):=⟨Frz.c⟩
def V.one:V->Bool
 | .val v=>v.oneCell'
 | .agg _=>false
 | .tup _=>false
 | _=>true
def V.cells:V->List V
 | .agg cs=>cs
 | v=>[v]
inductive Rep (F:Frz):V->Value->Prop
 | val (v:Value):Rep F (.val v) v
 | str (l:List UInt8):Rep F (.str l) (.string ⟨l.toArray⟩)
 | agg {cs:List V} {xs:Array Value} (hl:xs.size=cs.length) (ho:∀c∈cs,c.one=true) (h:∀(j:Nat) c x,cs[j]? = some c->xs[j]? = some x->Rep F c x):Rep F (.agg cs) (.agg xs)
 | tup {vs:List V} {xs:Array Value} (hl:xs.size=vs.length) (h:∀(j:Nat) c x,vs[j]? = some c->xs[j]? = some x->Rep F c x):Rep F (.tup vs) (.tuple xs)
 | snil {size:Nat} : Rep F (.slice size []) (.slice none 0 0)
 | slice {size:Nat} {es:List (List V)} {a:Addr} {cap:Nat} (g:Nat->Nat->Value) (hc:es.length<=cap) (hm:cap<=maxLen)
   (hs:∀e∈es,e.length=size) (ho:∀e∈es,∀c∈e,c.one=true)
   (hg:∀(i j:Nat) e c,es[i]? = some e->e[j]? = some c->F (a.add (i*size+j))=some (g i j))
   (hr:∀(i j:Nat) e c,es[i]? = some e->e[j]? = some c->Rep F c (g i j)):Rep F (.slice size es) (.slice (some a) es.length cap)
 | row {cs:List V} {a:Addr} (g:Nat->Value) (ho:∀c∈cs,c.one=true)
   (hg:∀(j:Nat) c,cs[j]? = some c->F (a.add j)=some (g j)) (hr:∀(j:Nat) c,cs[j]? = some c->Rep F c (g j)):Rep F (.row cs) (.pointer (some a))
 | func {f:FuncId} {cap:List V} {xs:Array Value} (hl:xs.size=cap.length) (h:∀(j:Nat) c x,cap[j]? = some c->xs[j]? = some x->Rep F c x):Rep F (.func f cap) (.func (.func f) #[] xs)
 | ifc (t:TypeId) (v:Value):Rep F .ifc (.iface t v)
 | map {ks vs:List V} {b:Nat} {xs:Array MapEntry} {ck:Nat} (hb:F.m b=some (xs,ck)) (hl:xs.size=ks.length) (hl':xs.size=vs.length) (hk:∀(j:Nat) k x,ks[j]? = some k->xs[j]? = some x->Rep F k x.key)
   (hv:∀(j:Nat) v x,vs[j]? = some v->xs[j]? = some x->Rep F v x.val):Rep F (.map ks vs) (.map (some b))
structure Le (F F':Frz):Prop where
 c:∀p v,F p=some v->F' p=some v
 m:∀b xs,F.m b=some xs->F'.m b=some xs
instance {F F':Frz} : CoeFun (Le F F') (fun _=>∀p v,F p=some v->F' p=some v):=⟨Le.c⟩
theorem Le.refl (F:Frz):Le F F:=⟨fun _ _ h=>h,fun _ _ h=>h⟩
theorem Le.trans {F F' F'':Frz} (h:Le F F') (h':Le F' F''):Le F F'':=⟨fun p v e=>h' p v (h p v e),fun b xs e=>h'.m b xs (h.m b xs e)⟩
abbrev fw (w:World):Frz:= { c:=w.cell?,m:=fun _=>none }
structure Sees (F:Frz) (w:World):Prop where
 c:∀p v,F p=some v->w.cell? p=some v
 m:∀b xs,F.m b=some xs->∃ck: { c:Nat // jer xs.1 c/\c=xs.2 },w.heap[b]? = some (.map xs.1 ck.1)
instance {F:Frz} {w:World} : CoeFun (Sees F w) (fun _=>∀p v,F p=some v->w.cell? p=some v):=⟨Sees.c⟩
theorem Rep.mono {F F':Frz} (hF:Le F F') {v:V} {x:Value} (h:Rep F v x):Rep F' v x:=by
 induction h with
 | val v=>exact .val v
 | str l=>exact .str l
 | agg hl ho _ ih=>exact .agg hl ho ih
 | tup hl _ ih=>exact .tup hl ih
 | snil=>exact .snil
 | slice g hc hm hs ho hg _ ih=>exact .slice g hc hm hs ho (fun i j e c h1 h2=>hF _ _ (hg i j e c h1 h2)) ih
 | row g ho hg _ ih=>exact .row g ho (fun j c h1=>hF _ _ (hg j c h1)) ih
 | func hl _ ih=>exact .func hl ih
 | ifc t v=>exact .ifc t v
 | map hb hl hl' _ _ ih ih'=>exact .map (hF.m _ _ hb) hl hl' ih ih'
theorem Rep.one {F:Frz} {v:V} {x:Value} (h:Rep F v x) (ho:v.one=true):x.oneCell'=true:=by
 cases h <;> first | exact ho | rfl | (simp[V.one] at ho)
theorem add_add (a:Addr) (i j:Nat):(a.add i).add j=a.add (i+j):=by
 unfold Addr.add;by_cases hi:i=0 <;> by_cases hj:j=0 <;> simp[hi,hj,Nat.add_assoc]
theorem jcf (b o n:Nat):(⟨b,o,none⟩:Addr).add n=⟨b,o+n,none⟩:=by
 unfold Addr.add;split
 ·rename_i h; subst h; rfl
 ·rfl
inductive TV where
 | v (x:V)
 | p (id off:Nat)
 | m (id:Nat)
 | s (id off n size:Nat)
 | u
inductive Blk where
 | var (cs:List V) (nm:Option Nat:=none) (k:Option (TypeId×Nat×Nat):=none)
 | con (cs:List V)
 | map (es:List (V×V)) (nm:Option Nat:=none)
 | itr (es:List (V×V)) (cur:Option (V×V)) (nm:Option Nat:=none)
def Blk.nm:Blk->Option Nat
 | .var _ n _=>n
 | .map _ n=>n
 | .itr _ _ n=>n
 | .con _=>none
def look {α:Type} (i:Nat):List (Nat×α)->Option α
 | []=>none
 | (j,x)::r=>bif Nat.beq i j then some x else look i r
theorem jc7 {α:Type} (i:Nat):look i ([]:List (Nat×α))=none:=rfl
theorem jce {α:Type} (i:Nat) (x:α) (r:List (Nat×α)):look i ((i,x)::r)=some x:=by simp[look]
theorem ja4 {α:Type} (i j:Nat) (x:α) (r:List (Nat×α)):look i ((j,x)::r)=if i=j then some x else look i r:=by
 by_cases h:i=j
 ·subst h; simp[look]
 ·have:Nat.beq i j=false:=by
   cases hb:Nat.beq i j
   ·rfl
   ·exact absurd (Nat.eq_of_beq_eq_true hb) h
  simp[look,this,h]
def ofVal:Value->V
 | .string s=> .str s.data.toList
 | .agg xs=> .agg (xs.toList.map fun x=>match x with | .string s=> .str s.data.toList | x=> .val x)
 | v=> .val v
def okVal:Value->Bool
 | .agg xs=>xs.toList.all fun x=>x.oneCell'
 | _=>true
theorem rep_flat (F:Frz) (x:Value):Rep F (match x with | .string s=> .str s.data.toList | x=> .val x) x:=by
 cases x <;> first | exact .val _ | exact .str _
theorem jkw (F:Frz) (v:Value) (h:okVal v=true):Rep F (ofVal v) v:=by
 cases v <;> first | exact .val _ | exact .str _ | skip
 case agg xs=>
  have h':∀x∈xs.toList,x.oneCell'=true:=by unfold okVal at h; exact List.all_eq_true.1 h
  refine .agg sm ?_ ?_
  ·intro c hc;obtain ⟨x,hx,rfl⟩:=List.mem_map.1 hc;have h1:=h' x hx;cases x <;> first | exact h1 | rfl
  ·intro j c x h1 h2;simp only[List.getElem?_map,Array.getElem?_toList,h2,Option.map_some,Option.some.injEq] at h1;subst h1;exact rep_flat F x
def RepT (F:Frz) (ρ:Nat->Nat):TV->Value->Prop
 | .v x,y=>Rep F x y
 | .p id off,y=>y= .pointer (some ⟨ρ id,off,none⟩)
 | .m id,y=>y= .map (some (ρ id))
 | .s id off n _,y=>∃cap,n<=cap/\cap<=maxLen/\0<n/\y= .slice (some ⟨ρ id,off,none⟩) n cap
 | .u,y=>y=undef
def FzT (n:Nat) (fz:Nat×Nat):Prop:=fz=(0,0)\/n<=fz.1
theorem FzT.at {n j:Nat} {fz:Nat×Nat} (h:FzT n fz) (hj:j<n):(decide (fz.1<=j) && decide (j<fz.2))=false:=by
 rcases h with rfl | h
 ·simp
 ·rw[decide_eq_false om,Bool.false_and]
def RowK (xs:Array Value) (ty:TypeId×Nat×Nat):Option (TypeId×Nat×Nat)->Prop
 | none=>FzT xs.size ty.2
 | some (e,size,cap)=>ty.1=e/\xs.size=cap*size/\cap<=maxLen/\FzT xs.size ty.2
theorem RowK.size {xs ys:Array Value} {ty:TypeId×Nat×Nat} {k:Option (TypeId×Nat×Nat)} (h:RowK xs ty k) (hs:ys.size=xs.size):RowK ys ty k:=by
 cases k with
 | none=>show FzT _ _; rw[hs]; exact h
 | some k=>exact ⟨h.1,hs.trans h.2.1,h.2.2.1,by rw[hs]; exact h.2.2.2⟩
theorem RowK.fz {xs:Array Value} {ty:TypeId×Nat×Nat} {k:Option (TypeId×Nat×Nat)} (h:RowK xs ty k):FzT xs.size ty.2:=by
 cases k with
 | none=>exact h
 | some k=>exact h.2.2.2
def jba (w:World) (base:Nat) (e:TypeId) (size:Nat) (v:Value) (n:Nat) (xs:List Value):Prop:=
  xs.length=n*size/\
  ((v= .slice none 0 0/\n=0)\/
   ∃g cap cur,v= .slice (some ⟨g,0,none⟩) n cap/\base<=g/\(∃fz,FzT cur.size fz/\w.heap[g]? = some (.cells cur e fz))/\n<=cap/\cap<=maxLen/\cur.size=cap*size/\cur.toList.take (n*size)=xs)
theorem jba.nil (w:World) (base:Nat) (e:TypeId) (size:Nat):jba w base e size (.slice none 0 0) 0 []:=⟨sm,.inl ⟨rfl,rfl⟩⟩
theorem jba.lt {w:World} {base:Nat} {e:TypeId} {size:Nat} {v:Value} {n:Nat} {xs:List Value} (h:jba w base e size v n xs):∀k,v.ownBlock=some k->base<=k/\k<w.heap.size:=by
 intro k hk;rcases h.2 with ⟨rfl,_⟩ | ⟨g,cap,cur,rfl,hb,⟨fz,_,hg⟩,_⟩
 ·cases hk
 ·cases hk;exact ⟨hb,(asi.1 hg).1⟩
theorem jba.kept {w w':World} {base:Nat} {e:TypeId} {size:Nat} {v:Value} {n:Nat} {xs:List Value} {row:Option Nat} (h:jba w base e size v n xs) (hg:w.grownBy w' row) (hne:v.ownBlock=none\/v.ownBlock≠row):jba w' base e size v n xs:=by
 refine ⟨h.1,?_⟩;rcases h.2 with hn | ⟨g,cap,cur,rfl,hb,⟨fz,hf,hgg⟩,rest⟩
 ·exact .inl hn
 ·refine .inr ⟨g,cap,cur,rfl,hb,⟨fz,hf,?_⟩,rest⟩;rw[hg.block g (asi.1 hgg).1 (by simpa [Value.ownBlock] using hne)];exact hgg
theorem jba.cells {w:World} {base:Nat} {e:TypeId} {size:Nat} {v:Value} {n:Nat} {xs:List Value} (h:jba w base e size v n xs) {g:Nat} (hg:v.ownBlock=some g):∀j u,xs[j]? = some u->w.cell? ((⟨g,0,none⟩:Addr).add j)=some u:=by
 intro j u hu;rcases h.2 with ⟨rfl,_⟩ | ⟨g',cap,cur,rfl,_,⟨fz,_,hgg⟩,_,_,_,htake⟩
 ·cases hg
 ·cases hg;have hadd:(⟨g',0,none⟩:Addr).add j=⟨g',j,none⟩:=by unfold Addr.add; split <;> simp_all
  rw[hadd,cell_of_row w g' j cur e fz hgg];rw[<- htake,List.getElem?_take] at hu;split at hu
  ·simpa using hu
  ·cases hu
def jga (xs:Array MapEntry) (seen:Array Nat):List MapEntry:=xs.toList.filter fun e=> !seen.contains e.born
def RepB (F:Frz) (w:World) (b:Nat):Blk->Prop
 | .var cs _ k=>∃(xs:Array Value) (ty: { t:TypeId×Nat×Nat // RowK xs t k }),w.heap[b]? = some (.cells xs ty.1.1 ty.1.2)/\cs.length<=xs.size/\(∀c∈cs,c.one=true)/\
   (∀(j:Nat) c x,cs[j]? = some c->xs[j]? = some x->Rep F c x)/\∀p v,F p=some v->p.block≠b
 | .con cs=>∃g:Nat->Value,(∀c∈cs,c.one=true)/\(∀(j:Nat) c,cs[j]? = some c->F ⟨b,j,none⟩=some (g j))/\∀(j:Nat) c,cs[j]? = some c->Rep F c (g j)
 | .map es _=>∃(xs:Array MapEntry) (clock: { c:Nat // jer xs c }),w.heap[b]? = some (.map xs clock.1)/\F.m b=none/\xs.size=es.length/\
   ∀(j:Nat) k v x,es[j]? = some (k,v)->xs[j]? = some x->Rep F k x.key/\Rep F v x.val
 | .itr es cur _=>∃(m:Nat) (seen:Array Nat) (xs:Array MapEntry) (ck:Nat),w.heap[b]? = some (.mapIter (some m) ck seen ck)/\F.m m=some (xs,ck)/\(jga xs seen).length=es.length/\
   (∀(j:Nat) k v x,es[j]? = some (k,v)->(jga xs seen)[j]? = some x->Rep F k x.key/\Rep F v x.val)/\∀k v,cur=some (k,v)->∃x∈xs.toList,seen.back? = some x.born/\Rep F k x.key/\Rep F v x.val
structure Ext (F:Frz) (w:World) (F':Frz) (w':World):Prop where
 le:Le F F'
 fr:Sees F' w'
 new:∀p v,F' p=some v->F p=some v\/w.heap.size<=p.block
 newm:∀b xs,F'.m b=some xs->F.m b=some xs\/w.heap.size<=b
 bel:Below w.heap.size w w'
theorem Ext.refl {F:Frz} {w:World} (h:Sees F w):Ext F w F w:=⟨Le.refl F,h,fun _ _ h=> .inl h,fun _ _ h=> .inl h,Below.refl _ _⟩
theorem Ext.trans {F F' F'':Frz} {w w' w'':World} (h:Ext F w F' w') (k:Ext F' w' F'' w''):Ext F w F'' w'':=
 ⟨h.le.trans k.le,k.fr,fun p v e=>(k.new p v e).elim (h.new p v) (fun hb=> .inr (Nat.le_trans h.bel.size hb)),fun p v e=>(k.newm p v e).elim (h.newm p v) (fun hb=> .inr (Nat.le_trans h.bel.size hb)),h.bel.trans (k.bel.mono h.bel.size)⟩
theorem Ext.drew {F F':Frz} {w w':World} (h:Ext F w F' w'):Ext F w F' w'.drew:=⟨h.le,⟨h.fr.c,h.fr.m⟩,h.new,h.newm,h.bel.drew⟩
theorem jj1 {w:World} {p:Addr} {v:Value} (h:w.cell? p=some v):p.block<w.heap.size:=by
 unfold World.cell? at h;rcases Nat.lt_or_ge p.block w.heap.size with hlt | hge
 ·exact hlt
 ·rw[Array.getElem?_eq_none hge] at h; cases h
theorem RepB.itr_mono {F F':Frz} {w w':World} {b:Nat} {es:List (V×V)} {cur:Option (V×V)} {nm nm':Option Nat} (h:RepB F w b (.itr es cur nm)) (hb:w'.heap[b]? = w.heap[b]?) (hle:Le F F'):RepB F' w' b (.itr es cur nm'):=by
 obtain ⟨m,seen,xs,ck,h1,h2,h3,h4,h5⟩:=h;refine ⟨m,seen,xs,ck,hb.trans h1,hle.m _ _ h2,h3,fun j k v x e1 e2=>⟨((h4 j k v x e1 e2).1).mono hle,((h4 j k v x e1 e2).2).mono hle⟩,fun k v e=> ?_⟩;obtain ⟨x,g1,g2,g3,g4⟩:=h5 k v e;exact ⟨x,g1,g2,g3.mono hle,g4.mono hle⟩
theorem RepB.ext {F F':Frz} {w w':World} {b:Nat} {k:Blk} (h:RepB F w b k) (hx:Ext F w F' w'):RepB F' w' b k:=by
 cases k with
 | var cs _ _=>
  obtain ⟨xs,ty,h1,h2,h3,h4,h5⟩:=h
  have hlt:b<w.heap.size:=by
   rcases Nat.lt_or_ge b w.heap.size with hlt | hge
   ·exact hlt
   ·rw[Array.getElem?_eq_none hge] at h1; cases h1
  refine ⟨xs,ty,(hx.bel.block b hlt).trans h1,h2,h3,fun j c x e1 e2=>(h4 j c x e1 e2).mono hx.le,fun p v e=> ?_⟩;rcases hx.new p v e with e' | e'
  ·exact h5 p v e'
  ·omega
 | con cs=>
  obtain ⟨g,h1,h2,h3⟩:=h;exact ⟨g,h1,fun j c e=>hx.le _ _ (h2 j c e),fun j c e=>(h3 j c e).mono hx.le⟩
 | itr es cur _=>
  have hlt:b<w.heap.size:=by
   obtain ⟨m,seen,xs,ck,h1,_⟩:=h;rcases Nat.lt_or_ge b w.heap.size with hlt | hge
   ·exact hlt
   ·rw[Array.getElem?_eq_none hge] at h1; cases h1
  exact RepB.itr_mono h (hx.bel.block b hlt) hx.le
 | map es _=>
  obtain ⟨xs,ck,h1,h0,h2,h3⟩:=h
  have hlt:b<w.heap.size:=by
   rcases Nat.lt_or_ge b w.heap.size with hlt | hge
   ·exact hlt
   ·rw[Array.getElem?_eq_none hge] at h1; cases h1
  have h0':F'.m b=none:=by
   cases e:F'.m b with
   | none=>rfl
   | some ys=>
    rcases hx.newm b ys e with e' | e'
    ·rw[h0] at e'; cases e'
    ·omega
  exact ⟨xs,ck,(hx.bel.block b hlt).trans h1,h0',h2,fun j k v x e1 e2=>⟨((h3 j k v x e1 e2).1).mono hx.le,((h3 j k v x e1 e2).2).mono hx.le⟩⟩
theorem RepT.mono {F F':Frz} {ρ:Nat->Nat} {tv:TV} {y:Value} (h:RepT F ρ tv y) (hx:Le F F'):RepT F' ρ tv y:=by
 cases tv with
 | v x=>exact Rep.mono hx h
 | _=>exact h
end Go.Ab
namespace Go.Ab
open Go.RowKit
def aggB (P:Program) (t:TypeId):Option Bool:=
 match P.underlying t with
 | some (.struct _)=>some true
 | some (.array _ _)=>some true
 | some _=>some false
 | none=>none
def fldV (P:Program) (s:TypeId) (f:Nat):Option (Nat×TypeId):=
 match P.underlying s with
 | some (.struct fs)=>match fs[f]? with
  | some fd=>if P.cellsOf fd.type=0 then none else some (fd.offset,fd.type)
  | none=>none
 | _=>none
def slV (P:Program) (t:TypeId):Option (TypeId×Nat):=
 match P.underlying t with
 | some (.slice e)=>if P.cellsOf e=0 then none else some (e,P.cellsOf e)
 | _=>none
def strB (P:Program) (t:TypeId):Bool:=match P.underlying t with | some .string=>true | _=>false
def boolB (P:Program) (t:TypeId):Bool:=match P.underlying t with | some .bool=>true | _=>false
def ifcB (P:Program) (t:TypeId):Bool:=match P.underlying t with | some (.interface _)=>true | _=>false
def intK (P:Program) (t:TypeId):Option IntKind:=match P.underlying t with | some (.int k)=>some k | _=>none
def arrV (P:Program) (t:TypeId):Option (Nat×TypeId×Nat):=
 match P.underlying t with
 | some (.array n e)=>if P.cellsOf e=0 then none else some (n,e,P.cellsOf e)
 | _=>none
def jb9:Nat->List V->Option (List V)
 | 0,_=>some []
 | n+1,c::cs=>(jb9 n cs).map (c :: ·)
 | _+1,[]=>none
theorem jia:∀ {n:Nat} {cs r:List V},jb9 n cs=some r->r=cs.take n/\n<=cs.length
 | 0,_,_,h=>by simp[jb9] at h; subst h; simp
 | n+1,c::cs,r,h=>by
  simp only[jb9] at h;cases h':jb9 n cs with
  | none=>rw[h'] at h; cases h
  | some r'=>
   rw[h'] at h;obtain rfl:r=c::r':=by simpa using h.symm
   obtain ⟨rfl,hl⟩:=jia h';exact ⟨sm,by simp; omega⟩
 | _+1,[],_,h=>by simp[jb9] at h
def ldV (P:Program) (t:TypeId) (cs:List V):Option V:=
 match aggB P t with
 | some true=>(jb9 (P.cellsOf t) cs).map .agg
 | some false=>cs.head?
 | none=>none
def bitF (op:BinOp) (k:IntKind) (a b:Int):Int:=
 match op with
 | .and=>k.wrap (BitVec.ofInt k.bits a &&& BitVec.ofInt k.bits b).toNat
 | .or=>k.wrap (BitVec.ofInt k.bits a ||| BitVec.ofInt k.bits b).toNat
 | .xor=>k.wrap (BitVec.ofInt k.bits a ^^^ BitVec.ofInt k.bits b).toNat
 | _=>k.wrap (BitVec.ofInt k.bits a &&& ~~~BitVec.ofInt k.bits b).toNat
def notF (k:IntKind) (a:Int):Int:=bitF .xor k (if k.signed then -1 else k.max) a
def shF (l:Bool) (k:IntKind) (a n:Int):Int:=bif l then k.wrap (a*2 ^ min n.toNat k.bits) else a.fdiv (2 ^ min n.toNat k.bits)
def shV (l:Bool) (k:IntKind) (a n:Int):Option V:=if 0<=n then some (.val (.int k (shF l k a n))) else none
theorem shV_in {l:Bool} {k:IntKind} {a n:Int} (h:0<=n):shV l k a n=some (.val (.int k (shF l k a n))):=if_pos h
def intOp (op:BinOp) (k:IntKind) (a b:Int):Option V:=
 match op with
 | .add=>some (.val (.int k (k.wrap (a+b))))
 | .sub=>some (.val (.int k (k.wrap (a-b))))
 | .mul=>some (.val (.int k (k.wrap (a*b))))
 | .quo=>if b=0 then none else some (.val (.int k (k.wrap (a.tdiv b))))
 | .rem=>if b=0 then none else some (.val (.int k (a.tmod b)))
 | .eql=>some (.val (.bool (decide (a=b))))
 | .neq=>some (.val (.bool (!decide (a=b))))
 | .lss=>some (.val (.bool (decide (a<b))))
 | .leq=>some (.val (.bool (decide (a<=b))))
 | .gtr=>some (.val (.bool (decide (b<a))))
 | .geq=>some (.val (.bool (decide (b<=a))))
 | .and=>some (.val (.int k (bitF .and k a b)))
 | .or=>some (.val (.int k (bitF .or k a b)))
 | .xor=>some (.val (.int k (bitF .xor k a b)))
 | .andNot=>some (.val (.int k (bitF .andNot k a b)))
 | _=>none
def strOp (op:BinOp) (a b:List UInt8):Option V:=
 match op with
 | .add=>if a.length+b.length<=9223372036854775807 then some (.str (a++b)) else none
 | .eql=>some (.val (.bool (a == b)))
 | .neq=>some (.val (.bool (!(a == b))))
 | .lss=>some (.val (.bool (Op.bytesLess a b)))
 | .leq=>some (.val (.bool (Op.bytesLess a b || a == b)))
 | .gtr=>some (.val (.bool (!(Op.bytesLess a b || a == b))))
 | .geq=>some (.val (.bool (!Op.bytesLess a b)))
 | _=>none
def eqOp (op:BinOp) (b:Bool):Option V:=
 match op with
 | .eql=>some (.val (.bool b))
 | .neq=>some (.val (.bool (!b)))
 | _=>none
inductive Lf where
 | i
 | b
 | s
def eqC:Lf->V->V->Option Bool
 | .i,.val (.int j a),.val (.int k b)=>if j=k then some (decide (a=b)) else none
 | .b,.val (.bool a),.val (.bool b)=>some (a == b)
 | .s,.str a,.str b=>some (a == b)
 | _,_,_=>none
def jda:List Lf->List V->List V->Option Bool
 | [],[],[]=>some true
 | l::ls,x::xs,y::ys=>match eqC l x y,jda ls xs ys with
  | some p,some q=>some (p && q)
  | _,_=>none
 | _,_,_=>none
def flatL (g:TypeId->Option (List Lf)):Nat->List Field->Option (List Lf)
 | _,[]=>some []
 | k, f :: r => if f.name ≠ "_" /\ f.offset = k then match g f.type with
  | some ks=>(flatL g (k+ks.length) r).map (ks ++ ·)
  | none=>none
  else none
def flatT (P:Program):Nat->TypeId->Option (List Lf)
 | 0,_=>none
 | d+1,t=>match P.underlying t with
  | some (.int _)=>if aggB P t=some false then some [.i] else none
  | some .bool=>if aggB P t=some false then some [.b] else none
  | some .string=>if aggB P t=some false then some [.s] else none
  | some (.struct fs)=>if P.stoodInHeld t=false/\aggB P t=some true then match flatL (flatT P d) 0 fs.toList with
   | some ks=>if P.cellsOf t=ks.length then some ks else none
   | none=>none
   else none
  | _=>none
def eqT (P:Program) (t:TypeId):Option (List Lf):=
 match P.underlying t with
 | some (.struct _)=>if P.eqGuardType P.depth t=false then flatT P 8 t else none
 | _=>none
def binV (P:Program) (op:BinOp) (t:TypeId) (x y:V):Option V:=
 match x,y with
 | .val (.int j a),.val (.int k b)=>match op with
  | .shl=>shV true j a b
  | .shr=>shV false j a b
  | _=>if j=k then intOp op j a b else none
 | .val (.bool a),.val (.bool b)=>if boolB P t=true then eqOp op (a == b) else none
 | .str a,.str b=>strOp op a b
 | .slice _ (_::_),.val (.slice none 0 0)=>if (slV P t).isSome=true then eqOp op false else none
 | .val (.slice none 0 0),.val (.slice none 0 0)=>if (slV P t).isSome=true then eqOp op true else none
 | .ifc,.val .nilIface=>if ifcB P t=true then eqOp op false else none
 | .agg cs,.agg ds=>match eqT P t with
  | some ks=>match jda ks cs ds with
   | some b=>eqOp op b
   | none=>none
  | none=>none
 | _,_=>none
def convV (P:Program) (_src dst:TypeId) (x:V):Option V:=
 match x with
 | .val (.int _ n)=>match intK P dst with | some k=>some (.val (.int k (k.wrap n))) | none=>none
 | .str l=>if strB P dst=true then some (.str l) else none
 | _=>none
def nums:V->Option Int
 | .val (.int _ n)=>some n
 | _=>none
def cutV (n:Nat) (lo hi:Option V):Option (Nat×Nat):=
 match (match hi with | none=>some (n:Int) | some v=>nums v),(match lo with | none=>some 0 | some v=>nums v) with
 | some h,some l=>if 0<=l/\l<=h/\h<=n then some (l.toNat,h.toNat) else none
 | _,_=>none
def vOf:Option TV->Option V
 | some (.v x)=>some x
 | _=>none
def vsOf (ρ:Operand->Option TV):List Operand->Option (List V)
 | []=>some []
 | x::r=>match vOf (ρ x),vsOf ρ r with
  | some v,some vs=>some (v::vs)
  | _,_=>none
def okNot (v:Option V):Option TV:=v.map .v
end Go.Ab
namespace Go.Ab
open Go.RowKit
variable {P : Program} {F : Frz} {w : World}
theorem jlo {t:TypeId} {d:TypeDesc} (h:P.underlying t=some d):∃i,P.info? t=some i:=by
 unfold Program.underlying at h;cases hi:P.info? t with
 | none=>rw[hi] at h; cases h
 | some i=>exact ⟨i,rfl⟩
theorem jf9 {t:TypeId} (h:P.cellsOf t≠0):∃i,P.info? t=some i:=by
 unfold Program.cellsOf at h;cases hi:P.info? t with
 | none=>rw[hi] at h; simp at h
 | some i=>exact ⟨i,rfl⟩
theorem jdm {t:TypeId} {i:TypeInfo} (h:P.info? t=some i) (w:World):(sizeOf t).run P w= .ok (P.cellsOf t) w:=by
 simp[sizeOf,typeInfo,h,Program.cellsOf]
theorem jh5 {t:TypeId} {b:Bool} (h:aggB P t=some b) (w:World):(isAgg t).run P w= .ok b w:=by
 unfold aggB at h;unfold isAgg;cases hu:P.underlying t with
 | none=>rw[hu] at h; cases h
 | some d=>
  rw[hu] at h;simp only[Sem.run_bind,run_underlying hu,Result.andThen_ok];cases d <;> simp_all
structure At (F:Frz) (a:Addr) (cs:List V) (g:Nat->Value):Prop where
 one:∀c∈cs,c.one=true
 at_:∀(j:Nat) c,cs[j]? = some c->F (a.add j)=some (g j)
 rep:∀(j:Nat) c,cs[j]? = some c->Rep F c (g j)
theorem At.drop {a:Addr} {cs:List V} {g:Nat->Value} (h:At F a cs g) (n:Nat):At F (a.add n) (cs.drop n) (fun j=>g (n+j)):=
 ⟨fun c hc=>h.one c (List.mem_of_mem_drop hc),fun j c hc=>by rw[add_add]; exact h.at_ _ c zep,fun j c hc=>h.rep _ c zep⟩
theorem ldV_run {t:TypeId} {a:Addr} {cs:List V} {g:Nat->Value} {v:V} (hF:Sees F w) (h:At F a cs g) (hl:ldV P t cs=some v):
  ∃x,(loadVar t a).run P w= .ok x w/\Rep F v x:=by
 unfold ldV at hl;cases hb:aggB P t with
 | none=>rw[hb] at hl; cases hl
 | some b=>
  rw[hb] at hl;cases b with
  | true=>
   simp only[msi] at hl;obtain ⟨r,hr,rfl⟩:=hl;obtain ⟨rfl,hn⟩:=jia hr
   have hi:∃i,P.info? t=some i:=by
    unfold aggB at hb;cases hu:P.underlying t with
    | none=>rw[hu] at hb; cases hb
    | some d=>exact jlo hu
   obtain ⟨i,hi⟩:=hi;have hrun:=run_loadCells (P:=P) w a (P.cellsOf t) g (fun j hj=>hF _ _ (h.at_ j cs[j] (gge om)));refine ⟨.agg ((List.range (P.cellsOf t)).map g).toArray,by simp[loadVar,jh5 hb,jdm hi,hrun,Result.andThen],?_⟩;refine .agg zei (fun c hc=>h.one c (List.mem_of_mem_take hc)) ?_;intro j c x h1 h2
   have hj:j<P.cellsOf t:=by
    rcases Nat.lt_or_ge j (P.cellsOf t) with hj | hj
    ·exact hj
    ·rw[List.getElem?_eq_none zei] at h1; cases h1
   have h1':cs[j]? = some c:=by simpa [List.getElem?_take,hj] using h1
   have:x=g j:=by simpa [hj] using h2.symm
   subst this;exact h.rep j c h1'
  | false=>
   simp only[List.head?_eq_getElem?] at hl;have:=hF _ _ (h.at_ 0 v hl);refine ⟨g 0,?_,h.rep 0 v hl⟩;have h0:a.add 0=a:=by simp[Addr.add]
   rw[h0] at this;simp[loadVar,jh5 hb,Result.andThen,this]
theorem jn7 {t:TypeId} {cs:List V} {xs:Array Value} {off:Nat} {v:V} (hl:xs.size=cs.length) (ho:∀c∈cs,c.one=true)
  (hr:∀(j:Nat) c x,cs[j]? = some c->xs[j]? = some x->Rep F c x) (h:ldV P t (cs.drop off)=some v):
  ∃x,(part t xs off).run P w= .ok x w/\Rep F v x:=by
 unfold ldV at h;cases hb:aggB P t with
 | none=>rw[hb] at h; cases h
 | some b=>
  rw[hb] at h;cases b with
  | true=>
   simp only[msi] at h;obtain ⟨r,hr',rfl⟩:=h;obtain ⟨rfl,hn⟩:=jia hr'
   have hi:∃i,P.info? t=some i:=by
    unfold aggB at hb;cases hu:P.underlying t with
    | none=>rw[hu] at hb; cases hb
    | some d=>exact jlo hu
   obtain ⟨i,hi⟩:=hi;simp only[List.length_drop] at hn;refine ⟨.agg (xs.extract off (off+P.cellsOf t)),by simp[part,jh5 hb,jdm hi,Result.andThen],?_⟩;refine .agg zei (fun c hc=>ho c (List.mem_of_mem_drop (List.mem_of_mem_take hc))) ?_;intro j c x h1 h2
   have hj:j<P.cellsOf t:=by
    rcases Nat.lt_or_ge j (P.cellsOf t) with hj | hj
    ·exact hj
    ·rw[List.getElem?_eq_none zei] at h1; cases h1
   have h1':cs[off+j]? = some c:=by simpa [List.getElem?_take,hj] using h1
   have h2':xs[off+j]? = some x:=by
    rw[Array.getElem?_extract] at h2;split at h2
    ·exact h2
    ·cases h2
   exact hr _ c x h1' h2'
  | false=>
   have h':cs[off]? = some v:=by simpa [List.head?_eq_getElem?] using h
   have hlt:off<xs.size:=by
    rcases Nat.lt_or_ge off cs.length with hj | hj
    ·omega
    ·rw[List.getElem?_eq_none hj] at h'; cases h'
   refine ⟨xs[off],?_,hr off v _ h' (Array.getElem?_eq_getElem hlt)⟩;simp[part,jh5 hb,Result.andThen,Array.getElem?_eq_getElem hlt]
theorem fldV_some {s:TypeId} {f off:Nat} {ft:TypeId} (h:fldV P s f=some (off,ft)):
  ∃fs fd,P.underlying s=some (.struct fs)/\fs[f]? = some fd/\fd.offset=off/\fd.type=ft/\P.cellsOf ft≠0:=by
 unfold fldV at h;split at h
 ·rename_i fs hu;split at h
  ·rename_i fd hf;split at h
   ·cases h
   ·rename_i hz;simp only[Option.some.injEq,Prod.mk.injEq] at h;obtain ⟨rfl,rfl⟩:=h;exact ⟨fs,fd,hu,hf,rfl,rfl,hz⟩
  ·cases h
 ·cases h
theorem jo1 {s:TypeId} {f off:Nat} {ft:TypeId} (h:fldV P s f=some (off,ft)) (a:Addr) (w:World):
  (Instr.fieldAt s (.pointer (some a)) f).run P w= .ok (.pointer (some (a.add off))) w:=by
 obtain ⟨fs,fd,hu,hf,rfl,rfl,hz⟩:=fldV_some h;obtain ⟨i,hi⟩:=jf9 hz;simp[Instr.fieldAt,run_underlying hu,hf,Result.andThen,Instr.sureAddr,fieldPlace,jdm hi,hz]
theorem jdp {t:TypeId} {e:TypeId} {n:Nat} (h:slV P t=some (e,n)):P.underlying t=some (.slice e)/\P.cellsOf e=n/\n≠0:=by
 unfold slV at h;split at h
 ·rename_i e' hu;split at h
  ·cases h
  ·rename_i hz;simp only[Option.some.injEq,Prod.mk.injEq] at h;obtain ⟨rfl,rfl⟩:=h;exact ⟨hu,rfl,hz⟩
 ·cases h
theorem jja {t e:TypeId} {n:Nat} (h:slV P t=some (e,n)) (k:IntKind) (i:Int) (a:Addr) (len cap:Nat) (h0:0<=i) (h1:i<len) (w:World):
  (Instr.indexAt t (.slice (some a) len cap) (.int k i)).run P w= .ok (.pointer (some (a.add (i.toNat*n)))) w:=by
 obtain ⟨hu,rfl,hz⟩:=jdp h;obtain ⟨inf,hi⟩:=jf9 hz;simp[Instr.indexAt,asIntOf,run_underlying hu,Result.andThen,jdm hi,h0,h1]
theorem at_elem {size:Nat} {es:List (List V)} {a:Addr} {g:Nat->Nat->Value}
  (ho:∀e∈es,∀c∈e,c.one=true)
  (hg:∀(i j:Nat) e c,es[i]? = some e->e[j]? = some c->F (a.add (i*size+j))=some (g i j))
  (hr:∀(i j:Nat) e c,es[i]? = some e->e[j]? = some c->Rep F c (g i j)) {k:Nat} {e:List V} (he:es[k]? = some e):
  At F (a.add (k*size)) e (g k):=
 ⟨ho e (List.mem_of_getElem? he),fun j c hc=>by rw[add_add]; exact hg k j e c he hc,fun j c hc=>hr k j e c he hc⟩
theorem arrV_some {t e:TypeId} {len n:Nat} (h:arrV P t=some (len,e,n)):P.underlying t=some (.array len e)/\n=P.cellsOf e/\P.cellsOf e≠0:=by
 unfold arrV at h;split at h
 ·rename_i m e' hu;split at h
  ·cases h
  ·rename_i hz;cases h;exact ⟨hu,rfl,hz⟩
 ·cases h
theorem jmz {t e:TypeId} {len n:Nat} (h:arrV P t=some (len,e,n)) (k:IntKind) (i:Int) (a:Addr) (h0:0<=i) (h1:i<len) (w:World):
  (Instr.indexAt t (.pointer (some a)) (.int k i)).run P w= .ok (.pointer (some (a.add (i.toNat*n)))) w:=by
 obtain ⟨hu,rfl,hz⟩:=arrV_some h;obtain ⟨inf,hi⟩:=jf9 hz;simp[Instr.indexAt,Instr.sureAddr,asIntOf,run_underlying hu,Result.andThen,jdm hi,h0,h1]
theorem rep_row {a:Addr} {cs:List V} {g:Nat->Value} (h:At F a cs g):Rep F (.row cs) (.pointer (some a)):= .row g h.one h.at_ h.rep
theorem jh2 {cs:List V} {x:Value} (h:Rep F (.row cs) x):∃a g,x= .pointer (some a)/\At F a cs g:=by
 cases h with
 | row g ho hg hr=>exact ⟨_,g,rfl,ho,hg,hr⟩
theorem jgl {size:Nat} {es:List (List V)} {x:Value} (h:Rep F (.slice size es) x):
  (x= .slice none 0 0/\es=[])\/∃(a:Addr) (cap:Nat) (g:Nat->Nat->Value),x= .slice (some a) es.length cap/\es.length<=cap/\cap<=maxLen/\(∀e∈es,e.length=size)/\(∀e∈es,∀c∈e,c.one=true)/\
   (∀(i j:Nat) e c,es[i]? = some e->e[j]? = some c->F (a.add (i*size+j))=some (g i j))/\
   (∀(i j:Nat) e c,es[i]? = some e->e[j]? = some c->Rep F c (g i j)):=by
 cases h with
 | snil=>exact .inl ⟨rfl,rfl⟩
 | slice g hc hm hs ho hg hr=>exact .inr ⟨_,_,g,rfl,hc,hm,hs,ho,hg,hr⟩
theorem jhj {size:Nat} {es:List (List V)} {x:Value} (h:Rep F (.slice size es) x):∃a c,x= .slice a es.length c:=by
 rcases jgl h with ⟨rfl,rfl⟩ | ⟨a,cap,g,rfl,_⟩
 ·exact ⟨none,0,rfl⟩
 ·exact ⟨_,_,rfl⟩
theorem intOp_run {op:BinOp} {k:IntKind} {a b:Int} {v:V} (h:intOp op k a b=some v) (t:TypeId) (w:World):
    ∃x,v= .val x/\(binOp op t (.int k a) (.int k b)).run P w= .ok x w:=by
  cases op <;> simp only[intOp] at h <;>
    first
    | (cases h; refine ⟨_,rfl,?_⟩; simp[binOp,Op.intArith]; done)
    | (cases h; refine ⟨_,rfl,?_⟩; simp[binOp,Op.intCmp,bne,BEq.beq]; done)
    | (cases h; refine ⟨_,rfl,?_⟩; simp[binOp,Op.intBits,bitF]; done)
    | (split at h
       · cases h
       · rename_i hz;cases h;refine ⟨_,rfl,?_⟩;simp[binOp,Op.intDiv,hz]
         done)
    | cases h
end Go.Ab
namespace Go.Ab
open Go.RowKit
def nu:Option TV->Option TV
 | some .u=>none
 | r=>r
def memV (h:List (Nat×Blk)) (id off:Nat):Option (List V):=
 match look id h with
 | some (.var cs _ _)=>some (cs.drop off)
 | some (.con cs)=>some (cs.drop off)
 | _=>none
def behind (h:List (Nat×Blk)):Option TV->Option (List V)
 | some (.v (.row cs))=>some cs
 | some (.p id off)=>memV h id off
 | _=>none
def capV (h:List (Nat×Blk)):Option TV->Option V
 | some (.v x)=>some x
 | some (.p id off)=>match look id h with
  | some (.con cs)=>some (.row (cs.drop off))
  | some (.var _ (some b) _)=>some (.val (.pointer (some ⟨b,off,none⟩)))
  | _=>none
 | _=>none
def jeq (ρ:Operand->Option TV) (h:List (Nat×Blk)):List Operand->Option (List V)
 | []=>some []
 | x::r=>match capV h (ρ x),jeq ρ h r with
  | some v,some vs=>some (v::vs)
  | _,_=>none
def lenV (P:Program) (t:TypeId) (h:List (Nat×Blk)):Option TV->Option V
 | some (.v (.slice _ es))=>if (slV P t).isSome=true then some (.val (.int .i64 es.length)) else none
 | some (.v (.str l))=>if strB P t=true then some (.val (.int .i64 l.length)) else none
 | some (.v (.val (.slice none 0 0)))=>if (slV P t).isSome=true then some (.val (.int .i64 0)) else none
 | some (.v (.val (.slice (some _) n _)))=>if (slV P t).isSome=true then some (.val (.int .i64 n)) else none
 | some (.s _ _ n _)=>if (slV P t).isSome=true then some (.val (.int .i64 n)) else none
 | some (.m id)=>match look id h,P.underlying t with
  | some (.map es _),some (.map _ _)=>some (.val (.int .i64 es.length))
  | _,_=>none
 | _=>none
def mapKV (P:Program) (t:TypeId):Option (TypeId×TypeId):=
 match P.underlying t with
 | some (.map k e)=>some (k,e)
 | _=>none
def jdi (P:Program) (t:TypeId):Option Value:=(P.info? t).bind (·.zero)
def jel:V->V->Option Bool
 | .val (.int j a),.val (.int k b)=>if j=k then some (decide (a=b)) else none
 | .str a,.str b=>some (a == b)
 | _,_=>none
def keyT (P:Program) (t:TypeId) (x:V):Bool:=
 match P.underlying t,x with
 | some (.int _),.val (.int _ _)=>true
 | some .string,.str _=>true
 | _,_=>false
def findV (k:V):List (V×V)->Option (Option V)
 | []=>some none
 | (k',v)::r=>match jel k k' with
  | some true=>some (some v)
  | some false=>findV k r
  | none=>none
def jcb (b:Nat):List (Nat×Blk)->Option Nat
 | []=>none
 | (i,k)::r=>match k.nm with
  | some b'=>if b=b' then some i else jcb b r
  | none=>jcb b r
def nmOf:Option Blk->Option Nat
 | some k=>k.nm
 | none=>none
def jbo (b:Nat) (h:List (Nat×Blk)):Option Nat:=match jcb b h with
 | some id=>if nmOf (look id h)=some b then some id else none
 | none=>none
def mapB:Option Blk->Option (List (V×V))
 | some (.map es _)=>some es
 | _=>none
def mapN (b:Nat) (h:List (Nat×Blk)):Option (List (V×V)):=match jbo b h with
 | some id=>mapB (look id h)
 | none=>none
def mapE (h:List (Nat×Blk)):Option TV->Option (List (V×V))
 | some (.m id)=>match look id h with
  | some (.map es _)=>some es
  | _=>none
 | some (.v (.map ks vs))=>some (ks.zip vs)
 | some (.v (.val (.map none)))=>some []
 | some (.v (.val (.map (some b))))=>mapN b h
 | _=>none
def idxV (es:List (List V)) (i:V):Option (List V):=
 match i with
 | .val (.int _ n)=>if 0<=n then es[n.toNat]? else none
 | _=>none
def bytV (l:List UInt8) (i:V):Option V:=
 match i with
 | .val (.int _ n)=>if 0<=n then (l[n.toNat]?).map fun b=> .val (.int .u8 b.toNat) else none
 | _=>none
def sliceV (P:Program) (t:TypeId) (x:V) (lo hi:Option V):Option V:=
 match x with
 | .str l=>if strB P t=true then (cutV l.length lo hi).map fun (a,b)=> .str ((l.take b).drop a) else none
 | .slice size es=>if (slV P t).map (·.2)=some size then (cutV es.length lo hi).map fun (a,b)=> .slice size ((es.take b).drop a) else none
 | _=>none
def idxS (m:Nat) (i:V):Option Nat:=
 match i with
 | .val (.int _ n)=>if 0<=n/\n<m then some n.toNat else none
 | _=>none
def cutS (id off size:Nat):Nat×Nat->TV
 | (a,b)=>if a=b then .v (.slice size []) else .s id (off+a*size) (b-a) size
def optV (ρ:Operand->Option TV):Option Operand->Option (Option V)
 | none=>some none
 | some x=>(vOf (ρ x)).map some
def minV (b:Bool):Option V->Option V->Option V
 | some (.val (.int k x)),some (.val (.int _ y))=>some (.val (.int k (bif b then (if y<x then y else x) else (if y > x then y else x))))
 | _,_=>none
def evq (P:Program) (ρ:Operand->Option TV) (h:List (Nat×Blk)) (o:Op):Option TV:=
 match o with
 | .move x=>nu (ρ x)
 | .assign x=>nu (ρ x)
 | .nilCheck x=>match ρ x with
  | some (.p id off)=>some (.p id off)
  | some (.v (.row cs))=>some (.v (.row cs))
  | _=>none
 | .pick c a b=>match vOf (ρ c) with
  | some (.val (.bool t))=>bif t then nu (ρ a) else nu (ρ b)
  | _=>none
 | .load t a=>(behind h (ρ a)).bind fun cs=>(ldV P t cs).map .v
 | .fieldAddr s x f=>match fldV P s f,ρ x with
  | some (off,_),some (.v (.row cs))=>some (.v (.row (cs.drop off)))
  | some (off,_),some (.p id o)=>some (.p id (o+off))
  | _,_=>none
 | .field s x f=>match fldV P s f,vOf (ρ x) with
  | some (off,ft),some (.agg cs)=>(ldV P ft (cs.drop off)).map .v
  | _,_=>none
 | .indexAddr t x i=>match arrV P t with
  | some (n,_,size)=>match ρ x,vOf (ρ i) with
   | some (.p id off),some i=>(idxS n i).map fun k=> .p id (off+k*size)
   | some (.v (.row cs)),some i=>(idxS n i).map fun k=> .v (.row (cs.drop (k*size)))
   | _,_=>none
  | none=>match slV P t,ρ x,vOf (ρ i) with
   | some (_,n),some (.v (.slice size es)),some i=>if n=size then (idxV es i).map fun e=> .v (.row e) else none
   | some (_,n),some (.s id off m size),some i=>if n=size then (idxS m i).map fun k=> .p id (off+k*size) else none
   | some (_,n),some (.v (.val (.slice (some ⟨r,off,none⟩) m _))),some i=>match jbo r h with
    | some id=>(idxS m i).map fun k=> .p id (off+k*n)
    | none=>none
   | _,_,_=>none
 | .index t x i=>match arrV P t with
  | some (n,e,size)=>match vOf (ρ x),vOf (ρ i) with
   | some (.agg cs),some i=>(idxS n i).bind fun k=>(ldV P e (cs.drop (k*size))).map .v
   | _,_=>none
  | none=>match strB P t,vOf (ρ x),vOf (ρ i) with
   | true,some (.str l),some i=>(bytV l i).map .v
   | _,_,_=>none
 | .slice t x lo hi none=>match ρ x,optV ρ lo,optV ρ hi with
  | some (.v x),some lo,some hi=>(sliceV P t x lo hi).map .v
  | some (.s id off m size),some lo,some hi=>if (slV P t).map (·.2)=some size then (cutV m lo hi).map (cutS id off size) else none
  | _,_,_=>none
 | .binOp op t x y _=>match vOf (ρ x),vOf (ρ y) with
  | some (.val .nilIface),some (.val .nilIface)=>match y with
   | .const _=>if ifcB P t=true then (eqOp op true).map .v else none
   | _=>none
  | some x,some y=>(binV P op t x y).map .v
  | _,_=>none
 | .unOp .not _ x=>match vOf (ρ x) with
  | some (.val (.bool b))=>some (.v (.val (.bool (!b))))
  | _=>none
 | .unOp .neg _ x=>match vOf (ρ x) with
  | some (.val (.int k n))=>some (.v (.val (.int k (k.wrap (0-n)))))
  | _=>none
 | .unOp .xor _ x=>match vOf (ρ x) with
  | some (.val (.int k n))=>some (.v (.val (.int k (notF k n))))
  | _=>none
 | .convert src dst x=>match (P.underlying src).isSome,vOf (ρ x) with
  | true,some x=>(convV P src dst x).map .v
  | _,_=>none
 | .extract x i=>match vOf (ρ x) with
  | some (.tup vs)=>(vs[i]?).map .v
  | _=>none
 | .makeFunc (.func f) first cap=>if first.size=0 then (jeq ρ h cap.toList).map fun vs=> .v (.func f vs) else none
 | .lookup t x i ok=>match mapKV P t,mapE h (ρ x),vOf (ρ i) with
  | some (kt,et),some es,some k=>match jdi P et with
   | some z=>if keyT P kt k=true/\okVal z=true then (findV k es).map fun r=> .v (bif ok then .tup [r.getD (ofVal z),.val (.bool r.isSome)] else r.getD (ofVal z)) else none
   | none=>none
  | _,_,_=>none
 | .call c=>match c.callee with
  | .builtin .len=>match c.args.toList,c.argTypes.toList with
   | [x],[t]=>(lenV P t h (ρ x)).map .v
   | _,_=>none
  | .builtin .min=>match c.args.toList with
   | [x,y]=>(minV true (vOf (ρ x)) (vOf (ρ y))).map .v
   | _=>none
  | .builtin .max=>match c.args.toList with
   | [x,y]=>(minV false (vOf (ρ x)) (vOf (ρ y))).map .v
   | _=>none
  | _=>none
 | _=>none
end Go.Ab
namespace Go.Ab
open Go.RowKit
variable {P : Program} {F : Frz} {w : World} {ρ : Nat -> Nat} {h : List (Nat × Blk)} {ρa : Operand -> Option TV} {ρc : Operand -> Value}
theorem jgt {r:Option TV} {tv:TV} (h:nu r=some tv):r=some tv:=by
 unfold nu at h; split at h
 ·cases h
 ·exact h
theorem jl5 {r:Option TV} {x:V} (h:vOf r=some x):r=some (.v x):=by
 unfold vOf at h; split at h
 ·cases h; rfl
 ·cases h
structure Good (F:Frz) (w:World) (ρ:Nat->Nat) (h:List (Nat×Blk)) (ρa:Operand->Option TV) (ρc:Operand->Value):Prop where
 sees:Sees F w
 blk:∀id k,look id h=some k->RepB F w (ρ id) k
 opr:∀x tv,ρa x=some tv->RepT F ρ tv (ρc x)
 nb:∀id k b,look id h=some k->k.nm=some b->ρ id=b
theorem Good.v (G:Good F w ρ h ρa ρc) {x:Operand} {v:V} (hx:vOf (ρa x)=some v):Rep F v (ρc x):=G.opr x _ (jl5 hx)
theorem var_mem {w:World} {b off j:Nat} {xs:Array Value} {ty:TypeId} {fz:Nat×Nat} (h:w.heap[b]? = some (.cells xs ty fz)):w.cell? ⟨b,off+j,none⟩=xs[off+j]? := by
 simp[World.cell?,h]
theorem js2 (G:Good F w ρ h ρa ρc) {x:Operand} {cs:List V} {t:TypeId} {v:V} (hb:behind h (ρa x)=some cs) (hl:ldV P t cs=some v):
  ∃y,(Instr.loadAt t (ρc x)).run P w= .ok y w/\Rep F v y:=by
 unfold behind at hb;split at hb
 ·rename_i cs' hx;cases hb;obtain ⟨a,g,e,hat⟩:=jh2 (show Rep F (.row _) (ρc x) from G.opr x _ hx);exact zcj
 ·rename_i id off hx;have e:=show ρc x=_ from G.opr x _ hx
  unfold memV at hb;split at hb
  ·rename_i cs' _ _ hk;cases hb;obtain ⟨xs,ty,h1,h2,h3,h4,h5⟩:=G.blk id _ hk
   have hnaive:∃y,(loadVar t ⟨ρ id,off,none⟩).run P w= .ok y w/\Rep F v y:=by
    unfold ldV at hl;cases hag:aggB P t with
    | none=>rw[hag] at hl; cases hl
    | some b=>
     rw[hag] at hl;cases b with
     | true=>
      simp only[msi] at hl;obtain ⟨r,hr,rfl⟩:=hl;obtain ⟨rfl,hn⟩:=jia hr;simp only[List.length_drop] at hn
      have hi:∃i,P.info? t=some i:=by
       unfold aggB at hag;cases hu:P.underlying t with
       | none=>rw[hu] at hag; cases hag
       | some d=>exact jlo hu
      obtain ⟨i,hi⟩:=hi
      have hrun:=run_loadCells (P:=P) w ⟨ρ id,off,none⟩ (P.cellsOf t) (fun j=>xs.getD (off+j) undef) (fun j hj=>by
       rw[jcf,var_mem h1];have:off+j<xs.size:=om
       simp[this])
      refine ⟨.agg ((List.range (P.cellsOf t)).map (fun j=>xs.getD (off+j) undef)).toArray,by simp[loadVar,jh5 hag,jdm hi,hrun,Result.andThen],?_⟩;refine .agg zei (fun c hc=>h3 c (List.mem_of_mem_drop (List.mem_of_mem_take hc))) ?_;intro j c x h1' h2'
      have hj:j<P.cellsOf t:=by
       rcases Nat.lt_or_ge j (P.cellsOf t) with hj | hj
       ·exact hj
       ·rw[List.getElem?_eq_none zei] at h1'; cases h1'
      have h1'':cs'[off+j]? = some c:=by simpa [List.getElem?_take,hj] using h1'
      have hlt:off+j<xs.size:=om
      have hx':x=xs[off+j]:=by simpa [hj,hlt] using h2'.symm
      subst hx';exact h4 _ c _ h1'' (Array.getElem?_eq_getElem hlt)
     | false=>
      have hl':cs'[off]? = some v:=by simpa [List.head?_eq_getElem?] using hl
      have hlt:off<xs.size:=by
       have:=(gsi.1 hl').1;omega
      have hc:w.cell? ⟨ρ id,off,none⟩=some xs[off]:=by simp[World.cell?,h1,hlt]
      exact ⟨xs[off],by simp[loadVar,jh5 hag,Result.andThen,hc],h4 off v _ hl' (Array.getElem?_eq_getElem hlt)⟩
   obtain ⟨y,hr,hy⟩:=hnaive;exact ⟨y,by simp[Instr.loadAt,e,Instr.sureAddr,hr],hy⟩
  ·rename_i cs' hk;cases hb;obtain ⟨g,h1,h2,h3⟩:=G.blk id _ hk
   have hat:At F ⟨ρ id,off,none⟩ (cs'.drop off) (fun j=>g (off+j)):=
    ⟨fun c hc=>h1 c (List.mem_of_mem_drop hc),fun j c hc=>by rw[jcf]; exact h2 _ c zep,fun j c hc=>h3 _ c zep⟩
   exact zcj
  ·cases hb
 ·cases hb
theorem capV_sound (G:Good F w ρ h ρa ρc) {x:Operand} {v:V} (hv:capV h (ρa x)=some v):Rep F v (ρc x):=by
 unfold capV at hv;split at hv
 ·rename_i v' hx; cases hv; exact G.opr x _ hx
 ·rename_i id off hx;have e:=show ρc x=_ from G.opr x _ hx
  split at hv
  ·rename_i cs hk;cases hv;obtain ⟨g,h1,h2,h3⟩:=G.blk id _ hk;rw[e];exact .row (fun j=>g (off+j)) (fun c hc=>h1 c (List.mem_of_mem_drop hc)) (fun j c hc=>by rw[jcf]; exact h2 _ c zep) (fun j c hc=>h3 _ c zep)
  ·rename_i cs b _ hk;cases hv;rw[e,G.nb id _ b hk rfl];exact .val _
  ·cases hv
 ·cases hv
theorem jry (G:Good F w ρ h ρa ρc):∀ {l:List Operand} {vs:List V},jeq ρa h l=some vs->vs.length=l.length/\∀(j:Nat) v x,vs[j]? = some v->(l.map ρc)[j]? = some x->Rep F v x
 | [],vs,e=>by simp[jeq] at e; subst e; simp
 | x::r,vs,e=>by
  simp only[jeq] at e;split at e
  ·rename_i v vs' h1 h2;cases e;obtain ⟨hl,hh⟩:=jry G h2;refine ⟨by simp[hl],fun j v' x' e1 e2=> ?_⟩;cases j with
   | zero=>
    simp only[List.getElem?_cons_zero,Option.some.injEq,List.map_cons] at e1 e2;subst e1 e2;exact capV_sound G h1
   | succ j=>
    exact zdw
  ·cases e
theorem joa (G:Good F w ρ h ρa ρc):∀ {l:List Operand} {vs:List V},vsOf ρa l=some vs->vs.length=l.length/\∀(j:Nat) v x,vs[j]? = some v->(l.map ρc)[j]? = some x->Rep F v x
 | [],vs,e=>by simp[vsOf] at e; subst e; simp
 | x::r,vs,e=>by
  simp only[vsOf] at e;split at e
  ·rename_i v vs' h1 h2;cases e;obtain ⟨hl,hh⟩:=joa G h2;refine ⟨by simp[hl],fun j v' x' e1 e2=> ?_⟩;cases j with
   | zero=>
    simp only[List.getElem?_cons_zero,Option.some.injEq,List.map_cons] at e1 e2;subst e1 e2;exact G.v h1
   | succ j=>
    exact zdw
  ·cases e
theorem jjh {t:TypeId} (e:strB P t=true):P.underlying t=some .string:=by
 unfold strB at e; split at e
 ·rename_i h; exact h
 ·cases e
theorem boolB_true {t:TypeId} (e:boolB P t=true):P.underlying t=some .bool:=by
 unfold boolB at e; split at e
 ·rename_i h; exact h
 ·cases e
theorem ifcB_true {t:TypeId} (e:ifcB P t=true):∃ms,P.underlying t=some (.interface ms):=by
 unfold ifcB at e; split at e
 ·rename_i ms h; exact ⟨ms,h⟩
 ·cases e
theorem jms {t:TypeId} {k:IntKind} (e:intK P t=some k):P.underlying t=some (.int k):=by
 unfold intK at e; split at e
 ·rename_i k' h; cases e; exact h
 ·cases e
theorem jhn {t:TypeId} (e:(slV P t).isSome=true):∃e',P.underlying t=some (.slice e'):=by
 obtain ⟨⟨e',n⟩,h⟩:=Option.isSome_iff_exists.1 e;exact ⟨e',(jdp h).1⟩
theorem jbg {l:List UInt8} {x:Value} (h:Rep F (.str l) x):x= .string ⟨l.toArray⟩:=by cases h; rfl
theorem ja8 {v x:Value} (h:Rep F (.val v) x):x=v:=by cases h; rfl
theorem size_mk' (l:List UInt8):ByteArray.size ⟨l.toArray⟩=l.length:=rfl
theorem lenV_sound (G:Good F w ρ h ρa ρc) {t ty:TypeId} {x:Operand} {v:V} (e:lenV P t h (ρa x)=some v):
  ∃y,(Builtin.len_ #[t] ty #[ρc x]).run P w= .ok y w/\Rep F v y:=by
 unfold lenV at e;split at e
 ·rename_i size es hx;split at e
  ·rename_i hs;cases e;obtain ⟨e',hu⟩:=jhn hs;obtain ⟨a,c,hv⟩:=jhj (show Rep F (.slice size es) (ρc x) from G.opr x _ hx);exact ⟨.int .i64 es.length,by simp[Builtin.len_,run_underlying hu,Result.andThen,hv,goInt],.val _⟩
  ·cases e
 ·rename_i l hx;split at e
  ·rename_i hs;cases e;have hv:=jbg (show Rep F (.str l) (ρc x) from G.opr x _ hx);exact ⟨.int .i64 l.length,by simp only[Builtin.len_,hv]; simp[run_underlying (jjh hs),Result.andThen,size_mk']; rfl,.val _⟩
  ·cases e
 ·rename_i hx;split at e
  ·rename_i hs;cases e;obtain ⟨e',hu⟩:=jhn hs;have hv:=ja8 (show Rep F (.val _) (ρc x) from G.opr x _ hx);exact ⟨.int .i64 0,by simp[Builtin.len_,run_underlying hu,Result.andThen,hv,goInt],.val _⟩
  ·cases e
 ·rename_i ad m cap hx;split at e
  ·rename_i hs;cases e;obtain ⟨e',hu⟩:=jhn hs;have hv:=ja8 (show Rep F (.val _) (ρc x) from G.opr x _ hx);exact zc5
  ·cases e
 ·rename_i id off m size hx;split at e
  ·rename_i hs;cases e;obtain ⟨e',hu⟩:=jhn hs;obtain ⟨cap,_,_,_,hv⟩:=show ∃cap,m<=cap/\cap<=maxLen/\0<m/\ρc x=_ from G.opr x _ hx
   exact zc5
  ·cases e
 ·rename_i id hx;split at e
  ·rename_i es _ k' e' hk hu;cases e;have hv:=show ρc x=_ from G.opr x _ hx
   obtain ⟨xs,ck,h1,_,h2,h3⟩:=G.blk id _ hk
   have hg:(getObj (ρ id)).run P w= .ok (.map xs ck) w:=by
    unfold getObj;simp only[Sem.run];rw[h1]
   exact ⟨.int .i64 es.length,by simp[Builtin.len_,run_underlying hu,Result.andThen,hv,goInt,hg,h2],.val _⟩
  ·cases e
 ·cases e
theorem size_mk (l:List UInt8):(⟨l.toArray⟩:ByteArray).size=l.length:=by simp[ByteArray.size]
theorem toList_mk (l:List UInt8):(⟨l.toArray⟩:ByteArray).toList=l:=by simp[ByteArray.toList_eq]
theorem strOp_run {op:BinOp} {a b:List UInt8} {v:V} (e:strOp op a b=some v) (t:TypeId) (w:World):
  ∃y,(binOp op t (.string ⟨a.toArray⟩) (.string ⟨b.toArray⟩)).run P w= .ok y w/\Rep F v y:=by
 cases op <;> simp only[strOp] at e <;> try (cases e; done)
 case add=>
  split at e
  ·rename_i hle;cases e;refine ⟨.string ⟨(a++b).toArray⟩,?_,.str _⟩
   have:(⟨a.toArray⟩:ByteArray)++⟨b.toArray⟩=⟨(a++b).toArray⟩:=by
    apply WideShapes.bytes_inj;simp
   have hm:IntKind.i64.max=9223372036854775807:=by decide
   simp[binOp,Op.stringOp,hm,size_mk,this];omega
  ·cases e
 all_goals
  cases e;refine ⟨_,?_,.val _⟩;simp[binOp,Op.stringOp]
theorem jjn {op:BinOp} {b:Bool} {v:V} (e:eqOp op b=some v):(op= .eql/\v= .val (.bool b))\/(op= .neq/\v= .val (.bool (!b))):=by
 unfold eqOp at e;split at e
 ·cases e; exact .inl ⟨rfl,rfl⟩
 ·cases e; exact .inr ⟨rfl,rfl⟩
 ·cases e
theorem jqx (d:Nat) {t:TypeId} (hu:P.underlying t=some .bool) (a b:Bool) (w:World):(Op.equalIn (d+1) t (.bool a) (.bool b)).run P w= .ok (a == b) w:=by
 simp[Op.equalIn,run_underlying hu]
theorem equal_bool {t:TypeId} (hu:P.underlying t=some .bool) (a b:Bool) (w:World):(Op.equal t (.bool a) (.bool b)).run P w= .ok (a == b) w:=jqx 9999 hu a b w
theorem js5 (d:Nat) {t e:TypeId} (hu:P.underlying t=some (.slice e)) (a:Option Addr) (n c:Nat) (w:World):(Op.equalIn (d+1) t (.slice a n c) (.slice none 0 0)).run P w= .ok a.isNone w:=by
 cases a <;> simp[Op.equalIn,run_underlying hu]
theorem jj6 {t e:TypeId} (hu:P.underlying t=some (.slice e)) (a:Option Addr) (n c:Nat) (w:World):(Op.equal t (.slice a n c) (.slice none 0 0)).run P w= .ok a.isNone w:=js5 9999 hu a n c w
theorem jsb (d:Nat) {t:TypeId} {ms:Array (String×TypeId)} (hu:P.underlying t=some (.interface ms)) (u:TypeId) (x:Value) (w:World):(Op.equalIn (d+1) t (.iface u x) .nilIface).run P w= .ok false w:=by
 simp[Op.equalIn,run_underlying hu]
theorem jqi {t:TypeId} {ms:Array (String×TypeId)} (hu:P.underlying t=some (.interface ms)) (u:TypeId) (x:Value) (w:World):(Op.equal t (.iface u x) .nilIface).run P w= .ok false w:=jsb 9999 hu u x w
theorem jsa (d:Nat) {t:TypeId} {ms:Array (String×TypeId)} (hu:P.underlying t=some (.interface ms)) (w:World):(Op.equalIn (d+1) t .nilIface .nilIface).run P w= .ok true w:=by
 simp[Op.equalIn,run_underlying hu]
theorem jqh {t:TypeId} {ms:Array (String×TypeId)} (hu:P.underlying t=some (.interface ms)) (w:World):(Op.equal t .nilIface .nilIface).run P w= .ok true w:=jsa 9999 hu w
theorem jil {x y:Value} {t:TypeId} {b:Bool} {w:World} (h:(Op.equal t x y).run P w= .ok b w)
  (h1:binOp .eql t x y=(do pure (.bool (<- Op.equal t x y)))):(binOp .eql t x y).run P w= .ok (.bool b) w:=by
 rw[h1]; simp[h,Result.andThen]
theorem jik {x y:Value} {t:TypeId} {b:Bool} {w:World} (h:(Op.equal t x y).run P w= .ok b w)
  (h1:binOp .neq t x y=(do pure (.bool (!(<- Op.equal t x y))))):(binOp .neq t x y).run P w= .ok (.bool (!b)) w:=by
 rw[h1]; simp[h,Result.andThen]
theorem eqC_i {v u:V} {b:Bool} (h:eqC .i v u=some b):∃j a c,v= .val (.int j a)/\u= .val (.int j c)/\b=decide (a=c):=by
 unfold eqC at h;split at h
 ·split at h
  ·rename_i hj; subst hj; cases h; exact ⟨_,_,_,rfl,rfl,rfl⟩
  ·cases h
 ·rename_i h1; cases h1
 ·rename_i h1; cases h1
 ·cases h
theorem eqC_b {v u:V} {b:Bool} (h:eqC .b v u=some b):∃a c,v= .val (.bool a)/\u= .val (.bool c)/\b=(a == c):=by
 unfold eqC at h;split at h
 ·rename_i h1; cases h1
 ·cases h; exact ⟨_,_,rfl,rfl,rfl⟩
 ·rename_i h1; cases h1
 ·cases h
theorem eqC_s {v u:V} {b:Bool} (h:eqC .s v u=some b):∃a c,v= .str a/\u= .str c/\b=(a == c):=by
 unfold eqC at h;split at h
 ·rename_i h1; cases h1
 ·rename_i h1; cases h1
 ·cases h; exact ⟨_,_,rfl,rfl,rfl⟩
 ·cases h
theorem jm0:∀ {ks:List Lf} {a b:List V} {r:Bool},jda ks a b=some r->a.length=ks.length/\b.length=ks.length
 | [],[],[],_,_=>⟨rfl,rfl⟩
 | l::ls,x::xs,y::ys,r,h=>by
  simp only[jda] at h;split at h
  ·rename_i p q _ hq;have:=jm0 hq;simp[this.1,this.2]
  ·cases h
theorem jrg:∀ {ks ks':List Lf} {a b:List V} {r:Bool},jda (ks++ks') a b=some r->
  ∃r1 r2,jda ks (a.take ks.length) (b.take ks.length)=some r1/\jda ks' (a.drop ks.length) (b.drop ks.length)=some r2/\r=(r1 && r2)
 | [],ks',a,b,r,h=>⟨true,r,rfl,h,sm⟩
 | l::ls,ks',[],b,r,h=>by cases b <;> simp[jda] at h
 | l::ls,ks',x::xs,[],r,h=>by simp[jda] at h
 | l::ls,ks',x::xs,y::ys,r,h=>by
  simp only[List.cons_append,jda] at h;split at h
  ·rename_i p q hp hq;cases h;obtain ⟨r1,r2,h1,h2,rfl⟩:=jrg hq;exact ⟨p && r1,r2,by simp[jda,hp,h1],by simpa using h2,by rw[Bool.and_assoc]⟩
  ·cases h
theorem jn2:∀ {n:Nat} {cs:List V},n<=cs.length->jb9 n cs=some (cs.take n)
 | 0,_,_=>rfl
 | n+1,c::cs,h=>by simp[jb9,jn2 (n:=n) (cs:=cs) (by simpa using h)]
 | _+1,[],h=>by simp at h
theorem ld_flat {k:Nat} {t:TypeId} {ks:List Lf} (h:flatT P k t=some ks) {cs:List V} (hl:ks.length<=cs.length):∃v,ldV P t cs=some v:=by
 cases k with
 | zero=>cases h
 | succ k=>
  have leaf:∀l:Lf,(if aggB P t=some false then some [l] else none)=some ks->∃v,ldV P t cs=some v:=fun l h=>by
   split at h
   ·rename_i ha;cases h
    match cs,hl with
    | c::cs,_=>exact ⟨c,by simp[ldV,ha]⟩
   ·cases h
  unfold flatT at h;split at h
  ·exact leaf _ h
  ·exact leaf _ h
  ·exact leaf _ h
  ·split at h
   ·rename_i ha;split at h
    ·split at h
     ·rename_i hc;cases h;exact ⟨_,by rw[ldV,ha.2]; simp only; rw[jn2 om]; rfl⟩
     ·cases h
    ·cases h
   ·cases h
  ·cases h
structure AggRep (F:Frz) (cs:List V) (xs:Array Value):Prop where
 size:xs.size=cs.length
 one:∀c∈cs,c.one=true
 rep:∀(j:Nat) c x,cs[j]? = some c->xs[j]? = some x->Rep F c x
theorem jm2 {cs:List V} {x:Value} (h:Rep F (.agg cs) x):∃xs,x= .agg xs/\AggRep F cs xs:=by
 cases h with
 | agg h1 h2 h3=>exact ⟨_,rfl,h1,h2,h3⟩
def EqAt (P:Program) (k:Nat):Prop:=∀ {t:TypeId} {ks:List Lf},flatT P k t=some ks->∀ {d:Nat},k<=d->∀ {F:Frz} {w:World} {cs ds:List V} {v u:V} {x y:Value} {b:Bool},
 ldV P t cs=some v->ldV P t ds=some u->(∀c∈cs,c.one=true)->(∀c∈ds,c.one=true)->Rep F v x->Rep F u y->
 jda ks (cs.take ks.length) (ds.take ks.length)=some b->(Op.equalIn d t x y).run P w= .ok b w
theorem eq_fields {k:Nat} (IH:EqAt P k) {d:Nat} (hd:k<=d) {cs ds:List V} {xs ys:Array Value} (hx:AggRep F cs xs) (hy:AggRep F ds ys):
  ∀(fs:List Field) (off:Nat) {ks:List Lf} {b:Bool},flatL (flatT P k) off fs=some ks->jda ks (cs.drop off) (ds.drop off)=some b->(Op.eqFields d xs ys fs).run P w= .ok b w
 | [],off,ks,b,h,e=>by
  simp only[flatL,Option.some.injEq] at h;subst h;obtain ⟨h1,h2⟩:=jm0 e;rw[List.eq_nil_of_length_eq_zero h1,List.eq_nil_of_length_eq_zero h2] at e;cases e;simp[Op.eqFields]
 | f::fs,off,ks,b,h,e=>by
  simp only[flatL] at h;split at h
  ·rename_i hf;obtain ⟨hn,ho⟩:=hf;split at h
   ·rename_i ks1 h1;simp only[msi] at h;obtain ⟨ks2,h2,rfl⟩:=h;obtain ⟨e1,e2⟩:=jm0 e;simp only[List.length_append] at e1 e2;obtain ⟨r1,r2,g1,g2,rfl⟩:=jrg e;obtain ⟨v,hv⟩:=ld_flat h1 (cs:=cs.drop off) om;obtain ⟨u,hu⟩:=ld_flat h1 (cs:=ds.drop off) om;obtain ⟨x,hx1,hx2⟩:=jn7 (P:=P) (w:=w) hx.size hx.one hx.rep hv;obtain ⟨y,hy1,hy2⟩:=jn7 (P:=P) (w:=w) hy.size hy.one hy.rep hu;have key:=IH h1 hd (w:=w) hv hu (fun c hc=>hx.one c (List.mem_of_mem_drop hc)) (fun c hc=>hy.one c (List.mem_of_mem_drop hc)) hx2 hy2 g1;have rest:=eq_fields IH hd hx hy fs (off+ks1.length) h2 (by simpa [List.drop_drop] using g2);rw[Op.eqFields,if_pos hn,ho];cases r1 with
    | true=>simp[hx1,hy1,key,rest,Result.andThen]
    | false=>simp[hx1,hy1,key,Result.andThen]
   ·cases h
  ·cases h
theorem eq_flat:∀(k:Nat),EqAt P k
 | 0=>fun h=>by cases h
 | k+1=>by
  intro h d hd F w cs ds v u x y b hv hu hc1 hc2 hx hy e;rename_i t ks;obtain ⟨d,rfl⟩:∃d',d=d'+1:=⟨d-1,om⟩
  have leaf:∀l:Lf,(if aggB P t=some false then some [l] else none)=some ks->eqC l v u=some b:=fun l h=>by
   split at h
   ·rename_i ha;cases h;simp only[ldV,ha] at hv hu;cases cs with
    | nil=>cases hv
    | cons c cs=>
     cases ds with
     | nil=>cases hu
     | cons c' ds=>
      cases hv; cases hu;simp only[List.length_cons,List.length_nil,List.take_succ_cons,List.take_zero,jda] at e;split at e
      ·rename_i p q hp hq;cases hq;cases e;simpa using hp
      ·cases e
   ·cases h
  unfold flatT at h;split at h
  ·rename_i kd hu';obtain ⟨j,a,c,rfl,rfl,rfl⟩:=eqC_i (leaf _ h);have:=ja8 hx; subst this;have:=ja8 hy; subst this;rw[run_equalIn_int w d t _ _ _ _ hu'];congr
  ·rename_i hu';obtain ⟨a,c,rfl,rfl,rfl⟩:=eqC_b (leaf _ h);have:=ja8 hx; subst this;have:=ja8 hy; subst this;exact jqx d hu' _ _ w
  ·rename_i hu';obtain ⟨a,c,rfl,rfl,rfl⟩:=eqC_s (leaf _ h);have:=jbg hx; subst this;have:=jbg hy; subst this;rw[run_equalIn_string w d t _ _ hu',toList_mk,toList_mk]
  ·rename_i fs hu';split at h
   ·rename_i ha;split at h
    ·rename_i ks' hks;split at h
     ·rename_i hc;cases h;simp only[ldV,ha.2,msi] at hv hu;obtain ⟨c1,hv,rfl⟩:=hv;obtain ⟨c2,hu,rfl⟩:=hu;obtain ⟨rfl,l1⟩:=jia hv;obtain ⟨rfl,l2⟩:=jia hu;obtain ⟨xs,rfl,hx'⟩:=jm2 hx;obtain ⟨ys,rfl,hy'⟩:=jm2 hy;have hfo:P.fieldsOf t=fs:=by simp[Program.fieldsOf,hu']
      rw[run_equalIn_struct w d t xs ys (by rw[hfo]; exact hu') ha.1,hfo];exact eq_fields (eq_flat k) om hx' hy' fs.toList 0 hks (by simpa [hc] using e)
     ·cases h
    ·cases h
   ·cases h
  ·cases h
theorem eqT_run {t:TypeId} {ks:List Lf} {cs ds:List V} {x y:Value} {b:Bool} (h:eqT P t=some ks) (hx:Rep F (.agg cs) x) (hy:Rep F (.agg ds) y) (e:jda ks cs ds=some b) (w:World):
  (Op.equal t x y).run P w= .ok b w/\∃xs ys,x= .agg xs/\y= .agg ys/\P.eqGuardType P.depth t=false:=by
 unfold eqT at h;split at h
 ·rename_i fs hu;split at h
  ·rename_i hg;obtain ⟨l1,l2⟩:=jm0 e;have h':=h;simp only[flatT,hu] at h';split at h'
   ·rename_i ha;split at h'
    ·rename_i ks' hks;split at h'
     ·rename_i hc;cases h';obtain ⟨xs,rfl,hx1⟩:=jm2 hx;obtain ⟨ys,rfl,hy1⟩:=jm2 hy;refine ⟨?_,xs,ys,rfl,rfl,hg⟩;refine eq_flat 8 h (d:=10000) om (cs:=cs) (ds:=ds) ?_ ?_ hx1.one hy1.one hx hy ?_
      ·rw[ldV,ha.2]; simp only; rw[jn2 om,List.take_of_length_le om]; rfl
      ·rw[ldV,ha.2]; simp only; rw[jn2 om,List.take_of_length_le om]; rfl
      ·rw[List.take_of_length_le om,List.take_of_length_le om]; exact e
     ·cases h'
    ·cases h'
   ·cases h'
  ·cases h
 ·cases h
theorem binV_run {op:BinOp} {t:TypeId} {x y:V} {v:V} {a b:Value} (ha:Rep F x a) (hb:Rep F y b) (e:binV P op t x y=some v) (w:World):
  ∃r,(binOp op t a b).run P w= .ok r w/\Rep F v r/\∀(ox oy:Operand),(eqGuard op t ox oy a b).run P w= .ok () w:=by
 unfold binV at e;split at e
 ·-- ints
  have:=ja8 ha; subst this;have:=ja8 hb; subst this;split at e
  ·unfold shV at e;split at e
   ·rename_i hn;cases e;exact zb1
   ·cases e
  ·unfold shV at e;split at e
   ·rename_i hn;cases e;exact zb1
   ·cases e
  split at e
  ·rename_i hk;subst hk;obtain ⟨r,rfl,hr⟩:=intOp_run (P:=P) e t w;exact ⟨r,hr,.val _,fun ox oy=>by unfold eqGuard; split <;> rfl⟩
  ·cases e
 ·-- bools
  have:=ja8 ha; subst this;have:=ja8 hb; subst this;split at e
  ·rename_i hu;rcases jjn e with ⟨rfl,rfl⟩ | ⟨rfl,rfl⟩
   ·exact ⟨_,jil (equal_bool (boolB_true hu) _ _ w) rfl,.val _,fun ox oy=>by simp[eqGuard]⟩
   ·exact ⟨_,jik (equal_bool (boolB_true hu) _ _ w) rfl,.val _,fun ox oy=>by simp[eqGuard]⟩
  ·cases e
 ·-- strings
  have:=jbg ha; subst this;have:=jbg hb; subst this;obtain ⟨r,hr,hv⟩:=strOp_run (P:=P) (F:=F) e t w;exact ⟨r,hr,hv,fun ox oy=>by unfold eqGuard; split <;> rfl⟩
 ·-- a slice that is not empty,against nil
  have:=ja8 hb; subst this;split at e
  ·rename_i hu;obtain ⟨e',hu⟩:=jhn hu;rcases jgl ha with ⟨_,h0⟩ | ⟨ad,cap,g,rfl,_⟩
   ·cases h0
   ·rcases jjn e with ⟨rfl,rfl⟩ | ⟨rfl,rfl⟩
    ·exact zec
    ·exact zed
  ·cases e
 ·have:=ja8 ha; subst this;have:=ja8 hb; subst this;split at e
  ·rename_i hu;obtain ⟨e',hu⟩:=jhn hu;rcases jjn e with ⟨rfl,rfl⟩ | ⟨rfl,rfl⟩
   ·exact zec
   ·exact zed
  ·cases e
 ·have:=ja8 hb; subst this;split at e
  ·rename_i hu;obtain ⟨ms,hu⟩:=ifcB_true hu;cases ha with
   | ifc u x=>
    rcases jjn e with ⟨rfl,rfl⟩ | ⟨rfl,rfl⟩
    ·exact ⟨_,jil (jqi hu _ _ w) rfl,.val _,fun ox oy=>by simp[eqGuard]⟩
    ·exact ⟨_,jik (jqi hu _ _ w) rfl,.val _,fun ox oy=>by simp[eqGuard]⟩
  ·cases e
 ·split at e
  ·rename_i ks hks;split at e
   ·rename_i b hb';obtain ⟨h1,xs,ys,rfl,rfl,hg⟩:=eqT_run hks ha hb hb' w;rcases jjn e with ⟨rfl,rfl⟩ | ⟨rfl,rfl⟩
    ·exact ⟨_,jil h1 rfl,.val _,fun ox oy=>run_eqGuard_agg w _ t ox oy xs ys hg⟩
    ·exact ⟨_,jik h1 rfl,.val _,fun ox oy=>run_eqGuard_agg w _ t ox oy xs ys hg⟩
   ·cases e
  ·cases e
 ·cases e
theorem nilIface_run {op:BinOp} {t:TypeId} {v:V} (hu:ifcB P t=true) (e:eqOp op true=some v) (w:World) (c:Value):
  ∃r,(binOp op t .nilIface .nilIface).run P w= .ok r w/\Rep F v r/\∀(ox:Operand),(eqGuard op t ox (.const c) .nilIface .nilIface).run P w= .ok () w:=by
 obtain ⟨ms,hu⟩:=ifcB_true hu;rcases jjn e with ⟨rfl,rfl⟩ | ⟨rfl,rfl⟩
 ·exact ⟨_,jil (jqh hu w) rfl,.val _,fun ox=>by simp[eqGuard]⟩
 ·exact ⟨_,jik (jqh hu w) rfl,.val _,fun ox=>by simp[eqGuard]⟩
theorem nums_rep {v:V} {x:Value} {n:Int} (h:Rep F v x) (e:nums v=some n):∃k,x= .int k n:=by
 unfold nums at e;split at e
 ·cases e; exact ⟨_,ja8 h⟩
 ·cases e
theorem jlp {k:IntKind} {i:Int} {y:Nat} (h0:0<=i) (h1:i<=y) (c:BoundsCode) (w:World):(Instr.sliceBound (.int k i) y c).run P w= .ok i.toNat w:=by
 simp[Instr.sliceBound,asIntOf,h0,h1]
theorem jmx {n:Nat} {lo hi:Option V} {a b:Nat} (e:cutV n lo hi=some (a,b)):
  a<=b/\b<=n/\(match hi with | none=>b=n | some v=>nums v=some (b:Int))/\(match lo with | none=>a=0 | some v=>nums v=some (a:Int)):=by
 unfold cutV at e;split at e
 ·rename_i hv lv hh hl;split at e
  ·rename_i hc;simp only[Option.some.injEq,Prod.mk.injEq] at e;obtain ⟨rfl,rfl⟩:=e;refine ⟨om,om,?_,?_⟩
   ·cases hi with
    | none=>simp at hh; subst hh; simp
    | some v=>simp only at hh ⊢; rw[hh]; simp; omega
   ·cases lo with
    | none=>simp at hl; subst hl; simp
    | some v=>simp only at hl ⊢; rw[hl]; simp; omega
  ·cases e
 ·cases e
def OptRep (F:Frz):Option V->Option Value->Prop
 | none,none=>True
 | some v,some x=>Rep F v x
 | _,_=>False
theorem jml {n cap a b:Nat} {isS:Bool} {lo hi:Option V} {lo' hi':Option Value} (e:cutV n lo hi=some (a,b)) (hcap:n<=cap)
  (hlo:OptRep F lo lo')
  (hhi:OptRep F hi hi') (w:World):
  (Instr.sliceBounds isS n cap lo' hi' none).run P w= .ok (a,b,cap) w:=by
 obtain ⟨h1,h2,h3,h4⟩:=jmx e;unfold Instr.sliceBounds;cases hi with
 | none=>
  cases hi' with
  | some x=>exact hhi.elim
  | none=>
   simp only at h3;subst h3;cases lo with
   | none=>
    cases lo' with
    | some x=>exact hlo.elim
    | none=>simp only at h4; subst h4; simp
   | some v=>
    cases lo' with
    | none=>exact hlo.elim
    | some x=>
     obtain ⟨k,rfl⟩:=nums_rep hlo h4;simp[Result.andThen,jlp (P:=P) (k:=k) (i:=(a:Int)) (y:=b) om om]
 | some vh=>
  cases hi' with
  | none=>exact hhi.elim
  | some xh=>
   obtain ⟨kh,rfl⟩:=nums_rep hhi h3;cases lo with
   | none=>
    cases lo' with
    | some x=>exact hlo.elim
    | none=>
     simp only at h4; subst h4;simp[Result.andThen,jlp (P:=P) (k:=kh) (i:=(b:Int)) (y:=cap) om om]
   | some v=>
    cases lo' with
    | none=>exact hlo.elim
    | some x=>
     obtain ⟨k,rfl⟩:=nums_rep hlo h4;simp[Result.andThen,jlp (P:=P) (k:=kh) (i:=(b:Int)) (y:=cap) om om,jlp (P:=P) (k:=k) (i:=(a:Int)) (y:=b) om om]
theorem jmq (G:Good F w ρ h ρa ρc) {x:Option Operand} {v:Option V} (e:optV ρa x=some v):
  OptRep F v (x.map ρc):=by
 cases x with
 | none=>simp[optV] at e; subst e; trivial
 | some o=>
  simp only[optV,msi] at e;obtain ⟨v',h1,rfl⟩:=e;exact G.v h1
theorem sliceV_run {t:TypeId} {x:V} {lo hi:Option V} {v:V} {y:Value} {lo' hi':Option Value} (hx:Rep F x y) (e:sliceV P t x lo hi=some v)
  (hlo:OptRep F lo lo')
  (hhi:OptRep F hi hi') (w:World):
  ∃r,(Instr.sliceAt t y lo' hi' none).run P w= .ok r w/\Rep F v r:=by
 unfold sliceV at e;split at e
 ·rename_i l;split at e
  ·rename_i hs;simp only[msi] at e;obtain ⟨⟨a,b⟩,hc,rfl⟩:=e;have:=jbg hx; subst this;have hb:=jml (P:=P) (F:=F) (isS:=false) (cap:=l.length) hc (Nat.le_refl _) hlo hhi w;obtain ⟨h1,h2,_,_⟩:=jmx hc;refine ⟨.string ((⟨l.toArray⟩:ByteArray).extract a b),?_,?_⟩
   ·simp[Instr.sliceAt,run_underlying (jjh hs),Result.andThen,Instr.slice,size_mk,hb]
   ·have:((⟨l.toArray⟩:ByteArray).extract a b)=⟨((l.take b).drop a).toArray⟩:=by
     apply WideShapes.bytes_inj;simp[ByteArray.data_extract,List.extract_eq_take_drop,List.drop_take]
    rw[this];exact .str _
  ·cases e
 ·rename_i size es;split at e
  ·rename_i hs;simp only[msi] at e;obtain ⟨⟨a,b⟩,hc,rfl⟩:=e;simp only[msi] at hs;obtain ⟨⟨e',n⟩,hsl,rfl⟩:=hs;obtain ⟨hu,hsz,hz⟩:=jdp hsl;simp only at *;obtain ⟨inf,hi0⟩:=jf9 (P:=P) (t:=e') om;obtain ⟨h1,h2,_,_⟩:=jmx hc;rcases jgl hx with ⟨rfl,rfl⟩ | ⟨ad,cap,g,rfl,hcap,hm,hss,ho,hg,hr⟩
   ·have hb:=jml (P:=P) (F:=F) (isS:=true) (n:=0) (cap:=0) hc (Nat.le_refl _) hlo hhi w;simp only[List.length_nil] at h2;obtain rfl:b=0:=om
    obtain rfl:a=0:=om
    refine ⟨.slice none 0 0,?_,by simpa using Rep.snil⟩;simp[Instr.sliceAt,run_underlying hu,Result.andThen,Instr.slice,hb,jdm hi0]
   ·have hb:=jml (P:=P) (F:=F) (isS:=true) (n:=es.length) (cap:=cap) hc hcap hlo hhi w;refine ⟨.slice (if cap=a then some ad else some (ad.add (a*n))) (b-a) (cap-a),?_,?_⟩
    ·exact zdy
    ·have hlen:((es.take b).drop a).length=b-a:=by simp; omega
     have hnth:∀(i:Nat) (e:List V),((es.take b).drop a)[i]? = some e->es[a+i]? = some e:=fun i e hi=>by
      rw[List.getElem?_drop,List.getElem?_take] at hi;split at hi
      ·exact hi
      ·cases hi
     have hmem:∀e∈(es.take b).drop a,e∈es:=fun e he=>List.mem_of_mem_take (List.mem_of_mem_drop he);rw[<- hlen];by_cases hca:cap=a
     ·have:(es.take b).drop a=[]:=List.eq_nil_of_length_eq_zero om;rw[if_pos hca,this];exact .slice g sm om sm sm sm sm
     ·rw[if_neg hca];refine .slice (fun i j=>g (a+i) j) om om (fun e he=>hss e (hmem e he)) (fun e he=>ho e (hmem e he)) (fun i j e c h1 h2=> ?_) (fun i j e c h1 h2=>hr _ j e c (hnth i e h1) h2);rw[add_add,<- Nat.add_assoc,<- Nat.add_mul];exact hg _ j e c (hnth i e h1) h2
  ·cases e
 ·cases e
theorem keyEq_now {k k':V} {x x':Value} {b:Bool} {kt:TypeId} {d:TypeDesc} (hk:Rep F k x) (hk':Rep F k' x') (ht:keyT P kt k=true) (hu:P.underlying kt=some d) (e:jel k k'=some b):
  Instr.sameNow d x x'=some b:=by
 unfold jel at e;split at e
 ·rename_i j a k0 b0;split at e
  ·rename_i hjk;cases e;subst hjk;have:=ja8 hk; subst this;have:=ja8 hk'; subst this;unfold keyT at ht;rw[hu] at ht;cases d <;> simp_all [Instr.sameNow]
   rfl
  ·cases e
 ·rename_i a b0;cases e;have:=jbg hk; subst this;have:=jbg hk'; subst this;unfold keyT at ht;rw[hu] at ht;cases d <;> simp_all [Instr.sameNow]
  rw[Bool.eq_iff_iff];simp only[beq_iff_eq];constructor
  ·intro h; exact congrArg (fun b:ByteArray=>b.data.toList) ((MapKept.bytes_beq _ _).1 h)
  ·intro h; subst h; exact (MapKept.bytes_beq _ _).2 rfl
 ·cases e
theorem findV_now {k:V} {x:Value} {kt:TypeId} {d:TypeDesc} (hk:Rep F k x) (ht:keyT P kt k=true) (hu:P.underlying kt=some d):
  ∀(es:List (V×V)) (xs:List MapEntry) (n:Nat) {r:Option V},xs.length=es.length->(∀(j:Nat) k' v y,es[j]? = some (k',v)->xs[j]? = some y->Rep F k' y.key/\Rep F v y.val)->findV k es=some r->
   match r with
   | none=>Instr.findNow d x xs n=some none
   | some v=>∃i y,Instr.findNow d x xs n=some (some (n+i,y.val))/\xs[i]? = some y/\Rep F v y.val
 | [],[],n,r,_,_,e=>by simp[findV] at e; subst e; simp[Instr.findNow]
 | [],_::_,_,_,hl,_,_=>by simp at hl
 | _::_,[],_,_,hl,_,_=>by simp at hl
 | (k',v)::es,y::xs,n,r,hl,hh,e=>by
  obtain ⟨h1,h2⟩:=hh 0 k' v y rfl rfl;simp only[findV] at e;cases hb:jel k k' with
  | none=>rw[hb] at e; cases e
  | some b=>
   rw[hb] at e;have hs:=keyEq_now hk h1 ht hu hb;cases b with
   | true=>
    simp only[Option.some.injEq] at e;subst e;exact ⟨0,y,by simp[Instr.findNow,hs],rfl,h2⟩
   | false=>
    simp only at e;have ih:=findV_now hk ht hu es xs (n+1) zer (fun j k'' v' y' e1 e2=>hh (j+1) k'' v' y' zes zel) e;cases r with
    | none=>simp only at ih ⊢; simp[Instr.findNow,hs,ih]
    | some v'=>
     simp only at ih ⊢;obtain ⟨i,y',h3,h4,h5⟩:=ih;exact ⟨i+1,y',by simp[Instr.findNow,hs,h3,Nat.add_assoc,Nat.add_comm 1 i],by simpa using h4,h5⟩
theorem jnj (em:Bool) (n:Nat) {kt:TypeId} {d:TypeDesc} (hu:P.underlying kt=some d) {k:V} (ht:keyT P kt k=true) (x:Value) (w:World):(Instr.checkKey em (n+1) kt x).run P w= .ok () w:=by
 unfold keyT at ht;rw[hu] at ht;cases d <;> simp_all [Instr.checkKey,run_underlying hu]
theorem jid {b:Nat} {xs:Array MapEntry} {ck:Nat} (h1:w.heap[b]? = some (.map xs ck)):(getObj b).run P w= .ok (.map xs ck) w:=by
 unfold getObj;simp only[Sem.run];rw[h1]
theorem jb1 {s:Sem Value} {y:Value} {w':World} (hr:s.run P w= .ok y w'):(do pure (Next.value (<- s)):Sem Next).run P w= .ok (.value y) w':=by
 simp[hr]
set_option maxHeartbeats 1000000 in
theorem rep_pair {v u:V} {x y:Value} (h1:Rep F v x) (h2:Rep F u y):Rep F (.tup [v,u]) (.tuple #[x,y]):=by
 refine .tup rfl fun j c z e1 e2=> ?_
 match j with
 | 0=>simp at e1 e2; subst e1 e2; exact h1
 | 1=>simp at e1 e2; subst e1 e2; exact h2
 | j+2=>simp at e1
theorem jif {b:Nat} {h:List (Nat×Blk)} {id:Nat} (e:jbo b h=some id):∃k,look id h=some k/\k.nm=some b:=by
 unfold jbo at e;split at e
 ·rename_i i hi;split at e
  ·rename_i hn;cases e;cases hk:look id h with
   | none=>rw[hk] at hn; cases hn
   | some k=>rw[hk] at hn; exact ⟨k,rfl,hn⟩
  ·cases e
 ·cases e
theorem mapE_sound (G:Good F w ρ h ρa ρc) {x:Operand} {es:List (V×V)} (e:mapE h (ρa x)=some es):
  (ρc x= .map none/\es=[])\/∃(b:Nat) (xs:Array MapEntry) (ck:Nat),ρc x= .map (some b)/\w.heap[b]? = some (.map xs ck)/\xs.size=es.length/\
   ∀(j:Nat) k v y,es[j]? = some (k,v)->xs[j]? = some y->Rep F k y.key/\Rep F v y.val:=by
 unfold mapE at e;split at e
 ·rename_i id hx;split at e
  ·rename_i es' hk;cases e;obtain ⟨xs,ck,g1,_,g2,g3⟩:=G.blk id _ hk;exact .inr ⟨_,xs,ck,G.opr x _ hx,g1,g2,g3⟩
  ·cases e
 ·rename_i ks vs hx;cases e;have hr:Rep F (.map ks vs) (ρc x):=G.opr x _ hx;generalize hy:ρc x=y at hr;cases hr with
  | @map _ _ b xs ck0 hb hl hl' hk hv=>
   obtain ⟨ck,g1⟩:=G.sees.m _ _ hb;refine .inr ⟨b,xs,ck,rfl,g1,by simp[List.length_zip]; omega,fun j k v y e1 e2=> ?_⟩;obtain ⟨e3,e4⟩:=List.getElem?_zip_eq_some.1 e1;exact ⟨hk j k y e3 e2,hv j v y e4 e2⟩
 ·rename_i hx;cases e;exact .inl ⟨ja8 (G.opr x _ hx),rfl⟩
 ·rename_i b hx;unfold mapN at e;split at e
  ·rename_i id hid;obtain ⟨k,hk,hb⟩:=jif hid;rw[hk] at e;unfold mapB at e;split at e
   ·rename_i es' nm hke;cases e;cases hke;obtain ⟨xs,ck,g1,_,g2,g3⟩:=G.blk id _ hk;rw[G.nb id _ b hk hb] at g1;exact .inr ⟨b,xs,ck,ja8 (G.opr x _ hx),g1,g2,g3⟩
   ·cases e
  ·cases e
 ·cases e
theorem jpi {b:Bool} {a c:Option V} {v:V} (h:minV b a c=some v):∃k k' m q,a=some (.val (.int k m))/\c=some (.val (.int k' q))/\v= .val (.int k (bif b then (if q<m then q else m) else (if q > m then q else m))):=by
 unfold minV at h;split at h
 ·cases h; exact ⟨_,_,_,_,rfl,rfl,rfl⟩
 ·cases h
theorem jpu (G:Good F w ρ h ρa ρc) (o:Oper) {tv:TV} (e:evq P ρa h o.op=some tv):
  ∃x,(execOp ρc o).run P w= .ok (.value x) w/\RepT F ρ tv x:=by
 obtain ⟨dst,op,ty,pos,after,guard⟩:=o;simp only at e;unfold evq at e;split at e
 ·rename_i x;exact ⟨ρc x,rfl,G.opr x _ (jgt e)⟩
 ·rename_i x;exact ⟨ρc x,rfl,G.opr x _ (jgt e)⟩
 ·rename_i x;split at e
  ·rename_i id off hx;cases e;have hv:ρc x= .pointer (some ⟨ρ id,off,none⟩):=G.opr x _ hx;exact ⟨.pointer (some ⟨ρ id,off,none⟩),by simp[execOp,hv],rfl⟩
  ·rename_i cs hx;cases e;have hr:Rep F (.row cs) (ρc x):=G.opr x _ hx;obtain ⟨a,g,hv,-⟩:=jh2 hr;rw[hv] at hr;exact ⟨.pointer (some a),by simp[execOp,hv],hr⟩
  ·cases e
 ·rename_i c a b;split at e
  ·rename_i t hc;have hv:=ja8 (G.v hc);cases t with
   | true=>exact ⟨ρc a,by simp[execOp,hv,asBool],G.opr a _ (jgt e)⟩
   | false=>exact ⟨ρc b,by simp[execOp,hv,asBool],G.opr b _ (jgt e)⟩
  ·cases e
 ·rename_i t a;simp only[Option.bind_eq_some_iff,msi] at e;obtain ⟨cs,h1,v,h2,rfl⟩:=e;obtain ⟨y,hr,hy⟩:=js2 (P:=P) G h1 h2;exact ⟨y,jb1 hr,hy⟩
 ·rename_i s x f;split at e
  ·rename_i off ft cs h1 h2;cases e;obtain ⟨a,g,hv,hat⟩:=jh2 (show Rep F (.row cs) (ρc x) from G.opr x _ h2);exact ⟨.pointer (some (a.add off)),jb1 (by rw[hv]; exact jo1 h1 a w),rep_row (hat.drop off)⟩
  ·rename_i off ft id o' h1 h2;cases e;have hv:=show ρc x=_ from G.opr x _ h2
   refine ⟨.pointer (some ⟨ρ id,o'+off,none⟩),jb1 ?_,rfl⟩;rw[hv,jo1 h1,jcf]
  ·cases e
 ·rename_i s x f;split at e
  ·rename_i off ft cs h1 h2;simp only[msi] at e;obtain ⟨v,h3,rfl⟩:=e;obtain ⟨fs,fd,hu,hf,rfl,rfl,hz⟩:=fldV_some h1;have hr:=G.v h2;generalize hy0:ρc x=y at hr;cases hr with
   | agg hl ho hh=>
    rename_i xs;obtain ⟨z,hz',hzr⟩:=jn7 (P:=P) (w:=w) hl ho hh h3;exact ⟨z,jb1 (by rw[hy0]; simp[Instr.field,run_underlying hu,hf,asAgg,hz']),hzr⟩
  ·cases e
 ·rename_i t x i;split at e
  ·rename_i n e' size ha;split at e
   ·rename_i id off iv h2 h3;simp only[msi] at e;obtain ⟨q,h4,rfl⟩:=e;unfold idxS at h4;split at h4
    ·rename_i k j;split at h4
     ·rename_i hm;cases h4;have hi:=ja8 (G.v h3);have hv:ρc x= .pointer (some ⟨ρ id,off,none⟩):=G.opr x _ h2;refine ⟨_,jb1 (by rw[hv,hi]; exact jmz ha k j _ hm.1 hm.2 w),?_⟩;rw[jcf];rfl
     ·cases h4
    ·cases h4
   ·rename_i cs iv h2 h3;simp only[msi] at e;obtain ⟨q,h4,rfl⟩:=e;unfold idxS at h4;split at h4
    ·rename_i k j;split at h4
     ·rename_i hm;cases h4;have hi:=ja8 (G.v h3);obtain ⟨a,g,hv,hat⟩:=jh2 (show Rep F (.row cs) (ρc x) from G.opr x _ h2);exact ⟨_,jb1 (by rw[hv,hi]; exact jmz ha k j a hm.1 hm.2 w),rep_row (hat.drop _)⟩
     ·cases h4
    ·cases h4
   ·cases e
  ·
   split at e
   ·rename_i e' n size es iv h1 h2 h3;split at e
    ·rename_i hn;subst hn;simp only[msi] at e;obtain ⟨cs,h4,rfl⟩:=e;unfold idxV at h4;split at h4
     ·rename_i k m;split at h4
      ·rename_i hm;have hi:=ja8 (G.v h3);have hlt:=(gsi.1 h4).1;rcases jgl (show Rep F (.slice n es) (ρc x) from G.opr x _ h2) with ⟨_,h0⟩ | ⟨a,cap,g,hv,hc,hmx,hs,ho,hg,hr⟩
       ·subst h0; simp at hlt
       ·exact ⟨_,jb1 (by rw[hv,hi]; exact jja h1 k m a es.length cap hm om w),rep_row (at_elem ho hg hr h4)⟩
      ·cases h4
     ·cases h4
    ·cases e
   ·rename_i e' n id off m size iv h1 h2 h3;split at e
    ·rename_i hn;subst hn;simp only[msi] at e;obtain ⟨q,h4,rfl⟩:=e;unfold idxS at h4;split at h4
     ·rename_i k j;split at h4
      ·rename_i hm;cases h4;have hi:=ja8 (G.v h3);obtain ⟨cap,hc1,hc2,hc3,hv⟩:=show ∃cap,m<=cap/\cap<=maxLen/\0<m/\ρc x=_ from G.opr x _ h2
       refine ⟨_,jb1 (by rw[hv,hi]; exact jja h1 k j _ m cap hm.1 hm.2 w),?_⟩;rw[jcf];rfl
      ·cases h4
     ·cases h4
    ·cases e
   ·rename_i e' n r off m cap iv h1 h2 h3;split at e
    ·rename_i id hfn;simp only[msi] at e;obtain ⟨q,h4,rfl⟩:=e;unfold idxS at h4;split at h4
     ·rename_i k j;split at h4
      ·rename_i hm;cases h4;have hi:=ja8 (G.v h3);have hv:=ja8 (show Rep F (.val _) (ρc x) from G.opr x _ h2);obtain ⟨kb,z1,z2⟩:=jif hfn;have hρ:=G.nb id kb r z1 z2;refine ⟨_,jb1 (by rw[hv,hi]; exact jja h1 k j _ m cap hm.1 hm.2 w),?_⟩;rw[jcf]
       show _=Value.pointer (some ⟨ρ id,_,none⟩)
       rw[hρ]
      ·cases h4
     ·cases h4
    ·cases e
   ·cases e
 ·rename_i t x i;split at e
  ·rename_i n e' size ha;split at e
   ·rename_i cs iv h2 h3;simp only[Option.bind_eq_some_iff,msi] at e;obtain ⟨q,h4,v,h5,rfl⟩:=e;unfold idxS at h4;split at h4
    ·rename_i k j;split at h4
     ·rename_i hm;cases h4;have hi:=ja8 (G.v h3);obtain ⟨hu,rfl,hz⟩:=arrV_some ha;obtain ⟨inf,hi0⟩:=jf9 hz;have hr:=G.v h2;generalize hy0:ρc x=y at hr;cases hr with
      | agg hl ho hh=>
       rename_i xs;obtain ⟨z,hz',hzr⟩:=jn7 (P:=P) (w:=w) hl ho hh h5;exact ⟨z,jb1 (by rw[hy0,hi]; simp[Instr.index,asIntOf,run_underlying hu,Result.andThen,jdm hi0,hm.1,hm.2,hz']),hzr⟩
     ·cases h4
    ·cases h4
   ·cases e
  ·
   split at e
   ·rename_i l iv h1 h2 h3;simp only[msi] at e;obtain ⟨v,h4,rfl⟩:=e;unfold bytV at h4;split at h4
    ·rename_i k m;split at h4
     ·rename_i hm;simp only[msi] at h4;obtain ⟨b,h5,rfl⟩:=h4;have hi:=ja8 (G.v h3);have hx:=jbg (G.v h2);refine ⟨.int .u8 b.toNat,jb1 ?_,.val _⟩;have hlt:=(gsi.1 h5).1;have hsz:m.toNat<(⟨l.toArray⟩:ByteArray).size:=by rw[size_mk]; exact hlt
      have hb:(⟨l.toArray⟩:ByteArray)[m.toNat]? = some b:=by
       rw[getElem?_pos (⟨l.toArray⟩:ByteArray) m.toNat hsz];have:l[m.toNat]=b:=(gsi.1 h5).2;rw[<- this];rfl
      rw[hi,hx];simp[Instr.index,asIntOf,run_underlying (jjh h1),hm,hb]
     ·cases h4
    ·cases h4
   ·cases e
 ·rename_i t x lo hi;split at e
  ·rename_i xv lov hiv h1 h2 h3;simp only[msi] at e;obtain ⟨v,h4,rfl⟩:=e;obtain ⟨r,hr,hv⟩:=sliceV_run (P:=P) (show Rep F xv (ρc x) from G.opr x _ h1) h4 (jmq G h2) (jmq G h3) w;exact ⟨r,jb1 hr,hv⟩
  ·rename_i id off m size lov hiv h1 h2 h3;split at e
   ·rename_i hs;simp only[msi] at e;obtain ⟨⟨a,b⟩,hc,rfl⟩:=e;simp only[msi] at hs;obtain ⟨⟨e',n⟩,hsl,rfl⟩:=hs;obtain ⟨hu,hsz,hz⟩:=jdp hsl;simp only at *;obtain ⟨inf,hi0⟩:=jf9 (P:=P) (t:=e') om;obtain ⟨g1,g2,_,_⟩:=jmx hc;obtain ⟨cap,hc1,hc2,hc3,hv⟩:=show ∃cap,m<=cap/\cap<=maxLen/\0<m/\ρc x=_ from G.opr x _ h1
    have hb:=jml (P:=P) (F:=F) (isS:=true) (n:=m) (cap:=cap) hc hc1 (jmq G h2) (jmq G h3) w;refine ⟨.slice (if cap=a then some ⟨ρ id,off,none⟩ else some ((⟨ρ id,off,none⟩:Addr).add (a*n))) (b-a) (cap-a),jb1 ?_,?_⟩
    ·rw[hv];exact zdy
    ·simp only[cutS];by_cases hab:a=b
     ·rw[if_pos hab];subst hab;have:(a-a)=([]:List (List V)).length:=by simp
      show Rep F (.slice n []) _
      rw[this];split
      ·exact .slice (fun _ _=>undef) sm om sm sm sm sm
      ·exact .slice (fun _ _=>undef) sm om sm sm sm sm
     ·rw[if_neg hab,if_neg om,jcf];exact ⟨cap-a,om,om,om,rfl⟩
   ·cases e
  ·cases e
 ·rename_i op t x y ty';split at e
  ·rename_i h1 h2;split at e
   ·rename_i c;split at e
    ·rename_i hu;simp only[msi] at e;obtain ⟨v,h3,rfl⟩:=e;have hx:=ja8 (G.v h1);have hy:=ja8 (G.v h2);obtain ⟨r,hr,hv,hg⟩:=nilIface_run (P:=P) (F:=F) hu h3 w c;exact ⟨r,jb1 (by rw[hx,hy]; simp[hg x,hr]),hv⟩
    ·cases e
   ·cases e
  ·rename_i xv yv h1 h2;simp only[msi] at e;obtain ⟨v,h3,rfl⟩:=e;obtain ⟨r,hr,hv,hg⟩:=binV_run (P:=P) (G.v h1) (G.v h2) h3 w;exact ⟨r,jb1 (by simp[hg x y,hr]),hv⟩
  ·cases e
 ·rename_i t x;split at e
  ·rename_i b h1;cases e;have hv:=ja8 (G.v h1);exact ⟨.bool (!b),jb1 (by rw[hv]; rfl),.val _⟩
  ·cases e
 ·rename_i t x;split at e
  ·rename_i k n h1;cases e;have hv:=ja8 (G.v h1);exact ⟨.int k (k.wrap (0-n)),jb1 (by rw[hv]; rfl),.val _⟩
  ·cases e
 ·rename_i t x;split at e
  ·rename_i k n h1;cases e;have hv:=ja8 (G.v h1);exact ⟨.int k (notF k n),jb1 (by rw[hv]; rfl),.val _⟩
  ·cases e
 ·rename_i src dst' x;split at e
  ·rename_i xv h1 h2;simp only[msi] at e;obtain ⟨v,h3,rfl⟩:=e;obtain ⟨ds,hs⟩:=Option.isSome_iff_exists.1 h1;unfold convV at h3;split at h3
   ·rename_i k0 n;split at h3
    ·rename_i k hk;cases h3;have hv:=ja8 (G.v h2);refine ⟨.int k (k.wrap n),jb1 ?_,.val _⟩;rw[hv];simp[convert,run_underlying hs,run_underlying (jms hk),Conv.intToInt]
    ·cases h3
   ·rename_i l;split at h3
    ·rename_i hd;cases h3;have hv:=jbg (G.v h2);refine ⟨.string ⟨l.toArray⟩,jb1 ?_,.str _⟩;rw[hv];simp[convert,run_underlying hs,run_underlying (jjh hd)]
    ·cases h3
   ·cases h3
  ·cases e
 ·rename_i x i;split at e
  ·rename_i vs h1;simp only[msi] at e;obtain ⟨v,h2,rfl⟩:=e;have hr:=G.v h1;generalize hy0:ρc x=y at hr;cases hr with
   | tup hl hh=>
    rename_i xs
    have hlt:i<xs.size:=by
     have:=(gsi.1 h2).1;omega
    exact ⟨xs[i],jb1 (by rw[hy0]; simp[Instr.extract,Array.getElem?_eq_getElem hlt]),hh i v _ h2 (Array.getElem?_eq_getElem hlt)⟩
  ·cases e
 ·rename_i f first cap
  split at e
  ·rename_i h0;simp only[msi] at e;obtain ⟨vs,h1,rfl⟩:=e;obtain ⟨hl,hh⟩:=jry G h1;obtain rfl:first= #[]:=Array.eq_empty_of_size_eq_zero h0
   refine ⟨.func (.func f) #[] (cap.map ρc),jb1 (by simp[Instr.makeFunc]),.func (by simp[hl]) (fun j c x e1 e2=>hh j c x e1 ?_)⟩;rw[<- e2];simp[Array.getElem?_map,List.getElem?_map]
  ·cases e
 ·rename_i t x i ok;split at e
  ·rename_i kt et es k h1 h2 h3;split at e
   ·rename_i z h5;split at e
    ·rename_i hc;simp only[msi] at e;obtain ⟨r,h6,rfl⟩:=e
     have hu:P.underlying t=some (.map kt et):=by
      unfold mapKV at h1;split at h1
      ·rename_i a b hu; cases h1; exact hu
      ·cases h1
     have hz:(zeroValue et).run P w= .ok z w:=by
      unfold jdi at h5;cases hi:P.info? et with
      | none=>rw[hi] at h5; cases h5
      | some inf=>
       rw[hi] at h5;simp only[Option.bind_some] at h5;simp[zeroValue,typeInfo,hi,h5]
     have hkd:∃d,P.underlying kt=some d:=by
      have:=hc.1;unfold keyT at this;cases hd:P.underlying kt with
      | none=>rw[hd] at this; cases k <;> simp at this
      | some d=>exact ⟨d,rfl⟩
     obtain ⟨d,hd⟩:=hkd;have hck:=fun em=>jnj em 9999 hd hc.1 (ρc i) w
     have pair:∀ {v:V} {y:Value} (b:Bool),Rep F v y->Rep F (bif ok then .tup [v,.val (.bool b)] else v) (if ok=true then .tuple #[y,.bool b] else y):=fun {v y} b hr=>by
      cases ok with
      | false=>exact hr
      | true=>exact rep_pair hr (.val _)
     rcases mapE_sound G h2 with ⟨hx,rfl⟩ | ⟨b,xs,ck,hx,g1,g2,g3⟩
     ·simp only[findV,Option.some.injEq] at h6;subst h6;refine ⟨if ok=true then .tuple #[z,.bool false] else z,jb1 ?_,pair false (jkw F z hc.2)⟩;rw[hx];have e0:Instr.findNow d (ρc i) [] 0=some none:=rfl;simp[Instr.lookup,run_underlying hu,hck,Instr.findKey,run_underlying hd,e0,hz]
     ·have hnow:=findV_now (P:=P) (G.v h3) hc.1 hd es xs.toList 0 (by simp[g2]) (fun j k' v y e1 e2=>g3 j k' v y e1 zel) h6;cases r with
      | none=>
       simp only at hnow;refine ⟨if ok=true then .tuple #[z,.bool false] else z,jb1 ?_,pair false (jkw F z hc.2)⟩;rw[hx];simp[Instr.lookup,run_underlying hu,jid g1,hck,Instr.findKey,run_underlying hd,hnow,hz]
      | some v=>
       simp only at hnow;obtain ⟨i',y,e1,e2,e3⟩:=hnow;refine ⟨if ok=true then .tuple #[y.val,.bool true] else y.val,jb1 ?_,pair true e3⟩;rw[hx];simp[Instr.lookup,run_underlying hu,jid g1,hck,Instr.findKey,run_underlying hd,e1]
    ·cases e
   ·cases e
  ·cases e
 ·rename_i c;split at e
  ·rename_i hcal;split at e
   ·rename_i x t h1 h2;simp only[msi] at e;obtain ⟨v,h3,rfl⟩:=e;obtain ⟨y,hr,hy⟩:=lenV_sound (P:=P) (ty:=ty) G h3;have ha:c.args= #[x]:=by apply Array.ext'; simpa using h1
    have hb:c.argTypes= #[t]:=by apply Array.ext'; simpa using h2
    refine ⟨y,?_,hy⟩;simp[execOp,resolve,hcal,ha,hb,invoke,builtin,hr]
   ·cases e
  ·rename_i hcal;split at e
   ·rename_i x y h1;simp only[msi] at e;obtain ⟨v,h3,rfl⟩:=e;obtain ⟨k,k',m,q,g1,g2,rfl⟩:=jpi h3;have ha:c.args= #[x,y]:=by apply Array.ext'; simpa using h1
    have hx:=ja8 (G.v g1);have hy:=ja8 (G.v g2);refine ⟨_,?_,.val _⟩;simp[execOp,resolve,hcal,ha,invoke,builtin,Builtin.min_,Builtin.min2,hx,hy]
   ·cases e
  ·rename_i hcal;split at e
   ·rename_i x y h1;simp only[msi] at e;obtain ⟨v,h3,rfl⟩:=e;obtain ⟨k,k',m,q,g1,g2,rfl⟩:=jpi h3;have ha:c.args= #[x,y]:=by apply Array.ext'; simpa using h1
    have hx:=ja8 (G.v g1);have hy:=ja8 (G.v g2);refine ⟨_,?_,.val _⟩;simp[execOp,resolve,hcal,ha,invoke,builtin,Builtin.max_,Builtin.max2,hx,hy]
   ·cases e
  ·cases e
 ·cases e
def addBlk (F:Frz) (b n:Nat) (xs:Array Value):Frz:= { c:=fun p=>if p.block=b/\p.spot=none/\p.off<n then xs[p.off]? else F p,m:=F.m }
theorem jks (F:Frz) (b n:Nat) (xs:Array Value) (p:Addr):addBlk F b n xs p=if p.block=b/\p.spot=none/\p.off<n then xs[p.off]? else F p:=rfl
theorem jf2 (hF:Sees F w) {b:Nat} {xs:Array MapEntry×Nat} (e:F.m b=some xs):b<w.heap.size:=by
 obtain ⟨ck,h⟩:=hF.m b xs e;rcases Nat.lt_or_ge b w.heap.size with hlt | hge
 ·exact hlt
 ·rw[Array.getElem?_eq_none hge] at h; cases h
theorem nomap (hF:Sees F w) {b:Nat} {xs:Array Value} {t:TypeId} {fz:Nat×Nat} (h:w.heap[b]? = some (.cells xs t fz)):F.m b=none:=by
 cases e:F.m b with
 | none=>rfl
 | some ys=>obtain ⟨ck,h2⟩:=hF.m b ys e; rw[h] at h2; cases h2
theorem nomap_new (hF:Sees F w):F.m w.heap.size=none:=by
 cases e:F.m w.heap.size with
 | none=>rfl
 | some ys=>exact absurd (jf2 hF e) (Nat.lt_irrefl _)
theorem ext_alloc (hF:Sees F w) (n:Nat) (xs:Array Value) (e:TypeId):Ext F w (addBlk F w.heap.size n xs) (w.alloc (.cells xs e)):=by
 have hno:∀p v,F p=some v->p.block<w.heap.size:=fun p v hp=>jj1 (hF p v hp);refine ⟨⟨fun p v hp=> ?_,fun _ _ e=>e⟩,⟨fun p v hp=> ?_,fun b xs e=> ?_⟩,fun p v hp=> ?_,fun _ _ e=> .inl e,(Below.refl _ _).alloc (Nat.le_refl _) _⟩
 ·have:=hno p v hp;rw[jks,if_neg om];exact hp
 ·rw[jks] at hp;split at hp
  ·rename_i hb;obtain ⟨b,o,s⟩:=p;simp only at hb hp;obtain ⟨rfl,rfl,_⟩:=hb
   have:(w.alloc (.cells xs e)).heap[w.heap.size]? = some (.cells xs e (0,0)):=by
    show (w.heap.push _)[w.heap.size]? = _
    simp
   unfold World.cell?;rw[this];simp[hp]
  ·have:=hF p v hp;rw[World.cell?_of_block (w:=w) (Below.heap_alloc w _ _ (hno p v hp))];exact this
 ·obtain ⟨ck,h⟩:=hF.m b xs e;exact ⟨ck,(Below.heap_alloc w _ _ (jf2 hF e)).trans h⟩
 ·rw[jks] at hp;split at hp
  ·rename_i hb; right; omega
  ·exact .inl hp
def oneV:V->Bool
 | .agg _=>true
 | v=>v.one
theorem jj8 {v:V} {x:Value} (hr:Rep F v x) (ho:oneV v=true):
  x.cells.size=v.cells.length/\(∀c∈v.cells,c.one=true)/\∀(j:Nat) c y,v.cells[j]? = some c->x.cells[j]? = some y->Rep F c y:=by
 cases hr with
 | agg hl hone hh=>exact ⟨hl,hone,hh⟩
 | tup hl hh=>cases ho
 | val=>
  have hu:x.cells= #[x]:=by cases x <;> first | rfl | (simp[oneV,V.one,Value.oneCell'] at ho)
  refine ⟨by simp[hu,V.cells],fun c hc=>by simp[V.cells] at hc; subst hc; exact ho,fun j c y h1 h2=> ?_⟩;rw[hu] at h2;cases j with
  | zero=>simp[V.cells] at h1 h2; subst h1 h2; exact .val _
  | succ j=>simp[V.cells] at h1
 | str l=>
  refine ⟨rfl,fun c hc=>by simp[V.cells] at hc; subst hc; rfl,fun j c y h1 h2=> ?_⟩;cases j with
  | zero=>simp[V.cells,Value.cells] at h1 h2; subst h1 h2; exact .str _
  | succ j=>simp[V.cells] at h1
 | snil=>
  refine ⟨rfl,fun c hc=>by simp[V.cells] at hc; subst hc; rfl,fun j c y h1 h2=> ?_⟩;cases j with
  | zero=>simp[V.cells,Value.cells] at h1 h2; subst h1 h2; exact .snil
  | succ j=>simp[V.cells] at h1
 | slice g hc hm hs ho' hg hr=>
  refine ⟨rfl,fun c hc=>by simp[V.cells] at hc; subst hc; rfl,fun j c y h1 h2=> ?_⟩;cases j with
  | zero=>simp[V.cells,Value.cells] at h1 h2; subst h1 h2; exact .slice g hc hm hs ho' hg hr
  | succ j=>simp[V.cells] at h1
 | row g ho' hg hr=>
  refine ⟨rfl,fun c hc=>by simp[V.cells] at hc; subst hc; rfl,fun j c y h1 h2=> ?_⟩;cases j with
  | zero=>simp[V.cells,Value.cells] at h1 h2; subst h1 h2; exact .row g ho' hg hr
  | succ j=>simp[V.cells] at h1
 | func hl hh=>
  refine ⟨rfl,fun c hc=>by simp[V.cells] at hc; subst hc; rfl,fun j c y h1 h2=> ?_⟩;cases j with
  | zero=>simp[V.cells,Value.cells] at h1 h2; subst h1 h2; exact .func hl hh
  | succ j=>simp[V.cells] at h1
 | ifc t u=>
  refine ⟨rfl,fun c hc=>by simp[V.cells] at hc; subst hc; rfl,fun j c y h1 h2=> ?_⟩;cases j with
  | zero=>simp[V.cells,Value.cells] at h1 h2; subst h1 h2; exact .ifc _ _
  | succ j=>simp[V.cells] at h1
 | map hb hl hl' hk hv=>
  refine ⟨rfl,fun c hc=>by simp[V.cells] at hc; subst hc; rfl,fun j c y h1 h2=> ?_⟩;cases j with
  | zero=>simp[V.cells,Value.cells] at h1 h2; subst h1 h2; exact .map hb hl hl' hk hv
  | succ j=>simp[V.cells] at h1
theorem lay_get (xs:Array Value) (off:Nat):∀(l:List Value) (k:Nat) (i:Nat),off+k+l.length<=xs.size->
  ((l.zipIdx k).foldl (fun cs (c,j)=>cs.setIfInBounds (off+j) c) xs)[i]? = if off+k<=i/\i<off+k+l.length then l[i-(off+k)]? else xs[i]? := by
 intro l
 induction l generalizing xs with
 | nil=>intro k i _; simp; intro h1 h2; omega
 | cons c l ih=>
  intro k i hb;simp only[List.zipIdx_cons,List.foldl_cons,List.length_cons] at hb ⊢;rw[ih (xs.setIfInBounds (off+k) c) (k+1) i zei];by_cases h1:off+(k+1)<=i/\i<off+(k+1)+l.length
  ·rw[if_pos h1,if_pos om];have:i-(off+k)=(i-(off+(k+1)))+1:=om
   rw[this,List.getElem?_cons_succ]
  ·rw[if_neg h1];by_cases h2:i=off+k
   ·subst h2;rw[if_pos om];have hlt:off+k<xs.size:=om
    simp[hlt]
   ·rw[if_neg om,Array.getElem?_setIfInBounds_ne om]
theorem lay_size (xs:Array Value) (off:Nat):∀(l:List Value) (k:Nat),((l.zipIdx k).foldl (fun cs (c,j)=>cs.setIfInBounds (off+j) c) xs).size=xs.size:=by
 intro l
 induction l generalizing xs with
 | nil=>intro k; rfl
 | cons c l ih=>intro k; simp only[List.zipIdx_cons,List.foldl_cons]; rw[ih]; simp
def jbi (cs:List V) (off:Nat) (news:List V):List V:=cs.take off++news++cs.drop (off+news.length)
theorem jfa {cs:List V} {off:Nat} {news:List V} (hb:off+news.length<=cs.length) (i:Nat):
  (jbi cs off news)[i]? = if off<=i/\i<off+news.length then news[i-off]? else cs[i]? := by
 unfold jbi;by_cases h1:i<off
 ·rw[if_neg om,List.append_assoc,List.getElem?_append_left zei,List.getElem?_take,if_pos h1]
 ·by_cases h2:i<off+news.length
  ·rw[if_pos om,List.append_assoc,List.getElem?_append_right zei,List.getElem?_append_left zei];congr 1;simp; omega
  ·rw[if_neg om,List.append_assoc,List.getElem?_append_right zei,List.getElem?_append_right zei,List.getElem?_drop];congr 1;simp; omega
theorem jj7 {cs:List V} {off:Nat} {news:List V} (hb:off+news.length<=cs.length):(jbi cs off news).length=cs.length:=by
 unfold jbi; simp; omega
def jgg (pl:Nat->Option (Nat×Nat)):List V->List (Nat×V)->Option (List V)
 | cs,[]=>some cs
 | cs,(i,v)::r=>match pl i with
  | none=>none
  | some (off,size)=>if v.cells.length=size/\off+size<=cs.length/\oneV v=true then jgg pl (jbi cs off v.cells) r else none
theorem jo0 (pl:Nat->Option (Nat×Nat)):∀(ps:List (Nat×V)) (qs:List (Nat×Value)) (cs r:List V) (xs:Array Value),
  xs.size=cs.length->(∀c∈cs,c.one=true)->(∀(j:Nat) c y,cs[j]? = some c->xs[j]? = some y->Rep F c y)->
  qs.length=ps.length->(∀(j:Nat) i v i' y,ps[j]? = some (i,v)->qs[j]? = some (i',y)->i'=i/\Rep F v y)->jgg pl cs ps=some r->
  ∃ys,Instr.fill pl xs qs=some ys/\ys.size=r.length/\(∀c∈r,c.one=true)/\∀(j:Nat) c y,r[j]? = some c->ys[j]? = some y->Rep F c y
 | [],[],cs,r,xs,h1,h2,h3,_,_,e=>by
  simp only[jgg,Option.some.injEq] at e;subst e;exact ⟨xs,rfl,h1,h2,h3⟩
 | [],_::_,_,_,_,_,_,_,hl,_,_=>by simp at hl
 | _::_,[],_,_,_,_,_,_,hl,_,_=>by simp at hl
 | (i,v)::ps,(i',x)::qs,cs,r,xs,h1,h2,h3,hl,hh,e=>by
  obtain ⟨rfl,hr⟩:=hh 0 i v i' x rfl rfl;simp only[jgg] at e;cases hp:pl i' with
  | none=>rw[hp] at e; cases e
  | some os=>
   obtain ⟨off,size⟩:=os;rw[hp] at e;simp only at e;split at e
   ·rename_i hc;obtain ⟨c1,c2,c3⟩:=hc;obtain ⟨s1,s2,s3⟩:=jj8 hr c3;subst c1;have hlen:x.cells.toList.length=v.cells.length:=by simpa using s1
    have hfill:Instr.fill pl xs ((i',x)::qs)=Instr.fill pl (x.cells.zipIdx.foldl (fun cs (c,j)=>cs.setIfInBounds (off+j) c) xs) qs:=by
     simp only[Instr.fill,hp];rw[if_neg zei]
    have hfold:x.cells.zipIdx.foldl (fun cs (c,j)=>cs.setIfInBounds (off+j) c) xs=(x.cells.toList.zipIdx 0).foldl (fun cs (c,j)=>cs.setIfInBounds (off+j) c) xs:=by
     rw[<- Array.foldl_toList];simp
    rw[hfill,hfold];have hget:=fun i=>lay_get xs off x.cells.toList 0 i zei;refine jo0 pl ps qs _ r _ (by rw[lay_size,jj7 c2]; exact h1) ?_ ?_ zer (fun j a b c d e1 e2=>hh (j+1) a b c d zes zel) e
    ·intro c hc;obtain ⟨j,hj⟩:=List.getElem?_of_mem hc;rw[jfa c2] at hj;split at hj
     ·exact s2 c (List.mem_of_getElem? hj)
     ·exact h2 c (List.mem_of_getElem? hj)
    ·intro j c y e1 e2;rw[hget] at e2;rw[jfa c2] at e1;simp only[Nat.add_zero,hlen] at e2;split at e1
     ·rename_i hin;rw[if_pos hin] at e2;exact s3 _ c y e1 zel
     ·rename_i hin;rw[if_neg hin] at e2;exact h3 j c y e1 e2
   ·cases e
def jfm (ρ:Operand->Option TV):List (Nat×Operand)->Option (List (Nat×V))
 | []=>some []
 | (i,x)::r=>match vOf (ρ x),jfm ρ r with
  | some v,some vs=>some ((i,v)::vs)
  | _,_=>none
theorem jnm (G:Good F w ρ h ρa ρc):∀ {l:List (Nat×Operand)} {vs:List (Nat×V)},jfm ρa l=some vs->
  (l.map fun (i,x)=>(i,ρc x)).length=vs.length/\∀(j:Nat) i v i' x,vs[j]? = some (i,v)->(l.map fun (i,x)=>(i,ρc x))[j]? = some (i',x)->i'=i/\Rep F v x
 | [],vs,e=>by simp[jfm] at e; subst e; simp
 | (i,x)::r,vs,e=>by
  simp only[jfm] at e;split at e
  ·rename_i v vs' h1 h2;cases e;obtain ⟨hl,hh⟩:=jnm G h2;refine ⟨by simpa using hl,fun j a b c d e1 e2=> ?_⟩;cases j with
   | zero=>
    simp only[List.getElem?_cons_zero,Option.some.injEq,List.map_cons,Prod.mk.injEq] at e1 e2;obtain ⟨rfl,rfl⟩:=e1;obtain ⟨rfl,rfl⟩:=e2;exact ⟨rfl,G.v h1⟩
   | succ j=>
    simp only[List.getElem?_cons_succ,List.map_cons] at e1 e2;exact hh j a b c d e1 e2
  ·cases e
def placesV (P:Program) (t:TypeId):Option (List (Nat×Nat)):=
 match P.underlying t with
 | some (.struct fs)=>fs.toList.mapM fun f=>(P.info? f.type).map fun i=>(f.offset,i.size)
 | some (.array n e)=>(P.info? e).map fun i=>(List.range n).map fun j=>(j*i.size,i.size)
 | _=>none
theorem fillV_mono {pl pl':Nat->Option (Nat×Nat)} (hp:∀i x,pl i=some x->pl' i=some x):∀(ps:List (Nat×V)) (cs r:List V),jgg pl cs ps=some r->jgg pl' cs ps=some r
 | [],cs,r,e=>e
 | (i,v)::ps,cs,r,e=>by
  simp only[jgg] at e ⊢;cases h1:pl i with
  | none=>rw[h1] at e; cases e
  | some q=>
   obtain ⟨off,size⟩:=q;rw[h1] at e;rw[hp i _ h1];simp only at e ⊢;split at e
   ·rename_i hc;rw[if_pos hc];exact fillV_mono hp ps _ r e
   ·cases e
def jey (P:Program) (t:TypeId):Option (List V):=(jdi P t).bind fun z=>if okVal z=true/\oneV (ofVal z)=true then some (ofVal z).cells else none
def bsV (size:Nat):List (Nat×V)->Nat->Option (List (List V))
 | [],_=>some []
 | (i,v)::r,k=>if i=k/\v.cells.length=size/\oneV v=true then (bsV size r (k+1)).map (v.cells :: ·) else none
def evb (P:Program) (ρ:Operand->Option TV) (o:Op):Option V:=
 match o with
 | .build t parts=>match placesV P t,jey P t,jfm ρ parts.toList with
  | some pl,some zs,some ps=>(jgg (pl[·]?) zs ps).map .agg
  | _,_,_=>none
 | .buildSlice t len parts=>match slV P t,jfm ρ parts.toList with
  | some (e,size),some ps=>if ps.length=len/\len*size<=16777216/\(jdi P e).isSome=true then (bsV size ps 0).map (.slice size) else none
  | _,_=>none
 | _=>none
theorem jk9 {t:TypeId} {zs:List V} (e:jey P t=some zs):
  ∃z,(zeroValue t).run P w= .ok z w/\z.cells.size=zs.length/\(∀c∈zs,c.one=true)/\∀(j:Nat) c y,zs[j]? = some c->z.cells[j]? = some y->Rep F c y:=by
 unfold jey at e;simp only[Option.bind_eq_some_iff] at e;obtain ⟨z,hz,e⟩:=e;split at e
 ·rename_i hc;cases e;obtain ⟨h1,h2,h3⟩:=jj8 (jkw F z hc.1) hc.2;refine ⟨z,?_,h1,h2,h3⟩;unfold jdi at hz;cases hi:P.info? t with
  | none=>rw[hi] at hz; cases hz
  | some inf=>
   rw[hi] at hz;simp only[Option.bind_some] at hz;simp[zeroValue,typeInfo,hi,hz]
 ·cases e
theorem bs_fill (size:Nat):∀(ps:List (Nat×V)) (qs:List (Nat×Value)) (k:Nat) (es:List (List V)) (xs:Array Value),
  qs.length=ps.length->(∀(j:Nat) i v i' y,ps[j]? = some (i,v)->qs[j]? = some (i',y)->i'=i/\Rep F v y)->bsV size ps k=some es->(k+ps.length)*size=xs.size->
  ∃ys,Instr.fill (fun i=>some (i*size,size)) xs qs=some ys/\ys.size=xs.size/\es.length=ps.length/\(∀e∈es,e.length=size)/\(∀e∈es,∀c∈e,c.one=true)/\
   (∀i,i<k*size->ys[i]? = xs[i]?)/\∀(i j:Nat) e c,es[i]? = some e->e[j]? = some c->∃y,ys[(k+i)*size+j]? = some y/\Rep F c y
 | [],[],k,es,xs,_,_,e,_=>by
  simp only[bsV,Option.some.injEq] at e;subst e;exact ⟨xs,rfl,rfl,rfl,sm,sm,fun _ _=>rfl,sm⟩
 | [],_::_,_,_,_,hl,_,_,_=>by simp at hl
 | _::_,[],_,_,_,hl,_,_,_=>by simp at hl
 | (i,v)::ps,(i',x)::qs,k,es,xs,hl,hh,e,hsz=>by
  obtain ⟨rfl,hr⟩:=hh 0 i v i' x rfl rfl;simp only[bsV] at e;split at e
  ·rename_i hc;obtain ⟨rfl,c2,c3⟩:=hc;simp only[msi] at e;obtain ⟨es',he',rfl⟩:=e;obtain ⟨s1,s2,s3⟩:=jj8 hr c3;have hlen:x.cells.toList.length=size:=by simpa [c2] using s1
   have hxs:x.cells.size=size:=by simpa using hlen
   have hbig:i'*size+size<=xs.size:=by
    rw[<- hsz];simp only[List.length_cons];have:(i'+(ps.length+1))*size=i'*size+ps.length*size+size:=by rw[Nat.add_mul,Nat.add_mul]; omega
    omega
   have hfold:x.cells.zipIdx.foldl (fun cs (c,j)=>cs.setIfInBounds (i'*size+j) c) xs=(x.cells.toList.zipIdx 0).foldl (fun cs (c,j)=>cs.setIfInBounds (i'*size+j) c) xs:=by
    rw[<- Array.foldl_toList];simp
   have hfill:Instr.fill (fun i=>some (i*size,size)) xs ((i',x)::qs)=Instr.fill (fun i=>some (i*size,size)) ((x.cells.toList.zipIdx 0).foldl (fun cs (c,j)=>cs.setIfInBounds (i'*size+j) c) xs) qs:=by
    simp only[Instr.fill];rw[if_neg (by simp[hxs]; omega),hfold]
   have hget:=fun i=>lay_get xs (i'*size) x.cells.toList 0 i om;have hm1:(i'+1)*size=i'*size+size:=by rw[Nat.add_mul]; omega
   obtain ⟨ys,h1,h2,h3,h4,h5,h6,h7⟩:=bs_fill size ps qs (i'+1) es' ((x.cells.toList.zipIdx 0).foldl (fun cs (c,j)=>cs.setIfInBounds (i'*size+j) c) xs) zer (fun j a b c d e1 e2=>hh (j+1) a b c d zes zel) he'
    (by rw[lay_size,<- hsz]; simp only[List.length_cons]; congr 1; omega)
   rw[lay_size] at h2;refine ⟨ys,by rw[hfill,h1],h2,by simp[h3],?_,?_,?_,?_⟩
   ·intro e he;rcases List.mem_cons.1 he with rfl | he
    ·exact c2
    ·exact h4 e he
   ·intro e he;rcases List.mem_cons.1 he with rfl | he
    ·exact s2
    ·exact h5 e he
   ·intro i hi;rw[h6 i om,hget];rw[if_neg om]
   ·intro a j e c e1 e2;cases a with
    | zero=>
     simp only[List.getElem?_cons_zero,Option.some.injEq] at e1;subst e1
     have hj:j<size:=by
      have:=(gsi.1 e2).1;omega
     have hjx:j<x.cells.toList.length:=om
     refine ⟨x.cells.toList[j],?_,s3 j c _ e2 (by simp[hxs,hj])⟩;rw[h6 _ (by simp only[Nat.add_zero]; omega),hget,if_pos (by simp only[Nat.add_zero]; omega)];simp[hxs,hj]
    | succ a=>
     simp only[List.getElem?_cons_succ] at e1;obtain ⟨y,hy,hry⟩:=h7 a j e c e1 e2;refine ⟨y,?_,hry⟩;rw[<- hy];congr 2;congr 1;omega
  ·cases e
theorem bs_sound (G:Good F w ρ h ρa ρc) (o:Oper) {t:TypeId} {len:Nat} {parts:Array (Nat×Operand)} {v:V} (ho:o.op= .buildSlice t len parts) (e:evb P ρa o.op=some v):
  ∃x F' w',(execOp ρc o).run P w= .ok (.value x) w'/\Ext F w F' w'/\Rep F' v x/\
   ∃e' size ys,slV P t=some (e',size)/\x= .slice (some ⟨w.heap.size,0,none⟩) len len/\len<=maxLen/\w'=w.alloc (.cells ys e')/\ys.size=len*size/\∀p v,F' p=some v->p.block=w.heap.size->p.off<len*size:=by
 obtain ⟨dst,op,ty,pos,after,guard⟩:=o;simp only at ho;subst ho;unfold evb at e;simp only at e;split at e
 ·rename_i e' size ps h1 h2;split at e
  ·rename_i hc;simp only[msi] at e;obtain ⟨es,h4,rfl⟩:=e;obtain ⟨hu,hsz,hz⟩:=jdp h1;obtain ⟨inf,hi⟩:=jf9 (P:=P) (t:=e') om;obtain ⟨p1,p2⟩:=jnm G h2;have hmap:(parts.map fun (i,x)=>(i,ρc x)).toList=parts.toList.map fun (i,x)=>(i,ρc x):=by simp
   have key:∀(xs:Array Value),xs.size=len*size->∃ys F',Instr.fill (fun i=>some (i*size,size)) xs (parts.toList.map fun (i,x)=>(i,ρc x))=some ys/\
     Ext F w F' (w.alloc (.cells ys e'))/\Rep F' (.slice size es) (.slice (some ⟨w.heap.size,0,none⟩) len len)/\len<=maxLen/\ys.size=len*size/\∀p v,F' p=some v->p.block=w.heap.size->p.off<len*size:=by
    intro xs hxs;obtain ⟨ys,y1,y2,y3,y4,y5,_,y7⟩:=bs_fill (F:=F) size ps _ 0 es xs p1 p2 h4 (by rw[hxs,hc.1]; simp);have hx:=ext_alloc (w:=w) G.sees ys.size ys e';have hl:es.length=len:=by rw[y3]; exact hc.1
    have hlm:len<=maxLen:=by
     have:len*1<=len*size:=Nat.mul_le_mul_left _ om;unfold maxLen; omega
    refine ⟨ys,_,y1,hx,?_,hlm,y2.trans hxs,fun p v hp hb=> ?_⟩
    rotate_left
    ·rw[jks] at hp;split at hp
     ·rename_i hc2;have:=hc2.2.2;rw[y2,hxs] at this;exact this
     ·have:=jj1 (G.sees p v hp);omega
    rw[<- hl];refine .slice (fun i j=>ys.getD (i*size+j) undef) om om y4 y5 (fun i j e c e1 e2=> ?_) (fun i j e c e1 e2=> ?_)
    ·obtain ⟨y,g1,g2⟩:=y7 i j e c e1 e2;simp only[Nat.zero_add] at g1;have hlt:=(asi.1 g1).1;rw[jcf,Nat.zero_add];rw[jks];rw[if_pos ⟨rfl,rfl,hlt⟩];simp[hlt]
    ·obtain ⟨y,g1,g2⟩:=y7 i j e c e1 e2;simp only[Nat.zero_add] at g1;have hlt:=(asi.1 g1).1;have:y=ys[i*size+j]:=by simpa [hlt] using g1.symm
     subst this;simp only[Array.getD_eq_getD_getElem?,Array.getElem?_eq_getElem hlt,Option.getD_some];exact g2.mono hx.le
   obtain ⟨z,hz'⟩:=Option.isSome_iff_exists.1 hc.2.2
   have hzr:(zeroValue e').run P w= .ok z w:=by
    unfold jdi at hz';rw[hi] at hz';simp only[Option.bind_some] at hz';simp[zeroValue,typeInfo,hi,hz']
   have hle:¬(len*size > 16777216):=om
   by_cases h0:len*size=0
   ·obtain ⟨ys,F',k1,k2,k3,k4,k5,k6⟩:=key ((Array.range (len*size)).map fun i=>(#[]:Array Value)[i % (#[]:Array Value).size]!) sm;refine ⟨.slice (some ⟨w.heap.size,0,none⟩) len len,F',w.alloc (.cells ys e'),jb1 ?_,k2,k3,e',size,ys,h1,rfl,k4,rfl,k5,k6⟩;simp only[Instr.buildSlice,Sem.run_bind,run_underlying hu,Result.andThen_ok,jdm hi,hsz,Array.toList_map];rw[if_neg hle,if_pos h0];simp only[Sem.run_pure,Sem.run_bind,Result.andThen_ok];rw[k1];rfl
   ·obtain ⟨ys,F',k1,k2,k3,k4,k5,k6⟩:=key ((Array.range (len*size)).map (z.cells[· % z.cells.size]!)) sm;refine ⟨.slice (some ⟨w.heap.size,0,none⟩) len len,F',w.alloc (.cells ys e'),jb1 ?_,k2,k3,e',size,ys,h1,rfl,k4,rfl,k5,k6⟩;simp only[Instr.buildSlice,Sem.run_bind,run_underlying hu,Result.andThen_ok,jdm hi,hsz,Array.toList_map];rw[if_neg hle,if_neg h0];simp only[Sem.run_pure,Sem.run_bind,Result.andThen_ok,hzr];rw[k1];rfl
  ·cases e
 ·cases e
theorem evb_sound (G:Good F w ρ h ρa ρc) (o:Oper) {v:V} (e:evb P ρa o.op=some v):
  ∃x F' w',(execOp ρc o).run P w= .ok (.value x) w'/\Ext F w F' w'/\Rep F' v x:=by
 obtain ⟨dst,op,ty,pos,after,guard⟩:=o;simp only at e;unfold evb at e;split at e
 ·rename_i t parts;split at e
  ·rename_i pl zs ps h1 h2 h3;simp only[msi] at e;obtain ⟨cs,h4,rfl⟩:=e;obtain ⟨z,z1,z2,z3,z4⟩:=jk9 (P:=P) (F:=F) (w:=w) h2;obtain ⟨p1,p2⟩:=jnm G h3;obtain ⟨ys,y1,y2,y3,y4⟩:=jo0 (F:=F) _ ps _ zs cs z.cells z2 z3 z4 p1 p2 h4;unfold placesV at h1;split at h1
   ·rename_i fs hu;have hp:=run_places (P:=P) w fs.toList pl h1;have hmap:(parts.map fun (i,x)=>(i,ρc x)).toList=parts.toList.map fun (i,x)=>(i,ρc x):=by simp
    refine ⟨.agg ys,F,w,?_,Ext.refl G.sees,.agg y2 y3 y4⟩;refine jb1 ?_;have y1':Instr.fill (fun i=>pl[i]?) z.cells ((parts.map fun (i,x)=>(i,ρc x)).toList)=some ys:=by rw[hmap]; exact y1
    simp only[Array.toList_map] at y1';simp[Instr.build,run_underlying hu,z1,Array.mapM_eq_mapM_toList,hp,y1']
   ·rename_i n e hu;simp only[msi] at h1;obtain ⟨inf,hi,rfl⟩:=h1
    have h4':=fillV_mono (pl':=fun i=>some (i*inf.size,inf.size)) (fun i x hx=>by
     simp only[List.getElem?_map,msi] at hx;obtain ⟨a,ha,rfl⟩:=hx;have:=gsi.1 ha;obtain ⟨hl,hl'⟩:=this;simp at hl';subst hl'
     rfl) _ _ _ h4
    obtain ⟨ys,y1,y2,y3,y4⟩:=jo0 (F:=F) _ ps _ zs cs z.cells z2 z3 z4 p1 p2 h4';have hmap:(parts.map fun (i,x)=>(i,ρc x)).toList=parts.toList.map fun (i,x)=>(i,ρc x):=by simp
    refine ⟨.agg ys,F,w,?_,Ext.refl G.sees,.agg y2 y3 y4⟩;refine jb1 ?_;have y1':Instr.fill (fun i=>some (i*inf.size,inf.size)) z.cells ((parts.map fun (i,x)=>(i,ρc x)).toList)=some ys:=by rw[hmap]; exact y1
    simp only[Array.toList_map] at y1';have hsz:P.cellsOf e=inf.size:=by simp[Program.cellsOf,hi]
    simp[Instr.build,run_underlying hu,z1,jdm hi,hsz,y1']
   ·cases h1
  ·cases e
 ·rename_i t len parts;obtain ⟨x,F',w',h1,h2,h3,-⟩:=bs_sound G ⟨dst,.buildSlice t len parts,ty,pos,after,guard⟩ rfl (v:=v) (by unfold evb; exact e);exact ⟨x,F',w',h1,h2,h3⟩
 ·cases e
end Go.Ab
namespace Go.Ab
variable {P : Program} {r : Option Nat}
def fc (r:Option Nat):Fence:= { Fence.wide with round:=r }
abbrev wpG (r:Option Nat) (P:Program) (c:Code) (Q:Exit->Act->World->Prop) (a:Act) (w:World):Prop:=c.wpIn (fc r) 0 P Q a w
abbrev opG (r:Option Nat) (P:Program) (o:Oper) (a:Act) (w:World) (next:Act->World->Prop) (Q:Exit->Act->World->Prop):Prop:=o.wpIn (fc r) 0 P a w next Q
theorem calls_fc {f:FuncId} {args:Array Value} {w:World} {n:Nat} {R:Ending->World->Prop} (h:Calls P f args w R):CallsIn (fc r) n P f args w R:=
 match r with
 | none=>callsIn_wide.2 h
 | some l=>CallsIn.inRound l (callsIn_wide.2 h)
theorem jph {o:Oper} {ρ:Operand->Value} {x:Next} {w w':World} (hr:(execOp ρ o).run P w= .ok x w') (hx:∀d,x≠ .defer d) (c:Go.Call):o.op≠ .defer c:=fun h=>by
 unfold execOp at hr;rw[h] at hr;simp only[Sem.run_bind] at hr;cases hs:(resolve ρ c o.type).run P w with
 | ok d w1=>
  rw[hs] at hr;simp only[Result.andThen_ok,Sem.run_pure,Result.ok.injEq] at hr;exact hx d hr.1.symm
 | halt h w1=>rw[hs] at hr; simp[Result.andThen] at hr
variable {o : Oper} {a : Act} {w w' : World} {next : Act -> World -> Prop} {Q : Exit -> Act -> World -> Prop}
theorem jbd {y:Value} (hr:(execOp a.eval o).run P w= .ok (.value y) w') (k:next (a.put o.dst y) w'):opG r P o a w next Q:=by
 refine ⟨fun _ _=>trivial,?_⟩;rw[Oper.semAt_eq _ _ _ (jph hr (fun d h=>by cases h)),hr];exact k
theorem opG_skip (hr:(execOp a.eval o).run P w= .ok .skip w') (k:next (a.put o.dst undef) w'):opG r P o a w next Q:=by
 refine ⟨fun _ _=>trivial,?_⟩;rw[Oper.semAt_eq _ _ _ (jph hr (fun d h=>by cases h)),hr];exact k
theorem jhp {f:FuncId} {args:Array Value} (hr:(execOp a.eval o).run P w= .ok (.enter f args) w') (k:Calls P f args w' fun
  | .returned v,w''=>next (a.put o.dst v) w''
  | .panicked chain,w''=>Q (.panic chain) a w''
  | .outgrown,_=>LetsOut Q):opG r P o a w next Q:=by
 refine ⟨fun _ _=>trivial,?_⟩;rw[Oper.semAt_eq _ _ _ (jph hr (fun d h=>by cases h)),hr];exact ⟨fun h=>(by cases h),calls_fc k⟩
theorem jqa {c:Code} (I:Nat->Act->World->Prop) (n₀:Nat) (h₀:I n₀ a w)
  (round:∀n a w,I n a w->wpG r P c (Exit.then (fun a' w'=>∃n',n'<n/\I n' a' w') Q) a w):wpG r P (Code.loop c) Q a w:=by
 refine wpIn_loop (fun a w=>∃n,I n a w) (fun a w=>leastOf (fun n=>I n a w)) ⟨n₀,h₀⟩ ?_;intro a w hI;refine wpIn_mono (round _ a w (leastOf_spec hI).1) ?_;intro e a' w' hq;cases e with
 | normal=>
  obtain ⟨n',hlt,hI'⟩:=hq;exact show (∃n,I n a' w')/\leastOf (fun n=>I n a' w')<leastOf (fun n=>I n a w) from ⟨⟨n',hI'⟩,Nat.lt_of_le_of_lt ((leastOf_spec ⟨n',hI'⟩).2 n' hI') hlt⟩
 | exit id=>exact hq
 | goto l=>exact hq
 | ret=>exact hq
 | panic ch=>exact hq
 | outgrown=>exact hq
end Go.Ab
