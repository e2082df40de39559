/- A part of this claim. -/
import Derived.Test.YtnmclbgpndpedaaGreatDoorTy
import Derived.Test.YtnmclbgpndpedaaGreatDoorSp
set_option maxRecDepth 100000
namespace Go.Arc
open Go.Ab Go.RowKit Go.Proofs
theorem follows:Tryz.prog.follows .mixedOrders=true:=by kernel_rfl
variable {T : Lay}
theorem den_ixCls (l:List Cls) (f:FuncId) (cap:List V) (p:Cls->Bool) (hl:l.length<=1048576) (hp:∀e∈l,Den Tryz.prog T f (.agg e.cs::cap) (vb (p e))):
   Den Tryz.prog T 289 [clss l,.func f cap] (vi (ix p l)):=by
  refine ja0 follows (fun args w=>Tryz.call289 args w) Tryz.func289 rfl 19 rfl ?_;refine run ?_
  refine loop ⟨[0,1,7,8],[],[],[]⟩ (fun k:Nat=>k<=l.length/\∀e∈l.take k,p e=false) (fun k=>l.length-k)
    (fun k=>⟨19,[(0,.v (clss l)),(1,.v (.func f cap)),(7,.v (vi l.length)),(8,.v (vi k))],[],[]⟩) 0 ⟨by omega,by simp⟩ ?_
  rintro k ⟨hk,hall⟩;by_cases hlt:k<l.length
  · obtain ⟨x,hx,-,hm⟩:=ja8 hlt;refine runW hx ?_;refine call (hp x hm) ?_;cases hpc:p x
    · refine run ?_;exact round (k+1) ⟨by omega,jac hall hx hpc⟩ (by omega)
    · refine run ?_;exact fin (jai (ji1 hall hx hpc))
  · refine run ?_;exact fin (jai (jc1 hall hlt))
theorem jhi (l:List Cls) (f:FuncId) (cap:List V) (p:Cls->Bool) (hl:l.length<=1048576) (hp:∀e∈l,Den Tryz.prog T f (.agg e.cs::cap) (vb (p e))):
   Den Tryz.prog T 246 [clss l,.func f cap] (vb (l.any p)):=by
  refine ja0 follows (fun args w=>Tryz.call246 args w) Tryz.func246 rfl 9 rfl ?_;refine run ?_;refine call (den_ixCls l f cap p hl hp) ?_;refine run ?_;exact fin (jad (jmy p l))
theorem den_Has1 (c:Cls) (s:Str):Den Tryz.prog T 247 [.agg c.cs,.row [.str s]] (vb (c.code == s)):=by
 refine ja0 follows (fun args w=>Tryz.call247 args w) Tryz.func247 rfl 8 rfl ?_;refine run ?_;exact fin rfl
theorem jmb (p:Plan) (s:Str) (hl:p.cls.length<=1048576):Den Tryz.prog T 204 [.agg p.cs,.str s] (vb (has p s)):=by
 refine ja0 follows (fun args w=>Tryz.call204 args w) Tryz.func204 rfl 9 rfl ?_;refine run ?_;refine call (jhi p.cls _ _ (fun c=>c.code == s) hl fun e _=>den_Has1 e s) ?_;refine run ?_;exact fin rfl
end Go.Arc
