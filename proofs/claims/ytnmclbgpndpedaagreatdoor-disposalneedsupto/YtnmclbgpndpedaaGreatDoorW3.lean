/- A part of this claim. -/
import Derived.Test.YtnmclbgpndpedaaGreatDoorW2
set_option maxRecDepth 100000
namespace Go.Arc
open Go.Ab Go.RowKit Go.Proofs
variable {T : Lay}
theorem den_valid (f u:Int):Den Tryz.prog T 231 [span f u] (vb (jce f u)):=by
 refine ja0 follows (fun args w=>Tryz.call231 args w) Tryz.func231 rfl 18 rfl ?_;unfold jce;by_cases h1:0<=f <;> by_cases h2:f<u <;> by_cases h3:u<=1048576 <;> (refine run ?_; refine fin (jad ?_); simp; try omega)
theorem den_eqInt (a b:List Nat) (ha:a.length<=1048576) (_hb:b.length<=1048576):Den Tryz.prog T 84 [nats a,nats b] (vb (decide (a=b))):=by
 refine ja0 follows (fun args w=>Tryz.call84 args w) Tryz.func84 rfl 26 rfl ?_;by_cases hl:a.length=b.length
 ·refine run ?_
  refine loop ⟨[0,1,12,13],[],[],[]⟩ (fun k:Nat=>k<=a.length/\(a=b↔a.drop k=b.drop k)) (fun k=>a.length-k)
   (fun k=>⟨26,[(0,.v (nats a)),(1,.v (nats b)),(12,.v (vi a.length)),(13,.v (vi k))],[],[]⟩) 0 ⟨by omega,by simp⟩ ?_
  rintro k ⟨hk,hall⟩;by_cases hlt:k<a.length
  ·obtain ⟨x,hx,hd,-⟩:=ja8 hlt;obtain ⟨y,hy,he,-⟩:=ja8 (l:=b) (k:=k) (by omega);by_cases hxy:x=y
   ·subst hxy;refine runW (ai hx hy) ?_;exact round (k+1) ⟨by omega,by rw[hall,eq_drop hd he]; simp⟩ (by omega)
   ·refine runW (ai hx hy) ?_;refine fin (jad ?_)
    symm
    rw[decide_eq_false_iff_not,hall,eq_drop hd he];simp[hxy]
  ·refine run ?_;refine fin (jad ?_)
   symm; rw[decide_eq_true_iff,hall,jdy hlt,jdy (l:=b) (by omega)]
 ·refine run ?_;refine fin (jad ?_)
  symm; rw[decide_eq_false_iff_not]; intro h; exact hl (by rw[h])
end Go.Arc
