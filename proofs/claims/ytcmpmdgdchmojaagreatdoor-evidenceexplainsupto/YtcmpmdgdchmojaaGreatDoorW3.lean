/- A part of this claim. -/
import Derived.Test.YtcmpmdgdchmojaaGreatDoorW2
set_option maxRecDepth 100000
namespace Go.Arc
open Go.Ab Go.RowKit Go.Proofs
variable {T : Lay}
theorem den_valid (f u:Int):Den Tryz.prog T 200 [span f u] (vb (goodS f u)):=by
 refine den_of_body follows (fun args w=>Tryz.call200 args w) Tryz.func200 rfl 18 rfl ?_;unfold goodS;by_cases h1:0<=f <;> by_cases h2:f<u <;> by_cases h3:u<=1048576 <;> (refine run ?_; refine fin (vb_eq ?_); simp; try omega)
theorem den_Good04 (f u:Int):Den Tryz.prog T 318 [span f u] (vb (goodS f u)):=by
 refine den_of_body follows (fun args w=>Tryz.call318 args w) Tryz.func318 rfl 18 rfl ?_;unfold goodS;by_cases h1:0<=f <;> by_cases h2:f<u <;> by_cases h3:u<=1048576 <;> (refine run ?_; refine fin (vb_eq ?_); simp; try omega)
theorem den_In04 (f u d:Int):Den Tryz.prog T 232 [span f u,vi d] (vb (inS f u d)):=by
 refine den_of_body follows (fun args w=>Tryz.call232 args w) Tryz.func232 rfl 15 rfl ?_;unfold inS;by_cases h1:f<=d <;> by_cases h2:d<u <;> (refine run ?_; refine fin (vb_eq ?_); simp; try omega)
theorem den_hasRef (p:Plan) (s:Str) (hl:p.cls.length<=1048576):Den Tryz.prog T 230 [.agg p.cs,.str s] (vb (has p s)):=by
 refine den_of_body follows (fun args w=>Tryz.call230 args w) Tryz.func230 rfl 21 rfl ?_;refine run ?_
 refine loop ⟨[1,2,5],[2],[],[]⟩ (fun k:Nat=>k<=p.cls.length/\has p s=(p.cls.drop k).any fun c=>c.code == s) (fun k=>p.cls.length-k)
  (fun k=>⟨21,[(1,.v (.str s)),(2,.p 2 0),(5,.v (vi k))],[(2,.var p.cs)],[]⟩) 0 ⟨by omega,rfl⟩ ?_
 rintro k ⟨hk,hall⟩;by_cases hlt:k<p.cls.length
 ·obtain ⟨x,hx,hd,hm⟩:=drop_at hlt;by_cases he:x.code=s
  ·subst he;refine runW hx ?_;refine fin (vb_eq ?_);rw[hall,hd]; simp
  ·have hf:=beq_f he;refine runW (And.intro hx hf) ?_;exact round (k+1) ⟨by omega,by rw[hall,hd]; simp[hf]⟩ (by omega)
 ·refine run ?_;refine fin (vb_eq ?_);rw[hall,drop_end hlt]; rfl
theorem den_eqInt (a b:List Nat) (ha:a.length<=1048576) (_hb:b.length<=1048576):Den Tryz.prog T 32 [nats a,nats b] (vb (decide (a=b))):=by
 refine den_of_body follows (fun args w=>Tryz.call32 args w) Tryz.func32 rfl 26 rfl ?_;by_cases hl:a.length=b.length
 ·refine run ?_
  refine loop ⟨[0,1,12,13],[],[],[]⟩ (fun k:Nat=>k<=a.length/\(a=b↔a.drop k=b.drop k)) (fun k=>a.length-k)
   (fun k=>⟨26,[(0,.v (nats a)),(1,.v (nats b)),(12,.v (vi a.length)),(13,.v (vi k))],[],[]⟩) 0 ⟨by omega,by simp⟩ ?_
  rintro k ⟨hk,hall⟩;by_cases hlt:k<a.length
  ·obtain ⟨x,hx,hd,-⟩:=drop_at hlt;obtain ⟨y,hy,he,-⟩:=drop_at (l:=b) (k:=k) (by omega);by_cases hxy:x=y
   ·subst hxy;refine runW (And.intro hx hy) ?_;exact round (k+1) ⟨by omega,by rw[hall,eq_drop hd he]; simp⟩ (by omega)
   ·refine runW (And.intro hx hy) ?_;refine fin (vb_eq ?_)
    symm
    rw[decide_eq_false_iff_not,hall,eq_drop hd he];simp[hxy]
  ·refine run ?_;refine fin (vb_eq ?_)
   symm; rw[decide_eq_true_iff,hall,drop_end hlt,drop_end (l:=b) (by omega)]
 ·refine run ?_;refine fin (vb_eq ?_)
  symm; rw[decide_eq_false_iff_not]; intro h; exact hl (by rw[h])
theorem den_less (a b:List Nat) (ha:a.length<=1048576) (hb:b.length<=1048576):Den Tryz.prog T 293 [nats a,nats b] (vi (cmpL a b)):=by
 refine den_of_body follows (fun args w=>Tryz.call293 args w) Tryz.func293 rfl 46 rfl ?_;refine run ?_
 refine loop ⟨[0,1,5],[],[],[]⟩ (fun k:Nat=>k<=a.length/\k<=b.length/\cmpL a b=cmpL (a.drop k) (b.drop k)) (fun k=>a.length-k)
   (fun k=>⟨46,[(0,.v (nats a)),(1,.v (nats b)),(5,.v (vi k))],[],[]⟩) 0 ⟨by omega,by omega,by simp⟩ ?_
 rintro k ⟨hk,hk',hall⟩;by_cases hlt:k<a.length
 ·by_cases hlt':k<b.length
  ·obtain ⟨x,hx,hd,-⟩:=drop_at hlt;obtain ⟨y,hy,he,-⟩:=drop_at hlt';by_cases h1:x<y
   ·refine runW (And.intro hx hy) ?_;refine fin (vi_eq ?_);rw[hall,hd,he]; simp[cmpL,h1]
   ·by_cases h2:y<x
    ·refine runW (And.intro hx hy) ?_;refine fin (vi_eq ?_);rw[hall,hd,he]; simp[cmpL,h1,h2]
    ·refine runW (And.intro hx hy) ?_;exact round (k+1) ⟨by omega,by omega,by rw[hall,hd,he]; simp[cmpL,h1,h2]⟩ (by omega)
  ·obtain ⟨x,hx,hd,-⟩:=drop_at hlt;refine run ?_;refine fin (vi_eq ?_);rw[hall,hd,drop_end hlt']; rfl
 ·by_cases hlt':k<b.length
  ·obtain ⟨y,hy,he,-⟩:=drop_at hlt';refine run ?_;refine fin (vi_eq ?_);rw[hall,he,drop_end hlt]; rfl
  ·refine run ?_;refine fin (vi_eq ?_);rw[hall,drop_end hlt,drop_end hlt']; rfl
end Go.Arc
