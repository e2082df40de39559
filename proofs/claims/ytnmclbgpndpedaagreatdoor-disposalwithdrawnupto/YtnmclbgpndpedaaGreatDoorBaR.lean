/- A part of this claim. -/
import Derived.Test.YtnmclbgpndpedaaGreatDoorBaO
set_option maxRecDepth 100000
namespace Go.Arc
open Go.Ab Go.RowKit Go.Proofs
variable {T : Lay}
set_option maxHeartbeats 8000000 in
theorem jke (L:LibT T) (r:Rgs) (n d o:Int) (h:r.Fit):Den Tryz.prog T 4 [.agg r.cs,vi n,vi d,vi o] (vb true):=by
 have hw:=jq0 L r h n d;have hfw:=den_Few14 (T:=T) r h;have hpl:=h.pps.1;have hfl:=h.fls.1;refine ja0 follows (fun args w=>Tryz.call4 args w) Tryz.func4 rfl 81 rfl ?_;refine run ?_;refine call (den_awake14 L) ?_;refine run ?_;refine call hfw ?_;cases hf:few14 r
 ·refine run ?_;exact fin rfl
 refine run ?_;refine call hw ?_;by_cases hz:wdrE r n d=0
 ·have e:wdrR r n d=(wdrG r (jdt r.pps n).toNat d,0):=by unfold wdrR; rw[if_neg (fun e=>e hz)]
  rw[e];have hx:(wdrG r (jdt r.pps n).toNat d).Fit:=fit_wdrG h _ _;have hlen:(wdrG r (jdt r.pps n).toNat d).pps.length=r.pps.length:=jqj _ _;have hfls:(wdrG r (jdt r.pps n).toNat d).fls=r.fls:=rfl;have hw2:=jq0 L _ hx n d
  have e2:wdrR (wdrG r (jdt r.pps n).toNat d) n d=(jf3,11):=by
   have:=wdr_twice hz;unfold wdrR;rw[if_pos (by rw[this]; decide),this]
  rw[e2] at hw2;have hr2:=fun o=>jie L _ hx n o;have hr1:=jie L r h n o;have hrd:=fun ho:dayG o=true=>wdr_ready hz ho;obtain ⟨X,hX⟩:∃X,wdrG r (jdt r.pps n).toNat d=X:=⟨_,rfl⟩;rw[hX] at hw2 hlen hfls hrd ⊢;have hr2:∀o,Den Tryz.prog T 8 [.agg X.cs,vi n,vi o] (vi (jfr X n o)):=fun o=>by have:=hr2 o; rwa [hX] at this
  refine run ?_;refine call hw2 ?_;refine runW (ai hlen hfls) ?_;by_cases h1:o<0
  ·refine runW (eq_true h1) ?_;exact fin rfl
  by_cases h2:1048575<o
  ·refine runW (ai (eq_false h1) (eq_true h2)) ?_;exact fin rfl
  have hday:dayG o=true:=by unfold dayG; rw[decide_eq_true (by omega),decide_eq_true (by omega)]; rfl
  have hrd:=hrd hday;by_cases h3:o<d
  ·rw[if_pos h3] at hrd;have hr3:=hr2 o;rw[hrd] at hr3;refine runW (ai (eq_false h1) (ai (eq_false h2) (eq_true h3))) ?_;refine call hr3 ?_;refine run ?_;refine call hr1 ?_;refine run ?_;exact fin rfl
  ·rw[if_neg h3] at hrd;have hr3:=hr2 o;rw[hrd] at hr3;refine runW (ai (eq_false h1) (ai (eq_false h2) (eq_false h3))) ?_;refine call hr3 ?_;refine run ?_;exact fin rfl
 ·have e:wdrR r n d=(jf3,wdrE r n d):=by unfold wdrR; rw[if_pos hz]
  rw[e];have hl0:jf3.pps.length=0:=rfl;refine runW (ai (eq_false hz) hl0) ?_;exact fin rfl
end Go.Arc
