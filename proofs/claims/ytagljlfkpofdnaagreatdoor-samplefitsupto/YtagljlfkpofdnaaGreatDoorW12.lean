/- A part of this claim. -/
import Derived.Test.YtagljlfkpofdnaaGreatDoorW11
set_option maxRecDepth 100000
namespace Go.Arc
open Go.Ab Go.RowKit Go.Proofs
variable {T : Lay}
theorem den_check (L:LibC T) (l:List Plan) (i:Nat) (hl:Fits l) (hi:i<l.length):Den Tryz.prog T 105 [plans l,vi i] (vi (faultAt l i)):=by
 obtain ⟨hl0,hf⟩:=hl;obtain ⟨p,hp,-,hm⟩:=drop_at hi;have hfp:=hf p hm;obtain ⟨h1,h2,-,-⟩:=id hfp;have hfa:faultAt l i=fault (before l i) i p:=by simp[faultAt,hp]
 rw[hfa];have hc8:(128<p.cls.length\/128<p.mov.length)->clsErr' p=8:=fun h=>by simp[clsErr',h]
 have hcn:¬(128<p.cls.length\/128<p.mov.length)->clsErr' p=clsErr p:=fun h=>by simp only[clsErr']; rw[if_neg h]
 refine den_of_body follows (fun args w=>Tryz.call105 args w) Tryz.func105 rfl 55 rfl ?_;by_cases hv:p.ver=i+1
 ·refine runW hp ?_;refine call (den_valid p.frm p.til) ?_;cases hg:goodS p.frm p.til
  ·refine run ?_;exact fin (vi_eq (fault_2 (.inr hg)).symm)
  ·by_cases h0:i=0
   ·subst h0;have hb:before l 0=none:=rfl;rw[hb];have h3:∀q':Plan,none=some q'->p.frm=q'.til:=fun _ h=>by cases h
    refine run ?_;refine call (den_classes L p hfp) ?_;by_cases h4:128<p.cls.length\/128<p.mov.length
    ·rw[hc8 h4];refine run ?_;exact fin (vi_eq (fault_8 hv hg h3 h4).symm)
    rw[hcn h4];by_cases hc:clsErr p=0
    ·rw[fault_n hv hg h4 hc,hc];by_cases hz:0<p.mov.length
     ·rw[if_pos hz];refine run ?_;exact fin rfl
     ·rw[if_neg hz];refine run ?_;exact fin rfl
    ·refine run ?_;exact fin (vi_eq (fault_c hv hg h3 h4 hc).symm)
   ·obtain ⟨q,hq,-,hmq⟩:=drop_at (l:=l) (k:=i-1) (by omega);have hb:before l i=some q:=by unfold before; rw[if_neg h0,hq]
    rw[hb];by_cases hgap:p.frm=q.til
    ·have h3:∀q':Plan,some q=some q'->p.frm=q'.til:=fun _ h=>by cases h; exact hgap
     refine runW hq ?_;refine call (den_classes L p hfp) ?_;by_cases h4:128<p.cls.length\/128<p.mov.length
     ·rw[hc8 h4];refine run ?_;exact fin (vi_eq (fault_8 hv hg h3 h4).symm)
     rw[hcn h4];by_cases hc:clsErr p=0
     ·rw[fault_m hv hg hgap h4 hc,hc];refine runW hq ?_;refine call (den_moved L q p (hf q hmq) hfp) ?_;refine run ?_;exact fin rfl
     ·refine run ?_;exact fin (vi_eq (fault_c hv hg h3 h4 hc).symm)
    ·refine runW hq ?_;exact fin (vi_eq (fault_16 hv hg rfl hgap).symm)
 ·refine runW hp ?_;exact fin (vi_eq (fault_2 (.inl hv)).symm)
theorem den_CheckL (L:LibC T) (l:List Plan) (hl:Fits l):Den Tryz.prog T 54 [plans l] (checkV l):=by
 have hl0:=hl.1;refine den_of_body follows (fun args w=>Tryz.call54 args w) Tryz.func54 rfl 22 rfl ?_;by_cases h16:16<l.length
 ·refine run ?_;refine fin ?_;simp only[checkV,check_many h16]
 refine run ?_
 refine loop ⟨[0,10,11],[],[],[]⟩ (fun k:Nat=>k<=l.length/\∀i,i<k->faultAt l i=0) (fun k=>l.length-k)
  (fun k=>⟨22,[(0,.v (plans l)),(10,.v (vi l.length)),(11,.v (vi k))],[],[]⟩) 0 ⟨by omega,by omega⟩ ?_
 rintro k ⟨hk,hall⟩;by_cases hlt:k<l.length
 ·refine run ?_;refine call (den_check L l k hl hlt) ?_;by_cases hz:faultAt l k=0
  ·refine run ?_;refine round (k+1) ⟨by omega,fun i hi=> ?_⟩ (by omega);by_cases e:i=k
   ·rw[e]; exact hz
   ·exact hall i (by omega)
  ·refine run ?_;refine fin ?_;simp only[checkV,check_bad h16 hlt hall hz]
 ·refine run ?_;refine fin ?_;simp only[checkV,check_ok h16 fun i hi=>hall i (by omega)]
theorem den_At1 (p:Plan) (d:Int):Den Tryz.prog T 107 [.agg p.cs,.row [vi d]] (vb (inS p.frm p.til d)):=by
 refine den_of_body follows (fun args w=>Tryz.call107 args w) Tryz.func107 rfl 16 rfl ?_;unfold inS;by_cases h1:p.frm<=d <;> by_cases h2:d<p.til <;> (refine run ?_; refine fin (vb_eq ?_); simp; try omega)
theorem den_AtL (L:LibC T) (l:List Plan) (d:Int) (hl:Fits l):Den Tryz.prog T 55 [plans l,vi d] (vi (atL l d)):=by
 refine den_of_body follows (fun args w=>Tryz.call55 args w) Tryz.func55 rfl 17 rfl ?_;refine run ?_;refine call (den_CheckL L l hl) ?_;by_cases hg:(check l).2=0
 ·refine run ?_;refine call (den_ixPlan l _ _ (fun p=>inS p.frm p.til d) hl.1 fun p _=>den_At1 p d) ?_;refine run ?_;refine fin (vi_eq ?_); simp[atL,goodL,hg,idx]
 ·refine run ?_;refine fin (vi_eq ?_); simp[atL,goodL,hg]
theorem den_follow (L:LibC T) (l:List Plan) (f t:Nat) (s:Str) (hl:Fits l) (hft:f<=t) (ht:t<l.length) (hs:s.length<=1048576):
  Den Tryz.prog T 110 [plans l,vi f,vi t,.str s] (.str (walkN l f (t-f) s)):=by
 obtain ⟨hl0,hf⟩:=hl;refine den_of_body follows (fun args w=>Tryz.call110 args w) Tryz.func110 rfl 36 rfl ?_;refine run ?_
 refine loop ⟨[0,1,3,12,13],[],[],[]⟩ (fun y:Nat×Str=>y.1<=t-f/\y.2.length<=1048576/\walkN l f (t-f) s=walkN l (f+y.1) (t-f-y.1) y.2) (fun y=>t-f-y.1)
  (fun y=>⟨36,[(0,.v (plans l)),(1,.v (vi f)),(3,.v (.str y.2)),(12,.v (vi ((t:Int)-f))),(13,.v (vi y.1))],[],[]⟩) (0,s) ⟨by simp,hs,by simp⟩ ?_
 rintro ⟨k,a⟩ ⟨hk,ha,hall⟩;simp only at hk ha hall;by_cases hlt:k<t-f
 ·obtain ⟨x,hx,-,hm⟩:=drop_at (l:=l) (k:=f+k) (by omega);obtain ⟨y,hy,-,hm'⟩:=drop_at (l:=l) (k:=f+k+1) (by omega);have e1:((f:Int)+k).toNat=f+k:=by omega
  have e2:((f:Int)+k+1).toNat=f+k+1:=by omega
  refine runW (And.intro hx (And.intro hy (And.intro e1 e2))) ?_;refine call (den_Next L x y a (hf x hm) (hf y hm') ha) ?_;obtain ⟨b,e⟩:=nextV_x x y a;rw[e];refine run ?_;refine round (k+1,nxt x y a) ⟨by simp only; omega,nxt_len (hf y hm') ha,?_⟩ (by simp only; omega);simp only;rw[hall,show t-f-k=(t-f-(k+1))+1 by omega];simp only[walkN];rw[pl_at hx,pl_at hy,Nat.add_assoc]
 ·refine run ?_;refine fin ?_;rw[hall,show t-f-k=0 by omega]; rfl
theorem goodL_iff (l:List Plan):goodL l=true↔(check l).2=0:=by simp[goodL]
theorem den_start (L:LibC T) (l:List Plan) (f t:Int) (hl:Fits l):Den Tryz.prog T 108 [plans l,vi f,vi t] (vi (versErr l f t)):=by
 have hl0:=hl.1;refine den_of_body follows (fun args w=>Tryz.call108 args w) Tryz.func108 rfl 29 rfl ?_;refine run ?_;refine call (den_CheckL L l hl) ?_;by_cases hc:(check l).2=0
 ·have hg:=(goodL_iff l).2 hc;by_cases h1:f<1
  ·refine run ?_;exact fin (vi_eq (versErr_7 hg (.inl h1)).symm)
  by_cases h2:t<f
  ·refine run ?_;exact fin (vi_eq (versErr_7 hg (.inr (.inl h2))).symm)
  by_cases h3:l.length<t
  ·refine run ?_;exact fin (vi_eq (versErr_7 hg (.inr (.inr h3))).symm)
  refine run ?_;exact fin (vi_eq (versErr_0 hg (by omega)).symm)
 ·have hg:goodL l=false:=by simp[goodL,hc]
  refine run ?_;exact fin (vi_eq (versErr_1 hg).symm)
theorem den_FollowL (L:LibC T) (l:List Plan) (f t:Int) (s:Str) (hl:Fits l) (hs:s.length<=1048576):Den Tryz.prog T 56 [plans l,vi f,vi t,.str s] (followV l f t s):=by
 have hl0:=hl.1;refine den_of_body follows (fun args w=>Tryz.call56 args w) Tryz.func56 rfl 33 rfl ?_;refine run ?_;refine call (den_start L l f t hl) ?_;by_cases hv:versErr l f t=0
 ·obtain ⟨-,h1,h2,h3⟩:=versErr_z hv;obtain ⟨f,rfl⟩:=nat_of h1;obtain ⟨t,rfl⟩:=nat_of (show 1<=t by omega);rw[hv];obtain ⟨p,hp,-,hm⟩:=drop_at (l:=l) (k:=f) (by omega);have hpl:pl l ((f:Int)+1-1).toNat=p:=by rw[Int.add_sub_cancel,Int.toNat_natCast,pl_at hp]
  have ef:(f:Int)+1-1=f:=Int.add_sub_cancel _ _;have et:(t:Int)+1-1=t:=Int.add_sub_cancel _ _;refine runW (And.intro hp (And.intro ef et)) ?_;refine call (den_Has p s (hl.2 p hm).1) ?_;cases hh:has p s
  ·refine run ?_;refine fin ?_;simp only[followV,followR_7 hv (by rw[hpl]; exact hh)]
  ·refine runW (And.intro ef et) ?_;refine call (den_follow L l f t s hl (by omega) (by omega) hs) ?_;refine run ?_;refine fin ?_;simp only[followV,followR_0 hv (by rw[hpl]; exact hh)];rw[walkI,ef,Int.toNat_natCast,show ((t:Int)+1-(f+1)).toNat=t-f by omega]
 ·refine run ?_;refine fin ?_;simp only[followV,followR_e hv]
def fewP (p:Plan):Bool:= !((decide (16<p.cls.length) && !decide (p.cls.length=129)) || decide (16<p.mov.length)) && p.cls.all (fun c=> !(decide (100<c.code.length) || decide (100<c.title.length))) &&
 p.mov.all fun m=> !(decide (100<m.frm.length) || decide (100<m.to.length))
def few (l:List Plan):Bool:= !((decide (5<l.length) && decide (l.length<=16)) || decide (21<l.length)) && l.all fewP
theorem all_at {α:Type} {l:List α} {q:α->Bool} {k:Nat} {x:α} (hx:l[k]? = some x) (hq:q x=false):l.all q=false:=
 List.all_eq_false.2 ⟨x,List.mem_of_getElem? hx,by simp[hq]⟩
theorem all_end {α:Type} {l:List α} {q:α->Bool} {k:Nat} (h:∀e∈l.take k,q e=true) (hk:¬k<l.length):l.all q=true:=
 List.all_eq_true.2 (take_all h hk)
theorem den_FewPlan (p:Plan) (hp:p.Fit):Den Tryz.prog T 72 [.agg p.cs] (vb (fewP p)):=by
 obtain ⟨h1,h2,h3,h4⟩:=hp;refine den_of_body follows (fun args w=>Tryz.call72 args w) Tryz.func72 rfl 71 rfl ?_;by_cases g:(16<p.cls.length/\p.cls.length≠129)\/16<p.mov.length
 ·have hf:fewP p=false:=by
   rcases g with ⟨g1,g2⟩ | g
   ·simp[fewP,g1,g2]
   ·simp[fewP,g]
  rw[hf];by_cases a1:16<p.cls.length
  ·by_cases a2:p.cls.length=129
   ·have a3:16<p.mov.length:=by omega
    refine run ?_;exact fin rfl
   ·refine run ?_;exact fin rfl
  ·have a3:16<p.mov.length:=by omega
   refine run ?_;exact fin rfl
 ·have hq:fewP p=(p.cls.all (fun c=> !(decide (100<c.code.length) || decide (100<c.title.length))) && p.mov.all fun m=> !(decide (100<m.frm.length) || decide (100<m.to.length))):=by
   have e1:(decide (16<p.cls.length) && !decide (p.cls.length=129))=false:=by
    cases e:decide (16<p.cls.length)
    ·rfl
    ·have:16<p.cls.length:=by simpa using e
     have:p.cls.length=129:=by omega
     simp[this]
   have e2:decide (16<p.mov.length)=false:=by simp; omega
   simp only[fewP,e1,e2,Bool.or_false,Bool.not_false,Bool.true_and]
  have go:∀Q:Prop,(16<p.cls.length->p.cls.length=129->Q)->(¬ 16<p.cls.length->Q)->Q:=fun Q a b=>by
   by_cases a1:16<p.cls.length
   ·exact a a1 (by omega)
   ·exact b a1
  rw[hq];have a3:¬ 16<p.mov.length:=by omega
  refine go _ (fun a1 a2=> ?_) (fun a1=> ?_) <;>
  ·refine run ?_
   refine loop ⟨[1,3],[1],[],[]⟩ (fun k:Nat=>k<=p.cls.length/\∀c∈p.cls.take k,(!(decide (100<c.code.length) || decide (100<c.title.length)))=true) (fun k=>p.cls.length-k)
    (fun k=>⟨71,[(1,.p 1 0),(3,.v (vi k))],[(1,.var p.cs)],[]⟩) 0 ⟨by omega,by simp⟩ ?_
   rintro k ⟨hk,hall⟩;by_cases hlt:k<p.cls.length
   ·obtain ⟨x,hx,hd,hm⟩:=drop_at hlt;obtain ⟨hx1,hx2⟩:=h3 x hm;by_cases g1:100<x.code.length
    ·refine runW hx ?_;refine fin (vb_eq ?_);rw[all_at (q:=fun c:Cls=> !(decide (100<c.code.length) || decide (100<c.title.length))) hx (by simp[g1])]; rfl
    by_cases g2:100<x.title.length
    ·refine runW hx ?_;refine fin (vb_eq ?_);rw[all_at (q:=fun c:Cls=> !(decide (100<c.code.length) || decide (100<c.title.length))) hx (by simp[g2])]; rfl
    refine runW hx ?_;exact round (k+1) ⟨by omega,take_snoc (q:=fun c:Cls=>(!(decide (100<c.code.length) || decide (100<c.title.length)))=true) hall hx (by simp[g1,g2])⟩ (by omega)
   ·rw[all_end (q:=fun c:Cls=> !(decide (100<c.code.length) || decide (100<c.title.length))) hall hlt,Bool.true_and];refine run ?_
    refine loop ⟨[1,4],[1],[],[]⟩ (fun k:Nat=>k<=p.mov.length/\∀m∈p.mov.take k,(!(decide (100<m.frm.length) || decide (100<m.to.length)))=true) (fun k=>p.mov.length-k)
     (fun k=>⟨71,[(1,.p 1 0),(4,.v (vi k))],[(1,.var p.cs)],[]⟩) 0 ⟨by omega,by simp⟩ ?_
    rintro k ⟨hk,hall⟩;by_cases hlt:k<p.mov.length
    ·obtain ⟨x,hx,hd,hm⟩:=drop_at hlt;obtain ⟨hx1,hx2⟩:=h4 x hm;by_cases g1:100<x.frm.length
     ·refine runW hx ?_;refine fin (vb_eq ?_);rw[all_at (q:=fun m:Mov=> !(decide (100<m.frm.length) || decide (100<m.to.length))) hx (by simp[g1])]
     by_cases g2:100<x.to.length
     ·refine runW hx ?_;refine fin (vb_eq ?_);rw[all_at (q:=fun m:Mov=> !(decide (100<m.frm.length) || decide (100<m.to.length))) hx (by simp[g2])]
     refine runW hx ?_;exact round (k+1) ⟨by omega,take_snoc (q:=fun m:Mov=>(!(decide (100<m.frm.length) || decide (100<m.to.length)))=true) hall hx (by simp[g1,g2])⟩ (by omega)
    ·refine run ?_;refine fin (vb_eq ?_);rw[all_end (q:=fun m:Mov=> !(decide (100<m.frm.length) || decide (100<m.to.length))) hall hlt]
theorem den_Few (l:List Plan) (hl:Fits l):Den Tryz.prog T 31 [plans l] (vb (few l)):=by
 have hl0:=hl.1;refine den_of_body follows (fun args w=>Tryz.call31 args w) Tryz.func31 rfl 29 rfl ?_;by_cases g:(5<l.length/\l.length<=16)\/21<l.length
 ·have hf:few l=false:=by
   rcases g with ⟨g1,g2⟩ | g
   ·simp[few,g1,g2]
   ·simp[few,g]
  rw[hf];by_cases a1:l.length<=16
  ·have a2:5<l.length:=by omega
   refine run ?_;exact fin rfl
  ·have a2:5<l.length:=by omega
   have a3:21<l.length:=by omega
   refine run ?_;exact fin rfl
 ·have hq:few l=l.all fewP:=by
   have e1:(decide (5<l.length) && decide (l.length<=16))=false:=by
    cases e:decide (5<l.length)
    ·rfl
    ·have:5<l.length:=by simpa using e
     simp; omega
   have e2:decide (21<l.length)=false:=by simp; omega
   simp only[few,e1,e2,Bool.or_false,Bool.not_false,Bool.true_and]
  have go:∀Q:Prop,(5<l.length->¬l.length<=16->Q)->(¬ 5<l.length->Q)->Q:=fun Q a b=>by
   by_cases a1:5<l.length
   ·exact a a1 (by omega)
   ·exact b a1
  rw[hq];have a3:¬ 21<l.length:=by omega
  refine go _ (fun a1 a2=> ?_) (fun a1=> ?_) <;>
  ·refine run ?_
   refine loop ⟨[0,3],[],[],[]⟩ (fun k:Nat=>k<=l.length/\∀p∈l.take k,fewP p=true) (fun k=>l.length-k)
    (fun k=>⟨29,[(0,.v (plans l)),(3,.v (vi k))],[],[]⟩) 0 ⟨by omega,by simp⟩ ?_
   rintro k ⟨hk,hall⟩;by_cases hlt:k<l.length
   ·obtain ⟨x,hx,hd,hm⟩:=drop_at hlt;refine runW hx ?_;refine call (den_FewPlan x (hl.2 x hm)) ?_;cases e:fewP x
    ·refine run ?_;refine fin (vb_eq ?_);rw[all_at hx e]
    ·refine run ?_;exact round (k+1) ⟨by omega,take_snoc (q:=fun p:Plan=>fewP p=true) hall hx e⟩ (by omega)
   ·refine run ?_;refine fin (vb_eq ?_);rw[all_end hall hlt]
end Go.Arc
