/- A part of this claim. -/
import Derived.Test.YtdljpbdmcgmalaaGreatDoorW11
set_option maxRecDepth 100000
namespace Go.Arc
open Go.Ab Go.RowKit Go.Proofs Tryz
variable {T : Lay}
theorem den_check (L:LibC T) (l:List Plan) (i:Nat) (hl:Fits l) (hi:i<l.length):Den prog T 211 [jad l,vi i] (vi (jd1 l i)):=by
 obtain ⟨hl0,hf⟩:=hl;obtain ⟨p,hp,-,hm⟩:=ja1 hi;have hfp:=hf p hm;obtain ⟨h1,h2,-,-⟩:=id hfp;have hfa:jd1 l i=je7 (before l i) i p:=by simp[jd1,hp]
 rw[hfa];have hc8:(128<p.cls.length\/128<p.mov.length)->jhc p=8:=fun h=>by simp[jhc,h]
 have hcn:¬(128<p.cls.length\/128<p.mov.length)->jhc p=jck p:=fun h=>by simp only[jhc]; rw[if_neg h]
 refine ja0 call211 func211 55 ?_;by_cases hv:p.ver=i+1
 ·refine rcW hp (den_valid p.frm p.til) ?_;cases hg:jaq p.frm p.til
  ·refine run ?_;exact fin (ja5 (fault_2 (.inr hg)).symm)
  ·by_cases h0:i=0
   ·subst h0;have hb:before l 0=none:=rfl;rw[hb];have h3:∀q':Plan,none=some q'->p.frm=q'.til:=fun _ h=>by cases h
    refine rc (jrp L p hfp) ?_;by_cases h4:128<p.cls.length\/128<p.mov.length
    ·rw[hc8 h4];refine run ?_;exact fin (ja5 (jk2 hv hg h3 h4).symm)
    rw[hcn h4];by_cases hc:jck p=0
    ·rw[fault_n hv hg h4 hc,hc];by_cases hz:0<p.mov.length
     ·rw[if_pos hz];exact za
     ·rw[if_neg hz];exact za
    ·exact zbm
   ·obtain ⟨q,hq,-,hmq⟩:=ja1 (l:=l) (k:=i-1) om;have hb:before l i=some q:=by unfold before; rw[if_neg h0,hq]
    rw[hb];by_cases hgap:p.frm=q.til
    ·have h3:∀q':Plan,some q=some q'->p.frm=q'.til:=fun _ h=>by cases h; exact hgap
     refine rcW hq (jrp L p hfp) ?_;by_cases h4:128<p.cls.length\/128<p.mov.length
     ·rw[hc8 h4];refine run ?_;exact fin (ja5 (jk2 hv hg h3 h4).symm)
     rw[hcn h4];by_cases hc:jck p=0
     ·rw[fault_m hv hg hgap h4 hc,hc];refine rcW hq (den_moved L q p (hf q hmq) hfp) ?_;exact za
     ·exact zbm
    ·refine runW hq ?_;exact fin (ja5 (fault_16 hv hg rfl hgap).symm)
 ·refine runW hp ?_;exact fin (ja5 (fault_2 (.inl hv)).symm)
theorem jko (L:LibC T) (l:List Plan) (hl:Fits l):Den prog T 145 [jad l] (ji2 l):=by
 have hl0:=hl.1;refine ja0 call145 func145 22 ?_;by_cases h16:16<l.length
 ·refine run ?_;refine fin ?_;simp only[ji2,check_many h16]
 refine run ?_;refine ja7 ⟨[11,0,10],[],[],[]⟩ l.length (fun k=>∀i,i<k->jd1 l i=0) om ?_;rintro k ⟨hk,hall⟩;by_cases hlt:k<l.length
 ·refine rc (den_check L l k hl hlt) ?_;by_cases hz:jd1 l k=0
  ·refine run ?_;refine round (k+1) ⟨om,fun i hi=> ?_⟩ om;by_cases e:i=k
   ·exact zcr
   ·exact zb2
  ·refine run ?_;refine fin ?_;simp only[ji2,check_bad h16 hlt hall hz]
 ·refine run ?_;refine fin ?_;simp only[ji2,check_ok h16 fun i hi=>hall i om]
theorem den_At1 (p:Plan) (d:Int):Den prog T 328 [.agg p.cs,.row [vi d]] (vb (inS p.frm p.til d)):=by
 refine ja0 call328 func328 16 ?_;unfold inS;by_cases h1:p.frm<=d <;> by_cases h2:d<p.til <;> (refine run ?_; refine fin (ja3 ?_); simp; try omega)
theorem den_AtL (L:LibC T) (l:List Plan) (d:Int) (hl:Fits l):Den prog T 271 [jad l,vi d] (vi (atL l d)):=by
 refine ja0 call271 func271 17 ?_;refine rc (jko L l hl) ?_;by_cases hg:(check l).2=0
 ·refine rc (den_ixPlan l _ _ (fun p=>inS p.frm p.til d) hl.1 fun p _=>den_At1 p d) ?_;refine run ?_;refine fin (ja5 ?_); simp[atL,jbe,hg,idx]
 ·refine run ?_;refine fin (ja5 ?_); simp[atL,jbe,hg]
theorem den_follow (L:LibC T) (l:List Plan) (f t:Nat) (s:Str) (hl:Fits l) (hft:f<=t) (ht:t<l.length) (hs:s.length<=1048576):
  Den prog T 353 [jad l,vi f,vi t,.str s] (.str (walkN l f (t-f) s)):=by
 obtain ⟨hl0,hf⟩:=hl;refine ja0 call353 func353 36 ?_;refine run ?_;refine jb6 ⟨[3,13,0,1,12],[],[],[]⟩ (fun y:Nat×Str=>y.1<=t-f/\y.2.length<=1048576/\walkN l f (t-f) s=walkN l (f+y.1) (t-f-y.1) y.2) (fun y=>t-f-y.1) (fun y=>[(3,.v (.str y.2)),(13,.v (vi y.1))]) (0,s) ⟨sm,hs,sm⟩ ?_;rintro ⟨k,a⟩ ⟨hk,ha,hall⟩;simp only at hk ha hall;by_cases hlt:k<t-f
 ·obtain ⟨x,hx,-,hm⟩:=ja1 (l:=l) (k:=f+k) om;obtain ⟨y,hy,-,hm'⟩:=ja1 (l:=l) (k:=f+k+1) om;have e1:((f:Int)+k).toNat=f+k:=om
  have e2:((f:Int)+k+1).toNat=f+k+1:=om
  refine rcW (ai hx (ai hy (ai e1 e2))) (den_Next L x y a (hf x hm) (hf y hm') ha) ?_;obtain ⟨b,e⟩:=nextV_x x y a;rw[e];refine run ?_;refine round (k+1,nxt x y a) ⟨by simp only; omega,nxt_len (hf y hm') ha,?_⟩ zeh;simp only;rw[hall,show t-f-k=(t-f-(k+1))+1 by omega];simp only[walkN];rw[pl_at hx,pl_at hy,Nat.add_assoc]
 ·refine run ?_;refine fin ?_;rw[hall,show t-f-k=0 by omega]; rfl
theorem jpn (l:List Plan):jbe l=true↔(check l).2=0:=by simp[jbe]
theorem den_start (L:LibC T) (l:List Plan) (f t:Int) (hl:Fits l):Den prog T 352 [jad l,vi f,vi t] (vi (jdg l f t)):=by
 have hl0:=hl.1;refine ja0 call352 func352 29 ?_;refine rc (jko L l hl) ?_;by_cases hc:(check l).2=0
 ·have hg:=(jpn l).2 hc;by_cases h1:f<1
  ·refine run ?_;exact fin (ja5 (jp8 hg (.inl h1)).symm)
  by_cases h2:t<f
  ·refine run ?_;exact fin (ja5 (jp8 hg (.inr (.inl h2))).symm)
  by_cases h3:l.length<t
  ·refine run ?_;exact fin (ja5 (jp8 hg (.inr (.inr h3))).symm)
  refine run ?_;exact fin (ja5 (versErr_0 hg om).symm)
 ·have hg:jbe l=false:=by simp[jbe,hc]
  refine run ?_;exact fin (ja5 (versErr_1 hg).symm)
theorem den_FollowL (L:LibC T) (l:List Plan) (f t:Int) (s:Str) (hl:Fits l) (hs:s.length<=1048576):Den prog T 294 [jad l,vi f,vi t,.str s] (jhy l f t s):=by
 have hl0:=hl.1;refine ja0 call294 func294 33 ?_;refine rc (den_start L l f t hl) ?_;by_cases hv:jdg l f t=0
 ·obtain ⟨-,h1,h2,h3⟩:=versErr_z hv;obtain ⟨f,rfl⟩:=nat_of h1;obtain ⟨t,rfl⟩:=nat_of (show 1<=t by omega);rw[hv];obtain ⟨p,hp,-,hm⟩:=ja1 (l:=l) (k:=f) om;have hpl:pl l ((f:Int)+1-1).toNat=p:=by rw[Int.add_sub_cancel,Int.toNat_natCast,pl_at hp]
  have ef:(f:Int)+1-1=f:=Int.add_sub_cancel _ _;have et:(t:Int)+1-1=t:=Int.add_sub_cancel _ _;refine rcW (ai hp (ai ef et)) (jj0 p s (hl.2 p hm).1) ?_;cases hh:has p s
  ·refine run ?_;refine fin ?_;simp only[jhy,followR_7 hv (by rw[hpl]; exact hh)]
  ·refine rcW (ai ef et) (den_follow L l f t s hl om om hs) ?_;refine run ?_;refine fin ?_;simp only[jhy,followR_0 hv (by rw[hpl]; exact hh)];rw[walkI,ef,Int.toNat_natCast,show ((t:Int)+1-(f+1)).toNat=t-f by omega]
 ·refine run ?_;refine fin ?_;simp only[jhy,followR_e hv]
def fewP (p:Plan):Bool:= !((decide (16<p.cls.length) && !decide (p.cls.length=129)) || decide (16<p.mov.length)) && p.cls.all (fun c=> !(decide (100<c.code.length) || decide (100<c.title.length))) &&
 p.mov.all fun m=> !(decide (100<m.frm.length) || decide (100<m.to.length))
def few (l:List Plan):Bool:= !((decide (5<l.length) && decide (l.length<=16)) || decide (21<l.length)) && l.all fewP
theorem jej {α:Type} {l:List α} {q:α->Bool} {k:Nat} {x:α} (hx:l[k]? = some x) (hq:q x=false):l.all q=false:=
 List.all_eq_false.2 ⟨x,List.mem_of_getElem? hx,by simp[hq]⟩
theorem jj2 {α:Type} {l:List α} {q:α->Bool} {k:Nat} (h:∀e∈l.take k,q e=true) (hk:¬k<l.length):l.all q=true:=
 List.all_eq_true.2 (jcq h hk)
theorem den_FewPlan (p:Plan) (hp:p.Fit):Den prog T 135 [.agg p.cs] (vb (fewP p)):=by
 obtain ⟨h1,h2,h3,h4⟩:=hp;refine ja0 call135 func135 71 ?_;by_cases g:(16<p.cls.length/\p.cls.length≠129)\/16<p.mov.length
 ·have hf:fewP p=false:=by
   rcases g with ⟨g1,g2⟩ | g
   ·simp[fewP,g1,g2]
   ·simp[fewP,g]
  rw[hf];by_cases a1:16<p.cls.length
  ·by_cases a2:p.cls.length=129
   ·have a3:16<p.mov.length:=om
    exact za
   ·exact za
  ·have a3:16<p.mov.length:=om
   exact za
 ·have hq:fewP p=(p.cls.all (fun c=> !(decide (100<c.code.length) || decide (100<c.title.length))) && p.mov.all fun m=> !(decide (100<m.frm.length) || decide (100<m.to.length))):=by
   have e1:(decide (16<p.cls.length) && !decide (p.cls.length=129))=false:=by
    cases e:decide (16<p.cls.length)
    ·rfl
    ·have:16<p.cls.length:=by simpa using e
     have:p.cls.length=129:=om
     simp[this]
   have e2:decide (16<p.mov.length)=false:=by simp; omega
   simp only[fewP,e1,e2,Bool.or_false,Bool.not_false,Bool.true_and]
  have go:∀Q:Prop,(16<p.cls.length->p.cls.length=129->Q)->(¬ 16<p.cls.length->Q)->Q:=fun Q a b=>by
   by_cases a1:16<p.cls.length
   ·exact a a1 om
   ·exact b a1
  rw[hq];have a3:¬ 16<p.mov.length:=om
  refine go _ (fun a1 a2=> ?_) (fun a1=> ?_) <;>
  ·refine run ?_;refine ja7 ⟨[3,1],[1],[],[]⟩ p.cls.length (fun k=>∀c∈p.cls.take k,(!(decide (100<c.code.length) || decide (100<c.title.length)))=true) sm ?_;rintro k ⟨hk,hall⟩;by_cases hlt:k<p.cls.length
   ·obtain ⟨x,hx,hd,hm⟩:=ja1 hlt;obtain ⟨hx1,hx2⟩:=h3 x hm;by_cases g1:100<x.code.length
    ·refine runW hx ?_;refine fin (ja3 ?_);rw[jej (q:=fun c:Cls=> !(decide (100<c.code.length) || decide (100<c.title.length))) hx (by simp[g1])]; rfl
    by_cases g2:100<x.title.length
    ·refine runW hx ?_;refine fin (ja3 ?_);rw[jej (q:=fun c:Cls=> !(decide (100<c.code.length) || decide (100<c.title.length))) hx (by simp[g2])]; rfl
    refine runW hx ?_;exact round (k+1) ⟨om,jae (q:=fun c:Cls=>(!(decide (100<c.code.length) || decide (100<c.title.length)))=true) hall hx (by simp[g1,g2])⟩ om
   ·rw[jj2 (q:=fun c:Cls=> !(decide (100<c.code.length) || decide (100<c.title.length))) hall hlt,Bool.true_and];refine run ?_;refine ja7 ⟨[4,1],[1],[],[]⟩ p.mov.length (fun k=>∀m∈p.mov.take k,(!(decide (100<m.frm.length) || decide (100<m.to.length)))=true) sm ?_;rintro k ⟨hk,hall⟩;by_cases hlt:k<p.mov.length
    ·obtain ⟨x,hx,hd,hm⟩:=ja1 hlt;obtain ⟨hx1,hx2⟩:=h4 x hm;by_cases g1:100<x.frm.length
     ·refine runW hx ?_;refine fin (ja3 ?_);rw[jej (q:=fun m:Mov=> !(decide (100<m.frm.length) || decide (100<m.to.length))) hx (by simp[g1])]
     by_cases g2:100<x.to.length
     ·refine runW hx ?_;refine fin (ja3 ?_);rw[jej (q:=fun m:Mov=> !(decide (100<m.frm.length) || decide (100<m.to.length))) hx (by simp[g2])]
     refine runW hx ?_;exact round (k+1) ⟨om,jae (q:=fun m:Mov=>(!(decide (100<m.frm.length) || decide (100<m.to.length)))=true) hall hx (by simp[g1,g2])⟩ om
    ·refine run ?_;refine fin (ja3 ?_);rw[jj2 (q:=fun m:Mov=> !(decide (100<m.frm.length) || decide (100<m.to.length))) hall hlt]
theorem den_Few (l:List Plan) (hl:Fits l):Den prog T 79 [jad l] (vb (few l)):=by
 have hl0:=hl.1;refine ja0 call79 func79 29 ?_;by_cases g:(5<l.length/\l.length<=16)\/21<l.length
 ·have hf:few l=false:=by
   rcases g with ⟨g1,g2⟩ | g
   ·simp[few,g1,g2]
   ·simp[few,g]
  rw[hf];by_cases a1:l.length<=16
  ·have a2:5<l.length:=om
   exact za
  ·have a2:5<l.length:=om
   have a3:21<l.length:=om
   exact za
 ·have hq:few l=l.all fewP:=by
   have e1:(decide (5<l.length) && decide (l.length<=16))=false:=by
    cases e:decide (5<l.length)
    ·rfl
    ·have:5<l.length:=by simpa using e
     simp; omega
   have e2:decide (21<l.length)=false:=by simp; omega
   simp only[few,e1,e2,Bool.or_false,Bool.not_false,Bool.true_and]
  have go:∀Q:Prop,(5<l.length->¬l.length<=16->Q)->(¬ 5<l.length->Q)->Q:=fun Q a b=>by
   by_cases a1:5<l.length
   ·exact a a1 om
   ·exact b a1
  rw[hq];have a3:¬ 21<l.length:=om
  refine go _ (fun a1 a2=> ?_) (fun a1=> ?_) <;>
  ·refine run ?_;refine ja7 ⟨[3,0],[],[],[]⟩ l.length (fun k=>∀p∈l.take k,fewP p=true) sm ?_;rintro k ⟨hk,hall⟩;by_cases hlt:k<l.length
   ·obtain ⟨x,hx,hd,hm⟩:=ja1 hlt;refine rcW hx (den_FewPlan x (hl.2 x hm)) ?_;cases e:fewP x
    ·refine run ?_;refine fin (ja3 ?_);rw[jej hx e]
    ·refine run ?_;exact round (k+1) ⟨om,jae (q:=fun p:Plan=>fewP p=true) hall hx e⟩ om
   ·refine run ?_;refine fin (ja3 ?_);rw[jj2 hall hlt]
end Go.Arc
