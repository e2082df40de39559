/- A part of this claim. -/
import Derived.Test.YtagljlfkpofdnaaGreatDoorSp8
import Derived.Test.YtagljlfkpofdnaaGreatDoorW14
set_option maxRecDepth 100000
namespace Go.Arc
open Go.Ab Go.RowKit Go.Proofs
variable {T : Lay}
theorem den_ixNote (l:List Note) (f:FuncId) (cap:List V) (p:Note->Bool) (hl:l.length<=1048576) (hp:∀e∈l,Den Tryz.prog T f (.agg e.cs::cap) (vb (p e))):
   Den Tryz.prog T 337 [ntss l,.func f cap] (vi (ix p l)):=by
  refine den_of_body follows (fun args w=>Tryz.call337 args w) Tryz.func337 rfl 19 rfl ?_;refine run ?_
  refine loop ⟨[0,1,7,8],[],[],[]⟩ (fun k:Nat=>k<=l.length/\∀e∈l.take k,p e=false) (fun k=>l.length-k)
    (fun k=>⟨19,[(0,.v (ntss l)),(1,.v (.func f cap)),(7,.v (vi l.length)),(8,.v (vi k))],[],[]⟩) 0 ⟨by omega,by simp⟩ ?_
  rintro k ⟨hk,hall⟩;by_cases hlt:k<l.length
  · obtain ⟨x,hx,-,hm⟩:=drop_at hlt;refine runW hx ?_;refine call (hp x hm) ?_;cases hpc:p x
    · refine run ?_;exact round (k+1) ⟨by omega,take_snoc hall hx hpc⟩ (by omega)
    · refine run ?_;exact fin (vi_eq (ix_at hall hx hpc))
  · refine run ?_;exact fin (vi_eq (ix_none hall hlt))
theorem den_anyNote (l:List Note) (f:FuncId) (cap:List V) (p:Note->Bool) (hl:l.length<=1048576) (hp:∀e∈l,Den Tryz.prog T f (.agg e.cs::cap) (vb (p e))):
   Den Tryz.prog T 326 [ntss l,.func f cap] (vb (l.any p)):=by
  refine den_of_body follows (fun args w=>Tryz.call326 args w) Tryz.func326 rfl 9 rfl ?_;refine run ?_;refine call (den_ixNote l f cap p hl hp) ?_;refine run ?_;exact fin (vb_eq (ix_ge p l))
end Go.Arc
set_option maxRecDepth 100000
namespace Go.Arc
open Go.Ab Go.RowKit Go.Proofs
variable {T : Lay}
theorem den_State (f:Fil) (d:Int):Den Tryz.prog T 19 [.agg f.cs,vi d] (vi (state f d)):=by
 refine den_of_body follows (fun args w=>Tryz.call19 args w) Tryz.func19 rfl 15 rfl ?_;by_cases h1:d<f.opn
 ·refine run ?_;refine fin (vi_eq ?_);rw[state,if_pos h1]
 by_cases h2:d<f.cld
 ·refine run ?_;refine fin (vi_eq ?_);rw[state,if_neg h1,if_pos h2]
 ·refine run ?_;refine fin (vi_eq ?_);rw[state,if_neg h1,if_neg h2]
end Go.Arc
set_option maxRecDepth 100000
namespace Go.Arc
open Go.Ab Go.RowKit Go.Proofs
variable {T : Lay}
def fewN (n:Note):Bool:= !decide (100<n.name.length)
def fewF1 (f:Fil):Bool:= !(decide (20<f.nts.length) || (decide (100<f.title.length) || decide (100<f.cls.length))) && f.nts.all fewN
def fewF (l:List Fil):Bool:= !((decide (10<l.length) && decide (l.length<=256)) || decide (261<l.length)) && l.all fewF1
set_option maxHeartbeats 1000000 in
theorem den_FewF2 (l:List Fil) (hl0:l.length<=2097152) (hl:∀f∈l,f.Fit):Den Tryz.prog T 32 [fils l] (vb (fewF l)):=by
 refine den_of_body follows (fun args w=>Tryz.call32 args w) Tryz.func32 rfl 70 rfl ?_;by_cases g:(10<l.length/\l.length<=256)\/261<l.length
 ·have hf:fewF l=false:=by
   rcases g with ⟨g1,g2⟩ | g
   ·simp[fewF,g1,g2]
   ·simp[fewF,g]
  rw[hf];by_cases a1:l.length<=256
  ·have a2:10<l.length:=by omega
   refine run ?_;exact fin rfl
  ·have a2:10<l.length:=by omega
   have a3:261<l.length:=by omega
   refine run ?_;exact fin rfl
 ·have hq:fewF l=l.all fewF1:=by
   have e1:(decide (10<l.length) && decide (l.length<=256))=false:=by
    cases e:decide (10<l.length)
    ·rfl
    ·have:10<l.length:=by simpa using e
     simp; omega
   have e2:decide (261<l.length)=false:=by simp; omega
   simp only[fewF,e1,e2,Bool.or_false,Bool.not_false,Bool.true_and]
  have go:∀Q:Prop,(10<l.length->¬l.length<=256->Q)->(¬ 10<l.length->Q)->Q:=fun Q a b=>by
   by_cases a1:10<l.length
   ·exact a a1 (by omega)
   ·exact b a1
  rw[hq];have a3:¬ 261<l.length:=by omega
  refine go _ (fun a1 a2=> ?_) (fun a1=> ?_) <;>
  ·refine run ?_
   refine loop ⟨[0,3],[],[],[]⟩ (fun k:Nat=>k<=l.length/\∀p∈l.take k,fewF1 p=true) (fun k=>l.length-k)
    (fun k=>⟨70,[(0,.v (fils l)),(3,.v (vi k))],[],[]⟩) 0 ⟨by omega,by simp⟩ ?_
   rintro k ⟨hk,hall⟩;by_cases hlt:k<l.length
   ·obtain ⟨x,hx,hd,hm⟩:=drop_at hlt;obtain ⟨f1,f2,f3,f4⟩:=hl x hm;by_cases g1:20<x.nts.length
    ·refine runW hx ?_;refine fin (vb_eq ?_);rw[all_at hx (by simp[fewF1,g1])]
    by_cases g2:100<x.title.length
    ·refine runW hx ?_;refine fin (vb_eq ?_);rw[all_at hx (by simp[fewF1,g2])]
    by_cases g3:100<x.cls.length
    ·refine runW hx ?_;refine fin (vb_eq ?_);rw[all_at hx (by simp[fewF1,g3])]
    have hfx:fewF1 x=x.nts.all fewN:=by simp[fewF1,g1,g2,g3]
    refine runW hx ?_
    refine loop ⟨[0,3,4],[],[],[]⟩ (fun j:Nat=>j<=x.nts.length/\∀p∈x.nts.take j,fewN p=true) (fun j=>x.nts.length-j)
     (fun j=>⟨70,[(0,.v (fils l)),(3,.v (vi k)),(4,.v (vi j))],[],[]⟩) 0 ⟨by omega,by simp⟩ ?_
    rintro j ⟨hj,hallj⟩;by_cases hlt':j<x.nts.length
    ·obtain ⟨n,hn,hdn,hmn⟩:=drop_at hlt';have hn1:n.name.length<=1048576:=f4 n hmn;by_cases g4:100<n.name.length
     ·refine runW (And.intro hx hn) ?_;refine fin (vb_eq ?_);rw[all_at hx (by rw[hfx]; exact all_at hn (by simp[fewN,g4]))]
     ·refine runW (And.intro hx hn) ?_;exact round (j+1) ⟨by omega,take_snoc (q:=fun p:Note=>fewN p=true) hallj hn (by simp[fewN,g4])⟩ (by omega)
    ·have hfx':fewF1 x=true:=by rw[hfx]; exact all_end hallj hlt'
     refine runW hx ?_;exact round (k+1) ⟨by omega,take_snoc (q:=fun p:Fil=>fewF1 p=true) hall hx hfx'⟩ (by omega)
   ·refine run ?_;refine fin (vb_eq ?_);rw[all_end hall hlt]
theorem den_FewF (l:List Fil) (hl:FitsF l):Den Tryz.prog T 32 [fils l] (vb (fewF l)):=den_FewF2 l (Nat.le_trans hl.1 (by decide)) hl.2
end Go.Arc
set_option maxRecDepth 100000
namespace Go.Arc
open Go.Ab Go.RowKit Go.Proofs
variable {T : Lay}
end Go.Arc
set_option maxRecDepth 100000
namespace Go.Arc
open Go.Ab Go.RowKit Go.Proofs
variable {T : Lay}
theorem classR_1 {l:List Plan} {f:Fil} {d:Int} (h:goodL l=false):classR l f d=([],1):=by simp[classR,h]
theorem classR_24 {l:List Plan} {f:Fil} {d:Int} (h:goodL l=true) (h':idx l f.opn<0\/idx l d<idx l f.opn):classR l f d=([],24):=by simp[classR,h,h']
theorem classR_n {l:List Plan} {f:Fil} {d:Int} (h:goodL l=true) (h':has (pl l (idx l f.opn).toNat) f.cls=false):classR l f d=([],24):=by
 unfold classR; rw[if_neg (by simp[h])];split
 ·rfl
 ·first | rfl | rw[if_pos h']
theorem classR_0 {l:List Plan} {f:Fil} {d:Int} (h:goodL l=true) (h1:¬(idx l f.opn<0\/idx l d<idx l f.opn)) (h':has (pl l (idx l f.opn).toNat) f.cls=true):classR l f d=(walkI l (idx l f.opn+1) (idx l d+1) f.cls,0):=by
 unfold classR; rw[if_neg (by simp[h]),if_neg h1,if_neg (by simp[h'])]
theorem idx_some {l:List Plan} {d:Int} (h:¬idx l d<0):∃i:Nat,idx l d=i/\i<l.length:=by
 rcases idx_cases l d with ⟨h1,-⟩ | ⟨i,h1,h2,-⟩
 ·omega
 ·exact ⟨i,h1,h2⟩
theorem den_Class (L:LibC T) (l:List Plan) (f:Fil) (d:Int) (hl:Fits l) (hf:f.Fit):Den Tryz.prog T 18 [plans l,.agg f.cs,vi d] (classV l f d):=by
 have hl0:=hl.1;refine den_of_body follows (fun args w=>Tryz.call18 args w) Tryz.func18 rfl 49 rfl ?_;refine run ?_;refine call (den_CheckL L l hl) ?_;by_cases hc:(check l).2=0
 ·have hg:=(goodL_iff l).2 hc;refine run ?_;refine call (den_AtL L l f.opn hl) ?_;refine run ?_;refine call (den_AtL L l d hl) ?_;rw[atL_good hg,atL_good hg];by_cases h1:idx l f.opn<0
  ·rw[classV,classR_24 hg (.inl h1)];refine run ?_;exact fin rfl
  by_cases h2:idx l d<idx l f.opn
  ·rw[classV,classR_24 hg (.inr h2)];refine run ?_;exact fin rfl
  obtain ⟨i,hi,hil⟩:=idx_some h1;obtain ⟨j,hj,hjl⟩:=idx_some (l:=l) (d:=d) (by omega);rw[hi] at h1 h2 ⊢;rw[hj] at h2 ⊢;have hv:versErr l ((i:Int)+1) ((j:Int)+1)=0:=versErr_0 hg (by omega);have ei:((i:Int)+1-1).toNat=i:=by omega
  refine run ?_;refine call (den_FollowL L l ((i:Int)+1) ((j:Int)+1) f.cls hl hf.1) ?_;cases hh:has (pl l i) f.cls
  ·have e:followV l ((i:Int)+1) ((j:Int)+1) f.cls= .tup [.str [],vi 7]:=by simp only[followV,followR_7 hv (by rw[ei]; exact hh)]
   rw[e,classV,classR_n hg (by rw[hi,Int.toNat_natCast]; exact hh)];refine run ?_;exact fin rfl
  ·have e:followV l ((i:Int)+1) ((j:Int)+1) f.cls= .tup [.str (walkI l ((i:Int)+1) ((j:Int)+1) f.cls),vi 0]:=by simp only[followV,followR_0 hv (by rw[ei]; exact hh)]
   rw[e,classV,classR_0 hg (by omega) (by rw[hi,Int.toNat_natCast]; exact hh),hi,hj];refine run ?_;exact fin rfl
 ·have hg:goodL l=false:=by simp[goodL,hc]
  rw[classV,classR_1 hg];refine run ?_;exact fin rfl
end Go.Arc
set_option maxRecDepth 100000
namespace Go.Arc
open Go.Ab Go.RowKit Go.Proofs
variable {T : Lay}
end Go.Arc
