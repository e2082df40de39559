/- A part of this claim. -/
import Derived.Test.YtnmclbgpndpedaaGreatDoorW19
set_option maxRecDepth 100000
namespace Go.Arc
open Go.Ab Go.RowKit Go.Proofs Tryz
variable {T : Lay}
theorem classR_1 {l:List Plan} {f:Fil} {d:Int} (h:goodL l=false):cg l f d=([],1):=by simp[cg,h]
theorem classR_24 {l:List Plan} {f:Fil} {d:Int} (h:goodL l=true) (h':idx l f.opn<0\/idx l d<idx l f.opn):cg l f d=([],24):=by simp[cg,h,h']
theorem classR_n {l:List Plan} {f:Fil} {d:Int} (h:goodL l=true) (h':has (pl l (idx l f.opn).toNat) f.cls=false):cg l f d=([],24):=by
 unfold cg; rw[if_neg (by simp[h])];split
 ·rfl
 ·first | rfl | rw[if_pos h']
theorem classR_0 {l:List Plan} {f:Fil} {d:Int} (h:goodL l=true) (h1:¬(idx l f.opn<0\/idx l d<idx l f.opn)) (h':has (pl l (idx l f.opn).toNat) f.cls=true):cg l f d=(walkI l (idx l f.opn+1) (idx l d+1) f.cls,0):=by
 unfold cg; rw[if_neg (by simp[h]),if_neg h1,if_neg (by simp[h'])]
theorem idx_some {l:List Plan} {d:Int} (h:¬idx l d<0):∃i:Nat,idx l d=i/\i<l.length:=by
 rcases idx_cases l d with ⟨h1,-⟩ | ⟨i,h1,h2,-⟩
 ·omega
 ·exact ⟨i,h1,h2⟩
theorem den_Class (L:LibC T) (l:List Plan) (f:Fil) (d:Int) (hl:Fits l) (hf:f.Fit):Den prog T 86 [au l,.agg f.cs,vi d] (classV l f d):=by
 have hl0:=hl.1;refine ae follows (fun args w=>call86 args w) func86 rfl 49 rfl ?_;refine run ?_;refine call (jlt L l hl) ?_;by_cases hc:(check l).2=0
 ·have hg:=(jq0 l).2 hc;refine run ?_;refine call (den_AtL L l f.opn hl) ?_;refine run ?_;refine call (den_AtL L l d hl) ?_;rw[atL_good hg,atL_good hg];by_cases h1:idx l f.opn<0
  ·rw[classV,classR_24 hg (.inl h1)];refine run ?_;exact fin rfl
  by_cases h2:idx l d<idx l f.opn
  ·rw[classV,classR_24 hg (.inr h2)];refine run ?_;exact fin rfl
  obtain ⟨i,hi,hil⟩:=idx_some h1;obtain ⟨j,hj,hjl⟩:=idx_some (l:=l) (d:=d) (by omega);rw[hi] at h1 h2 ⊢;rw[hj] at h2 ⊢;have hv:jb8 l ((i:Int)+1) ((j:Int)+1)=0:=versErr_0 hg (by omega);have ei:((i:Int)+1-1).toNat=i:=by omega
  refine run ?_;refine call (den_FollowL L l ((i:Int)+1) ((j:Int)+1) f.cls hl hf.1) ?_;cases hh:has (pl l i) f.cls
  ·have e:jj7 l ((i:Int)+1) ((j:Int)+1) f.cls= .tup [.str [],vi 7]:=by simp only[jj7,followR_7 hv (by rw[ei]; exact hh)]
   rw[e,classV,classR_n hg (by rw[hi,Int.toNat_natCast]; exact hh)];refine run ?_;exact fin rfl
  ·have e:jj7 l ((i:Int)+1) ((j:Int)+1) f.cls= .tup [.str (walkI l ((i:Int)+1) ((j:Int)+1) f.cls),vi 0]:=by simp only[jj7,followR_0 hv (by rw[ei]; exact hh)]
   rw[e,classV,classR_0 hg (by omega) (by rw[hi,Int.toNat_natCast]; exact hh),hi,hj];refine run ?_;exact fin rfl
 ·have hg:goodL l=false:=by simp[goodL,hc]
  rw[classV,classR_1 hg];refine run ?_;exact fin rfl
end Go.Arc
