/- A part of this claim. -/
import Derived.Test.YtcmpmdgdchmojaaGreatDoorW17
set_option maxRecDepth 100000
namespace Go.Arc
open Go.Ab Go.RowKit Go.Proofs
variable {T : Lay}
theorem notes_nil {l:List Note} (h:l.map Note.cs=[]):l=[]:=by simpa using h
theorem flat_cells (l:List Note):(l.map Note.cs).flatten=cellsN l:=rfl
theorem notnot (p:Note->Bool):(fun e=> !!p e)=p:=by funext e; simp
theorem denN_Known (f:Fil) (d:Int) (hf:f.Fit):DenN Tryz.prog T 78 [.agg f.cs,vi d] 4 ((known f d).map Note.cs):=by
 have hl:=hf.2.2.1;refine denN_of_body follows (fun args w=>Tryz.call78 args w) Tryz.func78 rfl 10 rfl ?_;refine run ?_;refine callN (denN_cloneNote f.nts hl) ?_ ?_
 ·intro hz;have hz':=notes_nil hz;refine run ?_;refine call (den_delNote0 _ _) ?_;have hk:known f d=[]:=by rw[known,hz']; rfl
  rw[hk];refine run ?_;exact finN0 rfl (.refl _)
 ·intro hz;have hz':f.nts≠[]:=fun e=>hz (by rw[e]; rfl);rw[flat_cells];refine run ?_;refine callM 7 (denM_delNote f.nts _ _ (fun n=> !isKnown d n) hl hz' fun n _=>den_Known1 n d) ?_;rw[notnot];have hk:f.nts.filter (isKnown d)=known f d:=rfl;rw[hk];by_cases hne:known f d=[]
  ·rw[if_pos hne,hne];refine run ?_;exact finN0 rfl (.refl _)
  ·rw[if_neg hne];refine run ?_;refine finN (id:=7) [] ?_ ?_
   ·simp only[σ_mk,look_cons',↓reduceIte,List.length_map]
   ·rw[List.append_nil]; rfl
theorem den_KnownRef (f:Fil) (d:Int) (hf:f.Fit):DenO Tryz.prog T 179 [.agg f.cs,vi d] 144 (ntss (known f d)):=by
 have hl:=hf.2.2.1;refine denO_of_body follows (fun args w=>Tryz.call179 args w) Tryz.func179 rfl 32 rfl ?_;refine run ?_
 refine loop ⟨[1,2,5,6],[2],[5],[]⟩ (fun y:Nat×List Note=>y.1<=f.nts.length/\y.2=(f.nts.take y.1).filter (isKnown d)) (fun y=>f.nts.length-y.1)
  (fun y=>⟨32,[(1,.v (vi d)),(2,.p 2 0),(5,.v (ntss y.2)),(6,.v (vi y.1))],[(2,.var f.cs)],[(144,[5])]⟩) (0,[]) ⟨by simp,by simp⟩ ?_
 rintro ⟨k,out⟩ ⟨hk,hall⟩;simp only at hk hall;have hol:out.length<=k:=by rw[hall]; exact filter_take_le _ _ _
 by_cases hlt:k<f.nts.length
 ·obtain ⟨x,hx,hd,hm⟩:=drop_at hlt;have hfk:=filter_take (q:=isKnown d) hx;by_cases hr:x.rcd<=d
  ·have e:isKnown d x=true:=by simp[isKnown,hr]
   rw[if_pos e] at hfk;have hap:out.map Note.cs++[[V.str x.name,vi x.fst,vi x.lst,vi x.rcd]]=(out++[x]).map Note.cs:=by simp
   refine runW (And.intro hx hap) ?_;exact round (k+1,out++[x]) ⟨by simp only; omega,by simp only; rw[hfk,hall]⟩ (by simp only; omega)
  ·have e:¬isKnown d x=true:=by simp[isKnown,hr]
   rw[if_neg e] at hfk;refine runW hx ?_;exact round (k+1,out) ⟨by simp only; omega,by simp only; rw[hfk,hall]⟩ (by simp only; omega)
 ·have ho:out=known f d:=by rw[hall,List.take_of_length_le (by omega)]; rfl
  subst ho;refine run ?_;exact finO (.refl _)
def fewN (n:Note):Bool:= !decide (100<n.name.length)
def fewF1 (f:Fil):Bool:= !(decide (20<f.nts.length) || (decide (100<f.title.length) || decide (100<f.cls.length))) && f.nts.all fewN
def fewF (l:List Fil):Bool:= !((decide (10<l.length) && decide (l.length<=256)) || decide (261<l.length)) && l.all fewF1
set_option maxHeartbeats 1000000 in
theorem den_FewF2 (l:List Fil) (hl0:l.length<=2097152) (hl:∀f∈l,f.Fit):Den Tryz.prog T 43 [fils l] (vb (fewF l)):=by
 refine den_of_body follows (fun args w=>Tryz.call43 args w) Tryz.func43 rfl 70 rfl ?_;by_cases g:(10<l.length/\l.length<=256)\/261<l.length
 ·have hf:fewF l=false:=by
   rcases g with ⟨g1,g2⟩ | g
   ·simp[fewF,g1,g2]
   ·simp[fewF,g]
  rw[hf];by_cases a1:l.length<=256
  ·have a2:10<l.length:=by omega
   refine run ?_;exact fin rfl
  ·have a2:10<l.length:=by omega
   have a3:261<l.length:=by omega
   refine run ?_;exact fin rfl
 ·have hq:fewF l=l.all fewF1:=by
   have e1:(decide (10<l.length) && decide (l.length<=256))=false:=by
    cases e:decide (10<l.length)
    ·rfl
    ·have:10<l.length:=by simpa using e
     simp; omega
   have e2:decide (261<l.length)=false:=by simp; omega
   simp only[fewF,e1,e2,Bool.or_false,Bool.not_false,Bool.true_and]
  have go:∀Q:Prop,(10<l.length->¬l.length<=256->Q)->(¬ 10<l.length->Q)->Q:=fun Q a b=>by
   by_cases a1:10<l.length
   ·exact a a1 (by omega)
   ·exact b a1
  rw[hq];have a3:¬ 261<l.length:=by omega
  refine go _ (fun a1 a2=> ?_) (fun a1=> ?_) <;>
  ·refine run ?_
   refine loop ⟨[0,3],[],[],[]⟩ (fun k:Nat=>k<=l.length/\∀p∈l.take k,fewF1 p=true) (fun k=>l.length-k)
    (fun k=>⟨70,[(0,.v (fils l)),(3,.v (vi k))],[],[]⟩) 0 ⟨by omega,by simp⟩ ?_
   rintro k ⟨hk,hall⟩;by_cases hlt:k<l.length
   ·obtain ⟨x,hx,hd,hm⟩:=drop_at hlt;obtain ⟨f1,f2,f3,f4⟩:=hl x hm;by_cases g1:20<x.nts.length
    ·refine runW hx ?_;refine fin (vb_eq ?_);rw[all_at hx (by simp[fewF1,g1])]
    by_cases g2:100<x.title.length
    ·refine runW hx ?_;refine fin (vb_eq ?_);rw[all_at hx (by simp[fewF1,g2])]
    by_cases g3:100<x.cls.length
    ·refine runW hx ?_;refine fin (vb_eq ?_);rw[all_at hx (by simp[fewF1,g3])]
    have hfx:fewF1 x=x.nts.all fewN:=by simp[fewF1,g1,g2,g3]
    refine runW hx ?_
    refine loop ⟨[0,3,4],[],[],[]⟩ (fun j:Nat=>j<=x.nts.length/\∀p∈x.nts.take j,fewN p=true) (fun j=>x.nts.length-j)
     (fun j=>⟨70,[(0,.v (fils l)),(3,.v (vi k)),(4,.v (vi j))],[],[]⟩) 0 ⟨by omega,by simp⟩ ?_
    rintro j ⟨hj,hallj⟩;by_cases hlt':j<x.nts.length
    ·obtain ⟨n,hn,hdn,hmn⟩:=drop_at hlt';have hn1:n.name.length<=1048576:=f4 n hmn;by_cases g4:100<n.name.length
     ·refine runW (And.intro hx hn) ?_;refine fin (vb_eq ?_);rw[all_at hx (by rw[hfx]; exact all_at hn (by simp[fewN,g4]))]
     ·refine runW (And.intro hx hn) ?_;exact round (j+1) ⟨by omega,take_snoc (q:=fun p:Note=>fewN p=true) hallj hn (by simp[fewN,g4])⟩ (by omega)
    ·have hfx':fewF1 x=true:=by rw[hfx]; exact all_end hallj hlt'
     refine runW hx ?_;exact round (k+1) ⟨by omega,take_snoc (q:=fun p:Fil=>fewF1 p=true) hall hx hfx'⟩ (by omega)
   ·refine run ?_;refine fin (vb_eq ?_);rw[all_end hall hlt]
theorem den_FewF (l:List Fil) (hl:FitsF l):Den Tryz.prog T 43 [fils l] (vb (fewF l)):=den_FewF2 l (Nat.le_trans hl.1 (by decide)) hl.2
end Go.Arc
