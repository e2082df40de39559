/- A part of this claim. -/
import Derived.Test.YtnmclbgpndpedaaGreatDoorW17
set_option maxRecDepth 100000
namespace Go.Arc
open Go.Ab Go.RowKit Go.Proofs Tryz
variable {T : Lay}
theorem notes_nil {l:List Note} (h:l.map Note.cs=[]):l=[]:=by simpa using h
theorem flat_cells (l:List Note):(l.map Note.cs).flatten=bq l:=rfl
theorem notnot (p:Note->Bool):(fun e=> !!p e)=p:=by funext e; simp
theorem denN_Known (f:Fil) (d:Int) (hf:f.Fit):DenN prog T 152 [.agg f.cs,vi d] 4 ((jcy f d).map Note.cs):=by
 have hl:=hf.2.2.1;refine jr2 follows (fun args w=>call152 args w) func152 rfl 10 rfl ?_;refine run ?_;refine callN (denN_cloneNote f.nts hl) ?_ ?_
 ·intro hz;have hz':=notes_nil hz;refine run ?_;refine call (jqz _ _) ?_;have hk:jcy f d=[]:=by rw[jcy,hz']; rfl
  rw[hk];refine run ?_;exact finN0 rfl (.refl _)
 ·intro hz;have hz':f.nts≠[]:=fun e=>hz (by rw[e]; rfl);rw[flat_cells];refine run ?_;refine callM 7 (jr3 f.nts _ _ (fun n=> !jj6 d n) hl hz' fun n _=>den_Known1 n d) ?_;rw[notnot];have hk:f.nts.filter (jj6 d)=jcy f d:=rfl;rw[hk];by_cases hne:jcy f d=[]
  ·rw[if_pos hne,hne];refine run ?_;exact finN0 rfl (.refl _)
  ·rw[if_neg hne];refine run ?_;refine finN (id:=7) [] ?_ ?_
   ·simp only[σ_mk,an,↓reduceIte,List.length_map]
   ·rw[List.append_nil]; rfl
def fewN (n:Note):Bool:= !decide (100<n.name.length)
def fewF1 (f:Fil):Bool:= !(decide (20<f.nts.length) || (decide (100<f.title.length) || decide (100<f.cls.length))) && f.nts.all fewN
def fewF (l:List Fil):Bool:= !((decide (10<l.length) && decide (l.length<=256)) || decide (261<l.length)) && l.all fewF1
set_option maxHeartbeats 1000000 in
theorem den_FewF2 (l:List Fil) (hl0:l.length<=2097152) (hl:∀f∈l,f.Fit):Den prog T 62 [fils l] (vb (fewF l)):=by
 refine ae follows (fun args w=>call62 args w) func62 rfl 70 rfl ?_;by_cases g:(10<l.length/\l.length<=256)\/261<l.length
 ·have hf:fewF l=false:=by
   rcases g with ⟨g1,g2⟩ | g
   ·simp[fewF,g1,g2]
   ·simp[fewF,g]
  rw[hf];by_cases a1:l.length<=256
  ·have a2:10<l.length:=by omega
   refine run ?_;exact fin rfl
  ·have a2:10<l.length:=by omega
   have a3:261<l.length:=by omega
   refine run ?_;exact fin rfl
 ·have hq:fewF l=l.all fewF1:=by
   have e1:(decide (10<l.length) && decide (l.length<=256))=false:=by
    cases e:decide (10<l.length)
    ·rfl
    ·have:10<l.length:=by simpa using e
     simp; omega
   have e2:decide (261<l.length)=false:=by simp; omega
   simp only[fewF,e1,e2,Bool.or_false,Bool.not_false,Bool.true_and]
  have go:∀Q:Prop,(10<l.length->¬l.length<=256->Q)->(¬ 10<l.length->Q)->Q:=fun Q a b=>by
   by_cases a1:10<l.length
   ·exact a a1 (by omega)
   ·exact b a1
  rw[hq];have a3:¬ 261<l.length:=by omega
  refine go _ (fun a1 a2=> ?_) (fun a1=> ?_) <;>
  ·refine run ?_
   refine loop ⟨[0,3],[],[],[]⟩ (fun k:Nat=>k<=l.length/\∀p∈l.take k,fewF1 p=true) (fun k=>l.length-k)
    (fun k=>⟨70,[(0,.v (fils l)),(3,.v (vi k))],[],[]⟩) 0 ⟨by omega,by simp⟩ ?_
   rintro k ⟨hk,hall⟩;by_cases hlt:k<l.length
   ·obtain ⟨x,hx,hd,hm⟩:=aj hlt;obtain ⟨f1,f2,f3,f4⟩:=hl x hm;by_cases g1:20<x.nts.length
    ·refine runW hx ?_;refine fin (ak ?_);rw[jcd hx (by simp[fewF1,g1])]
    by_cases g2:100<x.title.length
    ·refine runW hx ?_;refine fin (ak ?_);rw[jcd hx (by simp[fewF1,g2])]
    by_cases g3:100<x.cls.length
    ·refine runW hx ?_;refine fin (ak ?_);rw[jcd hx (by simp[fewF1,g3])]
    have hfx:fewF1 x=x.nts.all fewN:=by simp[fewF1,g1,g2,g3]
    refine runW hx ?_
    refine loop ⟨[0,3,4],[],[],[]⟩ (fun j:Nat=>j<=x.nts.length/\∀p∈x.nts.take j,fewN p=true) (fun j=>x.nts.length-j)
     (fun j=>⟨70,[(0,.v (fils l)),(3,.v (vi k)),(4,.v (vi j))],[],[]⟩) 0 ⟨by omega,by simp⟩ ?_
    rintro j ⟨hj,hallj⟩;by_cases hlt':j<x.nts.length
    ·obtain ⟨n,hn,hdn,hmn⟩:=aj hlt';have hn1:n.name.length<=1048576:=f4 n hmn;by_cases g4:100<n.name.length
     ·refine runW (ai hx hn) ?_;refine fin (ak ?_);rw[jcd hx (by rw[hfx]; exact jcd hn (by simp[fewN,g4]))]
     ·refine runW (ai hx hn) ?_;exact round (j+1) ⟨by omega,br (q:=fun p:Note=>fewN p=true) hallj hn (by simp[fewN,g4])⟩ (by omega)
    ·have hfx':fewF1 x=true:=by rw[hfx]; exact jkd hallj hlt'
     refine runW hx ?_;exact round (k+1) ⟨by omega,br (q:=fun p:Fil=>fewF1 p=true) hall hx hfx'⟩ (by omega)
   ·refine run ?_;refine fin (ak ?_);rw[jkd hall hlt]
theorem den_FewF (l:List Fil) (hl:FitsF l):Den prog T 62 [fils l] (vb (fewF l)):=den_FewF2 l (Nat.le_trans hl.1 (by decide)) hl.2
end Go.Arc
