/- A part of this claim. -/
import Derived.Test.YtpaallejmocmaaaGreatDoorBaX
set_option maxRecDepth 100000
namespace Go.Arc
open Go.Ab Go.RowKit Go.Proofs Tryz
variable {T : Lay}
def jr1(l:List Sel):Bool:=l.any fun s=>decide (12<s.fls.length)
def jr2(l:List Crt):Bool:=l.any fun s=>decide (12<s.fls.length)
def jr9(r:Rgs):Bool:=fewO r.ofs && few r.pls && fewF r.fls && fewR r.rls && fewH r.hls && !decide (8<r.sls.length) && !decide (8<r.crs.length) && !decide (8<r.dps.length)
def fewG(r:Rgs):Bool:=jr9 r && !jr1 r.sls && !jr2 r.crs
theorem qqe(r:Rgs)(h:r.Fit):Den prog T 16 [.agg r.cs] (vb (fewG r)):=by
 have hs:=h.sls.1;have hc:=h.crs.1;have hd:=h.dps;refine ab call16 func16 81 ?_;unfold fewG jr9;refine rc (qqc r.ofs h.ofs) ?_;cases e1:fewO r.ofs
 .exact za
 refine rc (qsn r.pls h.pls) ?_;cases e2:few r.pls
 .exact za
 refine rc (qqf r.fls h.fls) ?_;cases e3:fewF r.fls
 .exact za
 refine rc (qqb r.rls h.rls) ?_;cases e4:fewR r.rls
 .exact za
 refine rc (qqd r.hls h.hls) ?_;cases e5:fewH r.hls
 .exact za
 by_cases g1:8<r.sls.length
 .rw[ur g1];refine runW (uo g1) ?_;exact fin rfl
 by_cases g2:8<r.crs.length
 .rw[ur g2,ux g1];refine runW (ai (un g1) (uo g2)) ?_;exact fin rfl
 by_cases g3:8<r.dps.length
 .rw[ur g3,ux g2,ux g1];refine runW (ai (un g1) (ai (un g2) (uo g3))) ?_;exact fin rfl
 rw[ux g3,ux g2,ux g1];refine runW (ai (un g1) (ai (un g2) (un g3))) ?_;refine aj ⟨[3,1],[1],[],[]⟩ r.sls.length (fun k=>∀s∈r.sls.take k,decide (12<s.fls.length)=false) smq ?_;rintro k ⟨hk,hall⟩;by_cases hlt:k<r.sls.length
 .obtain⟨x,hx,-,hm⟩:=ac hlt;have hxf:=h.sls.2 x hm;by_cases hb:12<x.fls.length
  .have hmany:jr1 r.sls=true:=vp.2 ⟨x,hm,ur hb⟩;rw[hmany];refine runW (ai hx (uo hb)) ?_;exact fin rfl
  refine runW (ai hx (un hb)) ?_;exact round (k+1) ⟨hlt,an hall hx (ux hb)⟩ omq
 have hms:jr1 r.sls=false:=vn.2 fun x hx=>by rw[dh hall hlt x hx];decide
 rw[hms];clear hall;refine run ?_;refine aj ⟨[4,1],[1],[],[]⟩ r.crs.length (fun k=>∀s∈r.crs.take k,decide (12<s.fls.length)=false) smq ?_;rintro j ⟨hj,hall⟩;by_cases hjl:j<r.crs.length
 .obtain⟨x,hx,-,hm⟩:=ac hjl;have hxf:=(h.crs.2 x hm).1;by_cases hb:12<x.fls.length
  .have hmany:jr2 r.crs=true:=vp.2 ⟨x,hm,ur hb⟩;rw[hmany];refine runW (ai hx (uo hb)) ?_;exact fin rfl
  refine runW (ai hx (un hb)) ?_;exact round (j+1) ⟨hjl,an hall hx (ux hb)⟩ omq
 have hmc:jr2 r.crs=false:=vn.2 fun x hx=>by rw[dh hall hjl x hx];decide
 rw[hmc];exact za
end Go.Arc
