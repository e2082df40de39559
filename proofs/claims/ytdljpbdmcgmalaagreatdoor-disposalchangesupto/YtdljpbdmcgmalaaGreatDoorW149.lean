/- A part of this claim. -/
import Derived.Test.YtdljpbdmcgmalaaGreatDoorBaX
set_option maxRecDepth 100000
namespace Go.Arc
open Go.Ab Go.RowKit Go.Proofs Tryz
variable {T : Lay}
def manyS (l:List Sel):Bool:=l.any fun s=>decide (12<s.fls.length)
def manyC (l:List Crt):Bool:=l.any fun s=>decide (12<s.fls.length)
def fewG0 (r:Rgs):Bool:=fewO r.ofs && few r.pls && fewF r.fls && fewR r.rls && fewH r.hls && !decide (8<r.sls.length) && !decide (8<r.crs.length) && !decide (8<r.dps.length)
def fewG (r:Rgs):Bool:=fewG0 r && !manyS r.sls && !manyC r.crs
theorem den_FewG (r:Rgs) (h:r.Fit):Den prog T 25 [.agg r.cs] (vb (fewG r)):=by
 have hs:=h.sls.1;have hc:=h.crs.1;have hd:=h.dps;refine ja0 call25 func25 81 ?_;unfold fewG fewG0;refine rc (den_FewO r.ofs h.ofs) ?_;cases e1:fewO r.ofs
 ·exact za
 refine rc (den_Few r.pls h.pls) ?_;cases e2:few r.pls
 ·exact za
 refine rc (den_FewF r.fls h.fls) ?_;cases e3:fewF r.fls
 ·exact za
 refine rc (den_FewR r.rls h.rls) ?_;cases e4:fewR r.rls
 ·exact za
 refine rc (den_FewH r.hls h.hls) ?_;cases e5:fewH r.hls
 ·exact za
 by_cases g1:8<r.sls.length
 ·rw[decide_eq_true g1];refine runW (eq_true g1) ?_;exact fin rfl
 by_cases g2:8<r.crs.length
 ·rw[decide_eq_true g2,decide_eq_false g1];refine runW (ai (eq_false g1) (eq_true g2)) ?_;exact fin rfl
 by_cases g3:8<r.dps.length
 ·rw[decide_eq_true g3,decide_eq_false g2,decide_eq_false g1];refine runW (ai (eq_false g1) (ai (eq_false g2) (eq_true g3))) ?_;exact fin rfl
 rw[decide_eq_false g3,decide_eq_false g2,decide_eq_false g1];refine runW (ai (eq_false g1) (ai (eq_false g2) (eq_false g3))) ?_;refine ja7 ⟨[3,1],[1],[],[]⟩ r.sls.length (fun k=>∀s∈r.sls.take k,decide (12<s.fls.length)=false) sm ?_;rintro k ⟨hk,hall⟩;by_cases hlt:k<r.sls.length
 ·obtain ⟨x,hx,-,hm⟩:=ja1 hlt;have hxf:=h.sls.2 x hm;by_cases hb:12<x.fls.length
  ·have hmany:manyS r.sls=true:=List.any_eq_true.2 ⟨x,hm,decide_eq_true hb⟩;rw[hmany];refine runW (ai hx (eq_true hb)) ?_;exact fin rfl
  ·refine runW (ai hx (eq_false hb)) ?_;exact round (k+1) ⟨hlt,jae hall hx (decide_eq_false hb)⟩ om
 have hms:manyS r.sls=false:=List.any_eq_false.2 fun x hx=>by rw[jcq hall hlt x hx]; decide
 rw[hms];clear hall;refine run ?_;refine ja7 ⟨[4,1],[1],[],[]⟩ r.crs.length (fun k=>∀s∈r.crs.take k,decide (12<s.fls.length)=false) sm ?_;rintro j ⟨hj,hall⟩;by_cases hjl:j<r.crs.length
 ·obtain ⟨x,hx,-,hm⟩:=ja1 hjl;have hxf:=(h.crs.2 x hm).1;by_cases hb:12<x.fls.length
  ·have hmany:manyC r.crs=true:=List.any_eq_true.2 ⟨x,hm,decide_eq_true hb⟩;rw[hmany];refine runW (ai hx (eq_true hb)) ?_;exact fin rfl
  ·refine runW (ai hx (eq_false hb)) ?_;exact round (j+1) ⟨hjl,jae hall hx (decide_eq_false hb)⟩ om
 have hmc:manyC r.crs=false:=List.any_eq_false.2 fun x hx=>by rw[jcq hall hjl x hx]; decide
 rw[hmc];exact za
end Go.Arc
