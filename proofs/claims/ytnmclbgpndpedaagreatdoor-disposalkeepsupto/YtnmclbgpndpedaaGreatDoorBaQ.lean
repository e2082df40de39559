/- A part of this claim. -/
import Derived.Test.YtnmclbgpndpedaaGreatDoorWL3
import Derived.Test.YtnmclbgpndpedaaGreatDoorBaU
import Derived.Test.YtnmclbgpndpedaaGreatDoorBaZ
set_option maxRecDepth 100000
namespace Go.Arc
open Go.Ab Go.RowKit Go.Proofs Tryz
variable {T : Lay}
def manyS (l:List Sel):Bool:=l.any fun s=>decide (12<s.fls.length)
def manyC (l:List Crt):Bool:=l.any fun s=>decide (12<s.fls.length)
def fewG0 (r:Rgs):Bool:=fewO r.ofs && few r.pls && fewF r.fls && fewR r.rls && fewH r.hls && !decide (8<r.sls.length) && !decide (8<r.crs.length) && !decide (8<r.dps.length)
def fewG (r:Rgs):Bool:=fewG0 r && !manyS r.sls && !manyC r.crs
theorem den_FewG (r:Rgs) (h:r.Fit):Den prog T 24 [.agg r.cs] (vb (fewG r)):=by
 have hs:=h.sls.1;have hc:=h.crs.1;have hd:=h.dps;refine ae follows (fun args w=>call24 args w) func24 rfl 81 rfl ?_;unfold fewG fewG0;refine run ?_;refine call (den_FewO r.ofs h.ofs) ?_;cases e1:fewO r.ofs
 ·refine run ?_;exact fin rfl
 refine run ?_;refine call (den_Few r.pls h.pls) ?_;cases e2:few r.pls
 ·refine run ?_;exact fin rfl
 refine run ?_;refine call (den_FewF r.fls h.fls) ?_;cases e3:fewF r.fls
 ·refine run ?_;exact fin rfl
 refine run ?_;refine call (den_FewR r.rls h.rls) ?_;cases e4:fewR r.rls
 ·refine run ?_;exact fin rfl
 refine run ?_;refine call (den_FewH r.hls h.hls) ?_;cases e5:fewH r.hls
 ·refine run ?_;exact fin rfl
 by_cases g1:8<r.sls.length
 ·rw[decide_eq_true g1];refine runW (eq_true g1) ?_;exact fin rfl
 by_cases g2:8<r.crs.length
 ·rw[decide_eq_true g2,decide_eq_false g1];refine runW (ai (eq_false g1) (eq_true g2)) ?_;exact fin rfl
 by_cases g3:8<r.dps.length
 ·rw[decide_eq_true g3,decide_eq_false g2,decide_eq_false g1];refine runW (ai (eq_false g1) (ai (eq_false g2) (eq_true g3))) ?_;exact fin rfl
 rw[decide_eq_false g3,decide_eq_false g2,decide_eq_false g1];refine runW (ai (eq_false g1) (ai (eq_false g2) (eq_false g3))) ?_
 refine loop ⟨[1,3],[1],[],[]⟩ (fun k:Nat=>k<=r.sls.length/\∀s∈r.sls.take k,decide (12<s.fls.length)=false) (fun k=>r.sls.length-k)
  (fun k=>⟨81,[(1,.p 1 0),(3,.v (vi k))],[(1,.var r.cs)],[]⟩) 0 ⟨Nat.zero_le _,by simp⟩ ?_
 rintro k ⟨hk,hall⟩;by_cases hlt:k<r.sls.length
 ·obtain ⟨x,hx,-,hm⟩:=aj hlt;have hxf:=h.sls.2 x hm;by_cases hb:12<x.fls.length
  ·have hmany:manyS r.sls=true:=List.any_eq_true.2 ⟨x,hm,decide_eq_true hb⟩;rw[hmany];refine runW (ai hx (eq_true hb)) ?_;exact fin rfl
  ·refine runW (ai hx (eq_false hb)) ?_;exact round (k+1) ⟨hlt,br hall hx (decide_eq_false hb)⟩ (by omega)
 have hms:manyS r.sls=false:=List.any_eq_false.2 fun x hx=>by rw[jev hall hlt x hx]; decide
 rw[hms];clear hall;refine run ?_
 refine loop ⟨[1,4],[1],[],[]⟩ (fun k:Nat=>k<=r.crs.length/\∀s∈r.crs.take k,decide (12<s.fls.length)=false) (fun k=>r.crs.length-k)
  (fun k=>⟨81,[(1,.p 1 0),(4,.v (vi k))],[(1,.var r.cs)],[]⟩) 0 ⟨Nat.zero_le _,by simp⟩ ?_
 rintro j ⟨hj,hall⟩;by_cases hjl:j<r.crs.length
 ·obtain ⟨x,hx,-,hm⟩:=aj hjl;have hxf:=(h.crs.2 x hm).1;by_cases hb:12<x.fls.length
  ·have hmany:manyC r.crs=true:=List.any_eq_true.2 ⟨x,hm,decide_eq_true hb⟩;rw[hmany];refine runW (ai hx (eq_true hb)) ?_;exact fin rfl
  ·refine runW (ai hx (eq_false hb)) ?_;exact round (j+1) ⟨hjl,br hall hx (decide_eq_false hb)⟩ (by omega)
 have hmc:manyC r.crs=false:=List.any_eq_false.2 fun x hx=>by rw[jev hall hjl x hx]; decide
 rw[hmc];refine run ?_;exact fin rfl
theorem denU_cloneOfc (l:List Ofc) (hl:l.length<=1048576):DenU prog T 167 [ofcs l] (jdj 112 5 (l.map Ofc.cs)):=by
 refine jci follows (fun args w=>call167 args w) func167 rfl 8 rfl ?_;cases l with
 | nil=>
  refine je1 ?_;refine run ?_;intro b;cases b
  ·refine run ?_;refine .inr ⟨2,7,112,5,rfl,rfl,by kernel_rfl,by decide,rfl,?_,fun r cap hcap=> ?_⟩
   ·exact ⟨_,_,ar rfl,.refl _,.inl (.inl ⟨rfl,rfl,rfl⟩)⟩
   ·exact ⟨_,_,ar rfl,.refl _,.inr ⟨7,_,r,rfl,rfl,.inr ⟨r,cap,rfl,Nat.zero_le _,hcap,rfl⟩⟩⟩
  ·refine run ?_;exact .inl ⟨_,_,ar rfl,.refl _,.inl (.inl ⟨rfl,rfl,rfl⟩)⟩
 | cons x r=>
  have h:r.length+1<=1048576:=hl;have e:ofcs (x::r)= .slice 5 (Ofc.cs x::r.map Ofc.cs):=rfl;rw[e];refine runB trivial ?_;refine jbc ?_;unfold appR;refine run ?_;intro r' cap' hnm h1 h2;refine run ?_;refine ⟨_,_,ar rfl,.refl _,.inr ⟨7,_,r',rfl,rfl,.inr ⟨r',cap',rfl,?_,h2,?_⟩⟩⟩
  ·simpa using h1
  ·simp
theorem denU_clonePln (l:List Plan) (hl:l.length<=1048576):DenU prog T 168 [au l] (jdj 118 5 (l.map Plan.cs)):=by
 refine jci follows (fun args w=>call168 args w) func168 rfl 8 rfl ?_;cases l with
 | nil=>
  refine je1 ?_;refine run ?_;intro b;cases b
  ·refine run ?_;refine .inr ⟨2,7,118,5,rfl,rfl,by kernel_rfl,by decide,rfl,?_,fun r cap hcap=> ?_⟩
   ·exact ⟨_,_,ar rfl,.refl _,.inl (.inl ⟨rfl,rfl,rfl⟩)⟩
   ·exact ⟨_,_,ar rfl,.refl _,.inr ⟨7,_,r,rfl,rfl,.inr ⟨r,cap,rfl,Nat.zero_le _,hcap,rfl⟩⟩⟩
  ·refine run ?_;exact .inl ⟨_,_,ar rfl,.refl _,.inl (.inl ⟨rfl,rfl,rfl⟩)⟩
 | cons x r=>
  have h:r.length+1<=1048576:=hl;have e:au (x::r)= .slice 5 (Plan.cs x::r.map Plan.cs):=rfl;rw[e];refine runB trivial ?_;refine jbc ?_;unfold appR;refine run ?_;intro r' cap' hnm h1 h2;refine run ?_;refine ⟨_,_,ar rfl,.refl _,.inr ⟨7,_,r',rfl,rfl,.inr ⟨r',cap',rfl,?_,h2,?_⟩⟩⟩
  ·simpa using h1
  ·simp
theorem denU_cloneFil (l:List Fil) (hl:l.length<=1048576):DenU prog T 169 [fils l] (jdj 86 8 (l.map Fil.cs)):=by
 refine jci follows (fun args w=>call169 args w) func169 rfl 8 rfl ?_;cases l with
 | nil=>
  refine je1 ?_;refine run ?_;intro b;cases b
  ·refine run ?_;refine .inr ⟨2,7,86,8,rfl,rfl,by kernel_rfl,by decide,rfl,?_,fun r cap hcap=> ?_⟩
   ·exact ⟨_,_,ar rfl,.refl _,.inl (.inl ⟨rfl,rfl,rfl⟩)⟩
   ·exact ⟨_,_,ar rfl,.refl _,.inr ⟨7,_,r,rfl,rfl,.inr ⟨r,cap,rfl,Nat.zero_le _,hcap,rfl⟩⟩⟩
  ·refine run ?_;exact .inl ⟨_,_,ar rfl,.refl _,.inl (.inl ⟨rfl,rfl,rfl⟩)⟩
 | cons x r=>
  have h:r.length+1<=1048576:=hl;have e:fils (x::r)= .slice 8 (Fil.cs x::r.map Fil.cs):=rfl;rw[e];refine runB trivial ?_;refine jbc ?_;unfold appR;refine run ?_;intro r' cap' hnm h1 h2;refine run ?_;refine ⟨_,_,ar rfl,.refl _,.inr ⟨7,_,r',rfl,rfl,.inr ⟨r',cap',rfl,?_,h2,?_⟩⟩⟩
  ·simpa using h1
  ·simp
theorem denU_cloneSel (l:List Sel) (hl:l.length<=1048576):DenU prog T 176 [sels l] (jdj 134 3 (l.map Sel.cs)):=by
 refine jci follows (fun args w=>call176 args w) func176 rfl 8 rfl ?_;cases l with
 | nil=>
  refine je1 ?_;refine run ?_;intro b;cases b
  ·refine run ?_;refine .inr ⟨2,7,134,3,rfl,rfl,by kernel_rfl,by decide,rfl,?_,fun r cap hcap=> ?_⟩
   ·exact ⟨_,_,ar rfl,.refl _,.inl (.inl ⟨rfl,rfl,rfl⟩)⟩
   ·exact ⟨_,_,ar rfl,.refl _,.inr ⟨7,_,r,rfl,rfl,.inr ⟨r,cap,rfl,Nat.zero_le _,hcap,rfl⟩⟩⟩
  ·refine run ?_;exact .inl ⟨_,_,ar rfl,.refl _,.inl (.inl ⟨rfl,rfl,rfl⟩)⟩
 | cons x r=>
  have h:r.length+1<=1048576:=hl;have e:sels (x::r)= .slice 3 (Sel.cs x::r.map Sel.cs):=rfl;rw[e];refine runB trivial ?_;refine jbc ?_;unfold appR;refine run ?_;intro r' cap' hnm h1 h2;refine run ?_;refine ⟨_,_,ar rfl,.refl _,.inr ⟨7,_,r',rfl,rfl,.inr ⟨r',cap',rfl,?_,h2,?_⟩⟩⟩
  ·simpa using h1
  ·simp
theorem denU_clonePrp (l:List Prp) (hl:l.length<=1048576):DenU prog T 177 [prps l] (jdj 42 5 (l.map Prp.cs)):=by
 refine jci follows (fun args w=>call177 args w) func177 rfl 8 rfl ?_;cases l with
 | nil=>
  refine je1 ?_;refine run ?_;intro b;cases b
  ·refine run ?_;refine .inr ⟨2,7,42,5,rfl,rfl,by kernel_rfl,by decide,rfl,?_,fun r cap hcap=> ?_⟩
   ·exact ⟨_,_,ar rfl,.refl _,.inl (.inl ⟨rfl,rfl,rfl⟩)⟩
   ·exact ⟨_,_,ar rfl,.refl _,.inr ⟨7,_,r,rfl,rfl,.inr ⟨r,cap,rfl,Nat.zero_le _,hcap,rfl⟩⟩⟩
  ·refine run ?_;exact .inl ⟨_,_,ar rfl,.refl _,.inl (.inl ⟨rfl,rfl,rfl⟩)⟩
 | cons x r=>
  have h:r.length+1<=1048576:=hl;have e:prps (x::r)= .slice 5 (Prp.cs x::r.map Prp.cs):=rfl;rw[e];refine runB trivial ?_;refine jbc ?_;unfold appR;refine run ?_;intro r' cap' hnm h1 h2;refine run ?_;refine ⟨_,_,ar rfl,.refl _,.inr ⟨7,_,r',rfl,rfl,.inr ⟨r',cap',rfl,?_,h2,?_⟩⟩⟩
  ·simpa using h1
  ·simp
theorem denU_cloneCrt (l:List Crt) (hl:l.length<=1048576):DenU prog T 178 [crts l] (jdj 60 6 (l.map Crt.cs)):=by
 refine jci follows (fun args w=>call178 args w) func178 rfl 8 rfl ?_;cases l with
 | nil=>
  refine je1 ?_;refine run ?_;intro b;cases b
  ·refine run ?_;refine .inr ⟨2,7,60,6,rfl,rfl,by kernel_rfl,by decide,rfl,?_,fun r cap hcap=> ?_⟩
   ·exact ⟨_,_,ar rfl,.refl _,.inl (.inl ⟨rfl,rfl,rfl⟩)⟩
   ·exact ⟨_,_,ar rfl,.refl _,.inr ⟨7,_,r,rfl,rfl,.inr ⟨r,cap,rfl,Nat.zero_le _,hcap,rfl⟩⟩⟩
  ·refine run ?_;exact .inl ⟨_,_,ar rfl,.refl _,.inl (.inl ⟨rfl,rfl,rfl⟩)⟩
 | cons x r=>
  have h:r.length+1<=1048576:=hl;have e:crts (x::r)= .slice 6 (Crt.cs x::r.map Crt.cs):=rfl;rw[e];refine runB trivial ?_;refine jbc ?_;unfold appR;refine run ?_;intro r' cap' hnm h1 h2;refine run ?_;refine ⟨_,_,ar rfl,.refl _,.inr ⟨7,_,r',rfl,rfl,.inr ⟨r',cap',rfl,?_,h2,?_⟩⟩⟩
  ·simpa using h1
  ·simp
theorem denU_cloneApv (l:List Apv) (hl:l.length<=1048576):DenU prog T 179 [apvs l] (jdj 51 3 (l.map Apv.cs)):=by
 refine jci follows (fun args w=>call179 args w) func179 rfl 8 rfl ?_;cases l with
 | nil=>
  refine je1 ?_;refine run ?_;intro b;cases b
  ·refine run ?_;refine .inr ⟨2,7,51,3,rfl,rfl,by kernel_rfl,by decide,rfl,?_,fun r cap hcap=> ?_⟩
   ·exact ⟨_,_,ar rfl,.refl _,.inl (.inl ⟨rfl,rfl,rfl⟩)⟩
   ·exact ⟨_,_,ar rfl,.refl _,.inr ⟨7,_,r,rfl,rfl,.inr ⟨r,cap,rfl,Nat.zero_le _,hcap,rfl⟩⟩⟩
  ·refine run ?_;exact .inl ⟨_,_,ar rfl,.refl _,.inl (.inl ⟨rfl,rfl,rfl⟩)⟩
 | cons x r=>
  have h:r.length+1<=1048576:=hl;have e:apvs (x::r)= .slice 3 (Apv.cs x::r.map Apv.cs):=rfl;rw[e];refine runB trivial ?_;refine jbc ?_;unfold appR;refine run ?_;intro r' cap' hnm h1 h2;refine run ?_;refine ⟨_,_,ar rfl,.refl _,.inr ⟨7,_,r',rfl,rfl,.inr ⟨r',cap',rfl,?_,h2,?_⟩⟩⟩
  ·simpa using h1
  ·simp
theorem denU_cloneRul (l:List Rul) (hl:l.length<=1048576):DenU prog T 173 [ruls l] (jdj 120 8 (l.map Rul.cs)):=by
 refine jci follows (fun args w=>call173 args w) func173 rfl 8 rfl ?_;cases l with
 | nil=>
  refine je1 ?_;refine run ?_;intro b;cases b
  ·refine run ?_;refine .inr ⟨2,7,120,8,rfl,rfl,by kernel_rfl,by decide,rfl,?_,fun r cap hcap=> ?_⟩
   ·exact ⟨_,_,ar rfl,.refl _,.inl (.inl ⟨rfl,rfl,rfl⟩)⟩
   ·exact ⟨_,_,ar rfl,.refl _,.inr ⟨7,_,r,rfl,rfl,.inr ⟨r,cap,rfl,Nat.zero_le _,hcap,rfl⟩⟩⟩
  ·refine run ?_;exact .inl ⟨_,_,ar rfl,.refl _,.inl (.inl ⟨rfl,rfl,rfl⟩)⟩
 | cons x r=>
  have h:r.length+1<=1048576:=hl;have e:ruls (x::r)= .slice 8 (Rul.cs x::r.map Rul.cs):=rfl;rw[e];refine runB trivial ?_;refine jbc ?_;unfold appR;refine run ?_;intro r' cap' hnm h1 h2;refine run ?_;refine ⟨_,_,ar rfl,.refl _,.inr ⟨7,_,r',rfl,rfl,.inr ⟨r',cap',rfl,?_,h2,?_⟩⟩⟩
  ·simpa using h1
  ·simp
theorem denU_cloneHld (l:List Hld) (hl:l.length<=1048576):DenU prog T 174 [hlds l] (jdj 122 7 (l.map Hld.cs)):=by
 refine jci follows (fun args w=>call174 args w) func174 rfl 8 rfl ?_;cases l with
 | nil=>
  refine je1 ?_;refine run ?_;intro b;cases b
  ·refine run ?_;refine .inr ⟨2,7,122,7,rfl,rfl,by kernel_rfl,by decide,rfl,?_,fun r cap hcap=> ?_⟩
   ·exact ⟨_,_,ar rfl,.refl _,.inl (.inl ⟨rfl,rfl,rfl⟩)⟩
   ·exact ⟨_,_,ar rfl,.refl _,.inr ⟨7,_,r,rfl,rfl,.inr ⟨r,cap,rfl,Nat.zero_le _,hcap,rfl⟩⟩⟩
  ·refine run ?_;exact .inl ⟨_,_,ar rfl,.refl _,.inl (.inl ⟨rfl,rfl,rfl⟩)⟩
 | cons x r=>
  have h:r.length+1<=1048576:=hl;have e:hlds (x::r)= .slice 7 (Hld.cs x::r.map Hld.cs):=rfl;rw[e];refine runB trivial ?_;refine jbc ?_;unfold appR;refine run ?_;intro r' cap' hnm h1 h2;refine run ?_;refine ⟨_,_,ar rfl,.refl _,.inr ⟨7,_,r',rfl,rfl,.inr ⟨r',cap',rfl,?_,h2,?_⟩⟩⟩
  ·simpa using h1
  ·simp
theorem denU_cloneClk (l:List Clk) (hl:l.length<=1048576):DenU prog T 175 [clks l] (jdj 56 5 (l.map Clk.cs)):=by
 refine jci follows (fun args w=>call175 args w) func175 rfl 8 rfl ?_;cases l with
 | nil=>
  refine je1 ?_;refine run ?_;intro b;cases b
  ·refine run ?_;refine .inr ⟨2,7,56,5,rfl,rfl,by kernel_rfl,by decide,rfl,?_,fun r cap hcap=> ?_⟩
   ·exact ⟨_,_,ar rfl,.refl _,.inl (.inl ⟨rfl,rfl,rfl⟩)⟩
   ·exact ⟨_,_,ar rfl,.refl _,.inr ⟨7,_,r,rfl,rfl,.inr ⟨r,cap,rfl,Nat.zero_le _,hcap,rfl⟩⟩⟩
  ·refine run ?_;exact .inl ⟨_,_,ar rfl,.refl _,.inl (.inl ⟨rfl,rfl,rfl⟩)⟩
 | cons x r=>
  have h:r.length+1<=1048576:=hl;have e:clks (x::r)= .slice 5 (Clk.cs x::r.map Clk.cs):=rfl;rw[e];refine runB trivial ?_;refine jbc ?_;unfold appR;refine run ?_;intro r' cap' hnm h1 h2;refine run ?_;refine ⟨_,_,ar rfl,.refl _,.inr ⟨7,_,r',rfl,rfl,.inr ⟨r',cap',rfl,?_,h2,?_⟩⟩⟩
  ·simpa using h1
  ·simp
theorem denU_cloneDep (l:List Dep) (hl:l.length<=1048576):DenU prog T 180 [deps l] (jdj 105 2 (l.map Dep.cs)):=by
 refine jci follows (fun args w=>call180 args w) func180 rfl 8 rfl ?_;cases l with
 | nil=>
  refine je1 ?_;refine run ?_;intro b;cases b
  ·refine run ?_;refine .inr ⟨2,7,105,2,rfl,rfl,by kernel_rfl,by decide,rfl,?_,fun r cap hcap=> ?_⟩
   ·exact ⟨_,_,ar rfl,.refl _,.inl (.inl ⟨rfl,rfl,rfl⟩)⟩
   ·exact ⟨_,_,ar rfl,.refl _,.inr ⟨7,_,r,rfl,rfl,.inr ⟨r,cap,rfl,Nat.zero_le _,hcap,rfl⟩⟩⟩
  ·refine run ?_;exact .inl ⟨_,_,ar rfl,.refl _,.inl (.inl ⟨rfl,rfl,rfl⟩)⟩
 | cons x r=>
  have h:r.length+1<=1048576:=hl;have e:deps (x::r)= .slice 2 (Dep.cs x::r.map Dep.cs):=rfl;rw[e];refine runB trivial ?_;refine jbc ?_;unfold appR;refine run ?_;intro r' cap' hnm h1 h2;refine run ?_;refine ⟨_,_,ar rfl,.refl _,.inr ⟨7,_,r',rfl,rfl,.inr ⟨r',cap',rfl,?_,h2,?_⟩⟩⟩
  ·simpa using h1
  ·simp
theorem den_copyCls (l:List Cls) (hl:l.length<=1048576):DenO prog T 170 [clss l] 114 (clss l):=by
 refine jir follows (fun args w=>call170 args w) func170 rfl 8 rfl ?_;cases l with
 | nil=>
  refine run ?_;intro b;cases b
  ·refine run ?_;exact finO (.refl _)
  ·refine run ?_;exact finO (.nil 2)
 | cons x r=>
  have h:r.length+1<=1048576:=hl;have e:clss (x::r)= .slice 2 (Cls.cs x::r.map Cls.cs):=rfl;rw[e];refine run ?_;exact finO (.refl _)
theorem den_copyMov (l:List Mov) (hl:l.length<=1048576):DenO prog T 171 [movs l] 224 (movs l):=by
 refine jir follows (fun args w=>call171 args w) func171 rfl 8 rfl ?_;cases l with
 | nil=>
  refine run ?_;intro b;cases b
  ·refine run ?_;exact finO (.refl _)
  ·refine run ?_;exact finO (.nil 2)
 | cons x r=>
  have h:r.length+1<=1048576:=hl;have e:movs (x::r)= .slice 2 (Mov.cs x::r.map Mov.cs):=rfl;rw[e];refine run ?_;exact finO (.refl _)
theorem jkm (l:List Int) (hl:l.length<=1048576):DenO prog T 46 [ints l] 3 (ints l):=by
 refine jir follows (fun args w=>call46 args w) func46 rfl 8 rfl ?_;cases l with
 | nil=>
  refine run ?_;intro b;cases b
  ·refine run ?_;exact finO (.refl _)
  ·refine run ?_;exact finO (.nil 1)
 | cons x r=>
  have h:r.length+1<=1048576:=hl;have e:ints (x::r)= .slice 1 (Cint x::r.map Cint):=rfl;rw[e];refine run ?_;exact finO (.refl _)
abbrev vu (n:Int):V:= .val (.int .u64 n)
abbrev wds (l:List Int):List V:=l.map vu
abbrev nus (l:List Int):List V:=l.map vi
theorem jd6 {l:List Int} {k:Nat} (h:k<l.length):(wds l).drop k=vu (atU l k)::(wds l).drop (k+1):=by
 have h':k<(wds l).length:=by rw[List.length_map]; exact h
 rw[List.drop_eq_getElem_cons h',List.getElem_map,atU,List.getD_eq_getElem?_getD,gge h];rfl
theorem nus_drop {l:List Int} {k:Nat} (h:k<l.length):(nus l).drop k=vi (atU l k)::(nus l).drop (k+1):=by
 have h':k<(nus l).length:=by rw[List.length_map]; exact h
 rw[List.drop_eq_getElem_cons h',List.getElem_map,atU,List.getD_eq_getElem?_getD,gge h];rfl
theorem jmh {l:List Int} {k:Nat} (h:k<l.length) (x:Int):(wds l).take k++[vu x]++(wds l).drop (k+1)=wds (l.set k x):=by
 have e:l.set k x=l.take k++x::l.drop (k+1):=by rw[List.set_eq_take_append_cons_drop,if_pos h]
 rw[e,List.append_assoc];simp only[wds,List.map_append,List.map_cons,List.map_take,List.map_drop,List.singleton_append]
theorem takeN_self:∀cs:List V,bn cs.length cs=some cs
 | []=>rfl
 | c::cs=>by rw[List.length_cons,bn,takeN_self cs]; rfl
theorem takeN_len {n:Nat} {cs:List V} (h:cs.length=n):bn n cs=some cs:=by rw[<- h]; exact takeN_self cs
theorem takeN_app:∀(cs ds:List V),bn cs.length (cs++ds)=some cs
 | [],_=>rfl
 | c::cs,ds=>by rw[List.length_cons,List.cons_append,bn,takeN_app cs]; rfl
theorem rot_in:∀i:Nat,i<25->0<=atU rotL i/\atU rotL i<=63:=by decide
theorem and63:∀n:Int,0<=n->n<=63->bitF .and .u64 n 63=n:=by
 intro n h0 h1;have:∀m:Fin 64,bitF .and .u64 ((m.val:Nat):Int) 63=((m.val:Nat):Int):=by decide
 have h2:=this ⟨n.toNat,by omega⟩;simp only[Int.toNat_of_nonneg h0] at h2;exact h2
theorem wrapU:∀n:Int,0<=n->n<=64->IntKind.u64.wrap n=n:=fun n h0 h1=>IntWalk.u64_in n ⟨h0,by omega⟩
theorem den_RotL (x n:Int) (h0:0<=n) (h1:n<=63):Den prog T 263 [vu x,vi n] (vu (rotU x n)):=by
 have a:=and63 n h0 h1;have b:=wrapU n h0 (by omega);have c:=wrapU (64-n) (by omega) (by omega);refine ae follows (fun args w=>call263 args w) func263 rfl 17 rfl ?_;refine runW (ai a (ai b c)) ?_;exact fin rfl
theorem den_rotations:Den prog T 227 [] (.agg (nus rotL)):=by
 refine ae follows (fun args w=>call227 args w) func227 rfl 2 rfl ?_;refine run ?_;exact finC1 (.refl _)
theorem den_constants:Den prog T 228 [] (.agg (wds conL)):=by
 refine ae follows (fun args w=>call228 args w) func228 rfl 2 rfl ?_;refine run ?_;exact finC1 (.refl _)
theorem finCW {P:Program} {x t j n:Nat} {cs:List V} {nm:Option Nat} {kk:Option (TypeId×Nat×Nat)} {st:St} [h0:TAgg P t n] (h1:Ab.look x st.t=some (.p j 0)) (h2:Ab.look j st.h=some (.var cs nm kk)) (h3:cs.length=n):fpost P [.cell x t] (.agg cs) .rt st:=by
 refine .inl ⟨.agg cs,ar ?_,.refl _⟩;have e:resV P st (.cell x t)=(behind st.h (Ab.look x st.t)).bind (ldV P t):=rfl;rw[e,h1];simp only[behind,memV,h2,List.drop_zero,Option.bind_some,ldV,h0.agg,h0.size,takeN_len h3,Option.map_some]
theorem zdrop:(wds ja4).drop 25=[]/\ja4.length=25:=⟨rfl,rfl⟩
theorem wds_drop25 {l:List Int} (h:l.length=25):(wds l).drop 25=[]:=List.drop_eq_nil_of_le (by rw[List.length_map]; omega)
theorem tk25 {l:List Int} (h:l.length=25):bn 25 (wds l)=some (wds l):=takeN_len (by rw[List.length_map]; exact h)
theorem ld_word {l:List Int} (h:0<l.length):ldV prog 177 (wds l)=some (vu (atU l 0)):=by
 have:=jd6 h;rw[List.drop_zero] at this;rw[this,jb2]
theorem wds_set0 {l:List Int} (h:0<l.length) (x:Int):vu x::(wds l).drop 1=wds (l.set 0 x):=jmh h x
def bK (a:List Int) (k:Nat):List Int:=layF id posF (fun i=>rotU (wordF a i) (atU rotL i)) k ja4
def oK (b:List Int) (k:Nat):List Int:=layF id id (chiF b) k ja4
theorem bK_succ (a:List Int) (k:Nat):bK a (k+1)=(bK a k).set (posF k) (rotU (wordF a k) (atU rotL k)):=layF_succ _ _ _ _ _
theorem oK_succ (b:List Int) (k:Nat):oK b (k+1)=(oK b k).set k (chiF b k):=layF_succ _ _ _ _ _
theorem bK_len (a:List Int) (k:Nat):(bK a k).length=25:=layF_len _ _ _ _ _
theorem oK_len (b:List Int) (k:Nat):(oK b k).length=25:=layF_len _ _ _ _ _
theorem posF_lt:∀i:Nat,i<25->posF i<25:=by decide
theorem bF_len (a:List Int):(bF a).length=25:=bK_len a 25
theorem outF_len (b:List Int):(outF b).length=25:=oK_len b 25
set_option maxHeartbeats 8000000 in
theorem den_round (a:List Int) (c:Int) (ha:a.length=25):Den prog T 229 [.agg (wds a),.agg (nus rotL),vu c] (.agg (wds (jf2 a c))):=by
 have ta:=tk25 ha;refine ae follows (fun args w=>call229 args w) func229 rfl 118 rfl ?_;refine runW ta ?_
 refine loop ⟨[2,3,4,6,7,18,19],[3,4,6,7],[],[]⟩ (fun k:Nat=>k<=25) (fun k=>25-k)
  (fun k=>⟨118,[(2,.v (vu c)),(3,.p 3 0),(4,.p 4 0),(6,.p 6 0),(7,.p 7 0),(18,.v (.agg (wds a))),(19,.v (vi k))],[(3,.var (wds a)),(4,.var (nus rotL)),(6,.var (wds ja4)),(7,.var (wds (jbq a k)))],[]⟩) 0 (Nat.zero_le _) ?_
 intro k hk;by_cases hlt:k<25
 ·have hs:=sumsF_len a k;have m5:((k:Nat):Int).tmod 5=((k % 5:Nat):Int):=jdx k 5;have d1:=jd6 (l:=a) (k:=k) (by omega);have d2:=jd6 (l:=jbq a k) (k:=k % 5) (by omega)
  have s1:(wds (jbq a k)).take (k % 5)++[vu (bitF .xor .u64 (atU (jbq a k) (k % 5)) (atU a k))]++(wds (jbq a k)).drop (k % 5+1)=wds (jbq a (k+1)):=by
   rw[sumsF_succ];exact jmh (by omega) _
  refine runW (ai m5 (ai d1 (ai d2 s1))) ?_;exact round (k+1) (by omega) (by omega)
 have hk:k=25:=by omega
 subst hk;have hw:∀i,wordF a i=xorU (xorU (atU a i) (atU (jbq a 25) ((i+4) % 5))) (rotU (atU (jbq a 25) ((i+1) % 5)) 1):=fun i=>rfl;have hSl:=sumsF_len a 25;obtain ⟨S,hS⟩:∃S,jbq a 25=S:=⟨_,rfl⟩;simp only[hS] at hw hSl ⊢;refine run ?_
 refine loop ⟨[2,3,4,6,7,10,31],[3,4,6,7,10],[],[]⟩ (fun y:Nat=>y<=5) (fun y=>5-y)
  (fun y=>⟨118,[(2,.v (vu c)),(3,.p 3 0),(4,.p 4 0),(6,.p 6 0),(7,.p 7 0),(10,.p 10 0),(31,.v (vi y))],[(3,.var (wds a)),(4,.var (nus rotL)),(6,.var (wds ja4)),(7,.var (wds S)),(10,.var (wds (bK a (5*y))))],[]⟩) 0 (Nat.zero_le _) ?_
 intro y hy;by_cases hylt:y<5
 ·refine run ?_
  refine loop ⟨[2,3,4,6,7,10,31,11,34],[3,4,6,7,10],[],[]⟩ (fun x:Nat=>x<=5) (fun x=>5-x)
   (fun x=>⟨118,[(2,.v (vu c)),(3,.p 3 0),(4,.p 4 0),(6,.p 6 0),(7,.p 7 0),(10,.p 10 0),(31,.v (vi y)),(11,.v (vi y)),(34,.v (vi x))],[(3,.var (wds a)),(4,.var (nus rotL)),(6,.var (wds ja4)),(7,.var (wds S)),(10,.var (wds (bK a (5*y+x))))],[]⟩) 0 (Nat.zero_le _) ?_
  intro x hx;by_cases hxlt:x<5
  ·have hB:=bK_len a (5*y+x);have hj:=posF_lt (5*y+x) (by omega);have f1:(x:Int)+5*(y:Int)=((5*y+x:Nat):Int):=by omega
   have f2:((x:Int)+4).tmod 5=(((5*y+x+4) % 5:Nat):Int):=by
    rw[show (5*y+x+4) % 5=(x+4) % 5 by omega];exact jdx (x+4) 5
   have f3:((x:Int)+1).tmod 5=(((5*y+x+1) % 5:Nat):Int):=by
    rw[show (5*y+x+1) % 5=(x+1) % 5 by omega];exact jdx (x+1) 5
   have f4:(2*(x:Int)+3*(y:Int)).tmod 5=(((2*x+3*y) % 5:Nat):Int):=jdx (2*x+3*y) 5
   have f5:(y:Int)+5*(((2*x+3*y) % 5:Nat):Int)=((posF (5*y+x):Nat):Int):=by
    have h1:(5*y+x) / 5=y:=by omega
    have h2:(5*y+x) % 5=x:=by omega
    unfold posF;rw[h1,h2];omega
   have d1:=jd6 (l:=a) (k:=5*y+x) (by omega);have d2:=jd6 (l:=S) (k:=(5*y+x+4) % 5) (by omega);have d3:=jd6 (l:=S) (k:=(5*y+x+1) % 5) (by omega);have d4:=nus_drop (l:=rotL) (k:=5*y+x) (by show _<25; omega);have hr:=rot_in (5*y+x) (by omega)
   have s1:(wds (bK a (5*y+x))).take (posF (5*y+x))++[vu (rotU (bitF .xor .u64 (bitF .xor .u64 (atU a (5*y+x)) (atU S ((5*y+x+4) % 5))) (rotU (atU S ((5*y+x+1) % 5)) 1)) (atU rotL (5*y+x)))]++(wds (bK a (5*y+x))).drop (posF (5*y+x)+1)=wds (bK a (5*y+x+1)):=by
    rw[bK_succ,hw];exact jmh (by omega) _
   refine runW (ai f1 (ai f2 (ai f3 (ai d1 (ai d2 d3))))) ?_;refine call (den_RotL (atU S ((5*y+x+1) % 5)) 1 (by decide) (by decide)) ?_;refine runW (ai f4 (ai f5 d4)) ?_;refine call (den_RotL _ _ hr.1 hr.2) ?_;refine runW s1 ?_;exact round (x+1) (by omega) (by omega)
  ·have hx5:x=5:=by omega
   subst hx5;refine run ?_;exact round (y+1) (by omega) (by omega)
 have hy5:y=5:=by omega
 subst hy5;have hBl:=bF_len a;have hBe:bK a (5*5)=bF a:=rfl;have hRe:jf2 a c=(outF (bF a)).set 0 (bitF .xor .u64 (atU (outF (bF a)) 0) c):=rfl;have hRl:=roundF_len a c;obtain ⟨B,hB⟩:∃B,bF a=B:=⟨_,rfl⟩;simp only[hBe,hB] at hBl hRe ⊢;refine run ?_
 refine loop ⟨[2,6,10,15,74],[6,10,15],[],[]⟩ (fun y:Nat=>y<=5) (fun y=>5-y)
  (fun y=>⟨118,[(2,.v (vu c)),(6,.p 6 0),(10,.p 10 0),(15,.p 15 0),(74,.v (vi y))],[(6,.var (wds ja4)),(10,.var (wds B)),(15,.var (wds (oK B (5*y))))],[]⟩) 0 (Nat.zero_le _) ?_
 intro y hy;by_cases hylt:y<5
 ·refine run ?_
  refine loop ⟨[2,6,10,15,74,16,77],[6,10,15],[],[]⟩ (fun x:Nat=>x<=5) (fun x=>5-x)
   (fun x=>⟨118,[(2,.v (vu c)),(6,.p 6 0),(10,.p 10 0),(15,.p 15 0),(74,.v (vi y)),(16,.v (vi y)),(77,.v (vi x))],[(6,.var (wds ja4)),(10,.var (wds B)),(15,.var (wds (oK B (5*y+x))))],[]⟩) 0 (Nat.zero_le _) ?_
  intro x hx;by_cases hxlt:x<5
  ·have hO:=oK_len B (5*y+x);have f1:(x:Int)+5*(y:Int)=((5*y+x:Nat):Int):=by omega
   have f2:((x:Int)+1).tmod 5=(((x+1) % 5:Nat):Int):=jdx (x+1) 5;have f3:((x:Int)+2).tmod 5=(((x+2) % 5:Nat):Int):=jdx (x+2) 5;have f4:(((x+1) % 5:Nat):Int)+5*(y:Int)=(((x+1) % 5+5*y:Nat):Int):=by omega
   have f5:(((x+2) % 5:Nat):Int)+5*(y:Int)=(((x+2) % 5+5*y:Nat):Int):=by omega
   have d1:=jd6 (l:=B) (k:=5*y+x) (by omega);have d2:=jd6 (l:=B) (k:=(x+1) % 5+5*y) (by omega);have d3:=jd6 (l:=B) (k:=(x+2) % 5+5*y) (by omega)
   have s1:(wds (oK B (5*y+x))).take (5*y+x)++[vu (bitF .xor .u64 (atU B (5*y+x)) (bitF .and .u64 (notF .u64 (atU B ((x+1) % 5+5*y))) (atU B ((x+2) % 5+5*y))))]++(wds (oK B (5*y+x))).drop (5*y+x+1)=wds (oK B (5*y+x+1)):=by
    have h1:(5*y+x) / 5=y:=by omega
    have h2:(5*y+x) % 5=x:=by omega
    rw[oK_succ];unfold chiF;rw[h1,h2];exact jmh (by omega) _
   refine runW (ai f1 (ai f2 (ai f3 (ai f4 (ai f5 (ai d1 (ai d2 (ai d3 s1)))))))) ?_;exact round (x+1) (by omega) (by omega)
  ·have hx5:x=5:=by omega
   subst hx5;refine run ?_;exact round (y+1) (by omega) (by omega)
 have hy5:y=5:=by omega
 subst hy5;have hOl:=outF_len B;have hOe:oK B (5*5)=outF B:=rfl;obtain ⟨O,hO⟩:∃O,outF B=O:=⟨_,rfl⟩;simp only[hOe,hO] at hOl hRe ⊢;have e0:=ld_word (l:=O) (by omega);have e1:=wds_set0 (l:=O) (by omega) (bitF .xor .u64 (atU O 0) c);rw[<- hRe] at e1;obtain ⟨R,hR⟩:∃R,jf2 a c=R:=⟨_,rfl⟩;simp only[hR] at hRl e1 ⊢;refine runW (ai e0 (ai e1 (ai (tk25 hRl) (ai hRl zdrop)))) ?_;refine finCW (P:=prog) (x:=6) (t:=178) (j:=6) (cs:=wds R) (nm:=none) (kk:=none) ?_ ?_ ?_
 ·rfl
 ·rfl
 ·rw[List.length_map]; exact hRl
def pK (a:List Int) (k:Nat):List Int:=(conL.take k).foldl jf2 a
theorem pK_len {a:List Int} (h:a.length=25) (k:Nat):(pK a k).length=25:=jq3 _ a h
theorem con_at:∀k:Nat,k<24->conL.take (k+1)=conL.take k++[atU conL k]:=by decide
theorem pK_succ (a:List Int) {k:Nat} (h:k<24):pK a (k+1)=jf2 (pK a k) (atU conL k):=by
 unfold pK;rw[con_at k h,List.foldl_append,List.foldl_cons,List.foldl_nil]
theorem pK_all (a:List Int):pK a 24=permF a:=by rw[permF]; rfl
set_option maxHeartbeats 4000000 in
theorem den_Permute (a:List Int) (ha:a.length=25):Den prog T 188 [.agg (wds a)] (.agg (wds (permF a))):=by
 have tr:bn 25 (nus rotL)=some (nus rotL):=rfl;have hrl:rotL.length=25:=rfl;refine ae follows (fun args w=>call188 args w) func188 rfl 17 rfl ?_;refine run ?_;refine call den_rotations ?_;refine runW hrl ?_;refine call den_constants ?_;refine run ?_
 refine loop ⟨[1,2,3,7,8],[1,2,3],[],[]⟩ (fun k:Nat=>k<=24) (fun k=>24-k)
  (fun k=>⟨17,[(1,.p 1 0),(2,.p 2 0),(3,.p 3 0),(7,.v (.agg (wds conL))),(8,.v (vi k))],[(1,.var (wds (pK a k))),(2,.var (wds ja4)),(3,.var (nus rotL))],[]⟩) 0 (Nat.zero_le _) ?_
 intro k hk;have hl:=pK_len ha k;by_cases hlt:k<24
 ·have hl2:=pK_len ha (k+1);have hc:=jd6 (l:=conL) (k:=k) hlt;have hR:=den_round (T:=T) (pK a k) (atU conL k) hl;rw[<- pK_succ a hlt] at hR;refine runW (ai hc (ai (tk25 hl) tr)) ?_;refine call hR ?_;refine runW (ai hl2 (wds_drop25 hl)) ?_;exact round (k+1) hlt (by omega)
 ·have hk:k=24:=by omega
  subst hk;simp only[pK_all] at hl ⊢;refine runW (ai (tk25 hl) (ai hl zdrop)) ?_;refine finCW (P:=prog) (x:=2) (t:=178) (j:=2) (cs:=wds (permF a)) (nm:=none) (kk:=none) ?_ ?_ ?_
  ·rfl
  ·rfl
  ·rw[List.length_map]; exact hl
theorem byte64 (b:UInt8):IntKind.u64.wrap (b.toNat:Int)=(b.toNat:Int):=IntWalk.u64_in _ ⟨by omega,by have:=UInt8.toNat_lt b; omega⟩
set_option maxHeartbeats 4000000 in
theorem den_block (s:List Int) (d:Str) (hs:s.length=25) (hd:d.length=136):Den prog T 119 [.agg (wds s),.str d] (.agg (wds (jar s d))):=by
 have hfin:permF (eatF s d 136)=jar s d:=by rw[jar]
 refine ae follows (fun args w=>call119 args w) func119 rfl 28 rfl ?_;refine run ?_
 refine loop ⟨[1,2,4,7,8],[2,4],[],[]⟩ (fun k:Nat=>k<=136) (fun k=>136-k)
  (fun k=>⟨28,[(1,.v (.str d)),(2,.p 2 0),(4,.p 4 0),(7,.v (vi d.length)),(8,.v (vi k))],[(2,.var (wds (eatF s d k))),(4,.var (wds ja4))],[]⟩) 0 (Nat.zero_le _) ?_
 intro k hk;have hl:(eatF s d k).length=25:=(eatF_len s d k).trans hs;by_cases hlt:k<136
 ·obtain ⟨b,hb,-,-⟩:=aj (l:=d) (k:=k) (by omega);have hg:d.getD k 0=b:=by rw[List.getD_eq_getElem?_getD,hb]; rfl
  have q1:((k:Nat):Int).tdiv 8=((k / 8:Nat):Int):=jl0 k 8;have q2:((k:Nat):Int).tmod 8=((k % 8:Nat):Int):=jdx k 8;have d1:=jd6 (l:=eatF s d k) (k:=k / 8) (by omega)
  have s1:(wds (eatF s d k)).take (k / 8)++[vu (bitF .xor .u64 (atU (eatF s d k) (k / 8)) (shF true .u64 (b.toNat:Int) (8*((k % 8:Nat):Int))))]++(wds (eatF s d k)).drop (k / 8+1)=wds (eatF s d (k+1)):=by
   rw[eatF_succ,hg];exact jmh (by omega) _
  refine runW (ai hb (ai q1 (ai q2 (ai d1 (ai s1 (byte64 b)))))) ?_;exact round (k+1) hlt (by omega)
 ·have hk:k=136:=by omega
  subst hk;have hP:=den_Permute (T:=T) (eatF s d 136) hl;rw[hfin] at hP;have hl2:(jar s d).length=25:=jnh s d hs;refine runW (tk25 hl) ?_;refine call hP ?_;refine runW (ai hl2 zdrop) ?_;refine finCW (P:=prog) (x:=4) (t:=178) (j:=4) (cs:=wds (jar s d)) (nm:=none) (kk:=none) ?_ ?_ ?_
  ·rfl
  ·rfl
  ·rw[List.length_map]; exact hl2
def hshC (s:List Int) (r:Str) (n:Int):List V:=wds s++[.str r,vi n]
def NewP (ro:Option Blk) (r:V):Prop:=∃b,ro=some (.var (hshC ja4 [] 0) (some b))/\r= .val (.pointer (some ⟨b,0,none⟩))
theorem opv_nilp (σ:Sto):opv σ (.const (.pointer none))=some (.v (.val (.pointer none))):=rfl
theorem denU_New:DenU prog T 56 [] NewP:=by
 refine jci follows (fun args w=>call56 args w) func56 rfl 3 rfl ?_;refine aw_ptr ?_;refine runW (fun σ=>opv_nilp σ) ?_;refine ⟨0,2,0,rfl,fun b=> ?_⟩;exact ⟨_,_,ar rfl,.refl _,.inr ⟨2,_,b,rfl,rfl,b,rfl,rfl⟩⟩
structure HshF (s:List Int):Prop where
 d25:∀r n,(hshC s r n).drop 25=[.str r,vi n]
 d26:∀r n,(hshC s r n).drop 26=[vi n]
 d27:∀r n,(hshC s r n).drop 27=[]
 s25:∀r n q,(hshC s r n).take 25++[.str q]++[vi n]=hshC s q n
 s26:∀r n q,(hshC s r n).take 26++[vi q]=hshC s r q
 t25:∀r n,bn 25 (hshC s r n)=some (wds s)
 ln:∀r n,(hshC s r n).length=27
theorem hsh_f {s:List Int} (h:s.length=25):HshF s:=by
 have hl:(wds s).length=25:=by rw[List.length_map]; exact h
 refine ⟨fun r n=> ?_,fun r n=> ?_,fun r n=> ?_,fun r n q=> ?_,fun r n q=> ?_,fun r n=> ?_,fun r n=> ?_⟩ <;> unfold hshC
 ·rw[<- hl,List.drop_left]
 ·rw[show 26=(wds s).length+1 by omega,List.drop_length_add_append]; rfl
 ·rw[show 27=(wds s).length+2 by omega,List.drop_length_add_append]; rfl
 ·rw[<- hl,List.take_left,List.append_assoc]; rfl
 ·rw[show 26=(wds s).length+1 by omega,List.take_length_add_append,List.append_assoc]; rfl
 ·have:=takeN_app (wds s) [.str r,vi n];rw[hl] at this;exact this
 ·rw[List.length_append,hl]; rfl
theorem absF_short {n:Nat} {s:List Int} {d:Str} (h:d.length<136):absF n s d=(s,d):=by
 cases n with
 | zero=>rfl
 | succ n=>rw[absF,if_neg (by omega)]
theorem absF_step {n:Nat} {s:List Int} {d:Str} (hn:d.length<=n) (h:136<=d.length):∃k,(d.drop 136).length<=k/\absF n s d=absF k (jar s (d.take 136)) (d.drop 136):=by
 cases n with
 | zero=>omega
 | succ n=>exact ⟨n,by rw[List.length_drop]; omega,by rw[absF,if_pos h]⟩
abbrev gr131c:List Gent:=⟨bz 14 0,14,.one 0 0⟩::⟨bz 14 1,13,.one 1 0⟩::⟨bz 14 3,12,.one 5 0⟩::⟨bz 14 35,11,.alt [(2,1),(6,0)]⟩::⟨bz 14 99,10,.one 7 2⟩::⟨bz 14 39,10,.one 3 0⟩::⟨bz 14 47,9,.alt [(4,2),(6,1)]⟩::⟨bz 14 227,9,.alt [(2,2),(8,3)]⟩::⟨bz 14 111,8,.one 7 5⟩::⟨bz 14 63,8,.alt [(6,2)]⟩::⟨bz 14 231,8,.one 3 3⟩::⟨bz 14 483,8,.alt [(2,1),(9,3)]⟩::⟨bz 14 127,7,.one 7 3⟩::⟨bz 14 487,7,.one 3 4⟩::⟨bz 14 239,7,.alt [(4,1),(8,3)]⟩::⟨bz 14 995,7,.alt [(2,1)]⟩::⟨bz 14 255,6,.alt [(8,2)]⟩::⟨bz 14 999,6,.one 3 2⟩::⟨bz 14 495,6,.alt [(4,0),(9,1)]⟩::⟨bz 14 511,5,.alt [(9,1)]⟩::⟨bz 14 1007,5,.alt [(4,0)]⟩::⟨bz 14 1023,4,.alt [(10,0)]⟩::⟨bz 14 2047,3,.alt [(11,0)]⟩::⟨bz 14 4095,2,.one 12 0⟩::⟨bz 14 8191,1,.alt [(13,0)]⟩::⟨bz 14 16383,0,.fin⟩::[]
set_option maxHeartbeats 4000000 in
theorem denS_Write (s0:List Int) (d:Str) (hs0:s0.length=25) (hd:d.length<=1073741824):
  DenS prog T 57 [(999000,.var (hshC s0 [] 0))] [] [.p 999000 0,.v (strs [d])] [(999000,.var (hshC (absF d.length s0 d).1 (absF d.length s0 d).2 (d.length:Int)))] [] (.v (vi d.length)):=by
 have H:=hsh_f hs0;refine jcj follows (fun args w=>call57 args w) func57 rfl 62 rfl rfl ?_;obtain ⟨⟨sE,rE⟩,hE⟩:∃p,absF d.length s0 d=p:=⟨_,rfl⟩;have hEl:sE.length=25:=by have:=jqi d.length s0 d hs0; rw[hE] at this; exact this
 rw[hE];refine run ?_
 refine loop ⟨[0,7,8,9],[999000],[],[]⟩ (fun _:Bool=>True) (fun b=>if b=true then 0 else 1)
  (fun b=>⟨62,[(0,.p 999000 0),(7,.v (strs [d])),(8,.v (vi 1)),(9,.v (vi (if b=true then 1 else 0)))],[(999000,.var (if b=true then hshC sE rE (d.length:Int) else hshC s0 [] 0))],[]⟩) false trivial ?_
 rintro b -;cases b with
 | true=>
  have HE:=hsh_f hEl;simp only[if_true];refine runW HE.d26 ?_;exact jek (.v (.refl _))
 | false=>
  simp only[Bool.false_eq_true,if_false];have z0:(0:Int)+(d.length:Int)=(d.length:Int):=Int.zero_add _;refine runW (ai H.d25 (ai H.d26 (ai H.d27 (ai H.s25 (ai H.s26 (ai H.ln z0)))))) ?_
  refine loop ⟨[0,7,8,9],[999000],[],[]⟩ (fun y:List Int×Str=>y.1.length=25/\y.2.length<=d.length/\∃n,y.2.length<=n/\absF n y.1 y.2=(sE,rE)) (fun y=>y.2.length)
   (fun y=>⟨62,[(0,.p 999000 0),(7,.v (strs [d])),(8,.v (vi 1)),(9,.v (vi 0))],[(999000,.var (hshC y.1 y.2 (d.length:Int)))],[]⟩) (s0,d) ⟨hs0,Nat.le_refl _,_,Nat.le_refl _,hE⟩ ?_
  rintro ⟨s,r⟩ ⟨hs,hr,n,hn,hA⟩;simp only at hs hr hn hA;have H:=hsh_f hs;by_cases h136:136<=r.length
  ·obtain ⟨k,hk,hst⟩:=absF_step (s:=s) hn h136;have htl:(r.take 136).length=136:=by rw[List.length_take]; omega
   have hB:=den_block (T:=T) s (r.take 136) hs htl;have hBl:=jnh s (r.take 136) hs;have hta:r.take r.length=r:=List.take_length;have H2:=hsh_f hBl;have hmk:∀r1 n1,wds (jar s (r.take 136))++[V.str r1,vi n1]=hshC (jar s (r.take 136)) r1 n1:=fun _ _=>rfl;refine runD (ai H.d25 (ai H.d26 H.ln)) ?_;refine ct gr131c ?_;refine jk4 (fun _:Unit=>True) ⟨[0,7,8,9],[999000],[],[]⟩ (fun _=>⟨62,[(0,.p 999000 0),(7,.v (strs [d])),(8,.v (vi 1)),(9,.v (vi 0))],[(999000,.var (hshC (jar s (r.take 136)) r (d.length:Int)))],[]⟩) (fun st st' hk h=>jd9 _ hk h) ?_ (fun K' hK=> ?_)
   rotate_left
   ·refine av (ai H.d25 (ai H.d26 H.t25)) ?_
    try simp only[and_self,and_self_left,and_self_right,bp,bw]
    repeat' (with_reducible refine ai ?_ ?_)
    all_goals
     refine call hB ?_;refine av (ai hBl (ai H.d25 (ai hmk H.ln))) ?_
     try simp only[and_self,and_self_left,and_self_right,bp,bw]
     repeat' (with_reducible refine ai ?_ ?_)
     all_goals exact leafK hK () trivial
   intro _ _;refine runW (ai H2.d25 (ai H2.d26 (ai H2.s25 (ai H2.ln hta)))) ?_;exact round (jar s (r.take 136),r.drop 136) ⟨hBl,by simp only[List.length_drop]; omega,k,hk,by rw[<- hst]; exact hA⟩ (by simp only[List.length_drop]; omega)
  ·rw[absF_short (by omega)] at hA;cases hA;refine runW (ai H.d25 H.d26) ?_;refine round true trivial (by decide) ?_;simp only[if_true];rfl
abbrev gr131a:List Gent:=⟨bz 15 0,15,.one 0 0⟩::⟨bz 15 1,14,.one 5 0⟩::⟨bz 15 33,13,.alt [(1,0),(6,1)]⟩::⟨bz 15 35,12,.one 2 1⟩::⟨bz 15 97,12,.one 7 1⟩::⟨bz 15 39,11,.alt [(3,3),(6,1)]⟩::⟨bz 15 225,11,.alt [(1,1),(8,3)]⟩::⟨bz 15 103,10,.one 7 6⟩::⟨bz 15 227,10,.one 2 5⟩::⟨bz 15 47,10,.alt [(4,2),(6,1)]⟩::⟨bz 15 481,10,.alt [(1,2),(9,4)]⟩::⟨bz 15 111,9,.one 7 6⟩::⟨bz 15 63,9,.alt [(6,4)]⟩::⟨bz 15 483,9,.one 2 6⟩::⟨bz 15 231,9,.alt [(3,3),(8,5)]⟩::⟨bz 15 993,9,.alt [(1,0),(10,3)]⟩::⟨bz 15 995,8,.one 2 7⟩::⟨bz 15 127,8,.one 7 4⟩::⟨bz 15 239,8,.alt [(4,3),(8,2)]⟩::⟨bz 15 2017,8,.alt [(1,3),(11,5)]⟩::⟨bz 15 487,8,.alt [(3,0),(9,3)]⟩::⟨bz 15 495,7,.alt [(4,5),(9,7)]⟩::⟨bz 15 255,7,.alt [(8,4)]⟩::⟨bz 15 2019,7,.one 2 2⟩::⟨bz 15 999,7,.alt [(3,4),(10,1)]⟩::⟨bz 15 4065,7,.alt [(1,2)]⟩::⟨bz 15 2023,6,.alt [(3,5),(11,4)]⟩::⟨bz 15 511,6,.alt [(9,2)]⟩::⟨bz 15 4067,6,.one 2 2⟩::⟨bz 15 1007,6,.alt [(4,0),(10,2)]⟩::⟨bz 15 1023,5,.alt [(10,2)]⟩::⟨bz 15 4071,5,.alt [(3,2)]⟩::⟨bz 15 2031,5,.alt [(4,0),(11,1)]⟩::⟨bz 15 2047,4,.alt [(11,1)]⟩::⟨bz 15 4079,4,.alt [(4,0)]⟩::⟨bz 15 4095,3,.alt [(12,0)]⟩::⟨bz 15 8191,2,.alt [(13,0)]⟩::⟨bz 15 16383,1,.alt [(14,0)]⟩::⟨bz 15 32767,0,.fin⟩::[]
abbrev gr131b:List Gent:=⟨bz 9 0,9,.one 0 0⟩::⟨bz 9 1,8,.one 4 0⟩::⟨bz 9 17,7,.alt [(1,1),(5,2),(7,0)]⟩::⟨bz 9 145,6,.alt [(1,5),(5,4)]⟩::⟨bz 9 19,6,.one 2 2⟩::⟨bz 9 49,6,.alt [(1,0),(7,2)]⟩::⟨bz 9 51,5,.one 2 5⟩::⟨bz 9 23,5,.alt [(3,2),(5,4),(7,3)]⟩::⟨bz 9 177,5,.alt [(1,4)]⟩::⟨bz 9 147,5,.one 2 1⟩::⟨bz 9 31,4,.alt [(5,5),(7,3)]⟩::⟨bz 9 151,4,.alt [(3,2),(5,3)]⟩::⟨bz 9 55,4,.alt [(3,3),(7,2)]⟩::⟨bz 9 179,4,.one 2 1⟩::⟨bz 9 159,3,.alt [(5,3)]⟩::⟨bz 9 183,3,.alt [(3,2)]⟩::⟨bz 9 63,3,.alt [(6,0),(7,1)]⟩::⟨bz 9 127,2,.alt [(7,1)]⟩::⟨bz 9 191,2,.alt [(6,0)]⟩::⟨bz 9 255,1,.alt [(8,0)]⟩::⟨bz 9 511,0,.fin⟩::[]
theorem or128:∀n:Fin 256,(((UInt8.ofNat (bitF .or .u8 ((n.val:Nat):Int) 128).toNat).toNat:Nat):Int)=bitF .or .u8 ((n.val:Nat):Int) 128:=by decide
theorem orB_val (b:UInt8):((orB b).toNat:Int)=bitF .or .u8 (b.toNat:Int) 128:=or128 ⟨b.toNat,UInt8.toNat_lt b⟩
abbrev vb8 (n:Int):V:= .val (.int .u8 n)
theorem bcs_drop {l:Str} {k:Nat} {b:UInt8} (h:l[k]? = some b):(ja2 l).drop k=vb8 b.toNat::(ja2 l).drop (k+1):=by
 obtain ⟨hlt,rfl⟩:=gsi.1 h;unfold ja2;rw[<- List.map_drop,<- List.map_drop,List.drop_eq_getElem_cons hlt,List.map_cons]
theorem bcs_set {l:Str} {k:Nat} (h:k<l.length) (x:UInt8):(ja2 l).take k++[vb8 x.toNat]++(ja2 l).drop (k+1)=ja2 (l.set k x):=by
 have e:l.set k x=l.take k++x::l.drop (k+1):=by rw[List.set_eq_take_append_cons_drop,if_pos h]
 rw[e,List.append_assoc];simp only[ja2,List.map_append,List.map_cons,List.map_take,List.map_drop,List.singleton_append]
theorem byL_cs:∀l:Str,byL (ja2 l)=some l
 | []=>rfl
 | b::l=>by
  have ih:=byL_cs l;unfold ja2 at ih ⊢;rw[List.map_cons,byL,ih,Option.map_some,Int.toNat_natCast,UInt8.ofNat_toNat]
theorem wrap8_nn (x:Int):0<=IntKind.u8.wrap x/\IntKind.u8.wrap x<=255:=by
 unfold IntKind.wrap;simp[IntKind.signed,IntKind.bits];omega
theorem byte_back (x:Int):(((UInt8.ofNat (IntKind.u8.wrap x).toNat).toNat:Nat):Int)=IntKind.u8.wrap x:=by
 have:=wrap8_nn x;rw[UInt8.toNat_ofNat_of_lt' (by show _<256; omega)];omega
theorem digF_succ (s:List Int) (k:Nat):digF s (k+1)=digF s k++[UInt8.ofNat (IntKind.wrap .u8 (shF false .u64 (atU s (k / 8)) (8*((k % 8:Nat):Int)))).toNat]:=by
 unfold digF;rw[List.range_succ,List.map_append];rfl
abbrev Cby (b:UInt8):List V:=[vb8 b.toNat]
abbrev bys (l:Str):V:= .slice 1 (l.map Cby)
theorem bys_flat:∀l:Str,(l.map Cby).flatten=ja2 l
 | []=>rfl
 | b::l=>by
  have ih:=bys_flat l;unfold ja2 at ih ⊢;rw[List.map_cons,List.flatten_cons,ih];rfl
set_option maxHeartbeats 8000000 in
theorem denS_HashSum (L:LibT T) (s:List Int) (d:Str) (n:Int) (hs:s.length=25) (hd:d.length<136):
  DenS prog T 58 [(999000,.var (hshC s d n))] [] [.p 999000 0] [(999000,.var (hshC s d n))] [] (.v (.str (digF (jar s (padF d)) 32))):=by
 have H:=hsh_f hs;have hR:=jr9 L (135-d.length) (by omega);have hc:((135-d.length:Nat):Int)=135-(d.length:Int):=by omega
 rw[hc] at hR;obtain ⟨Lst,hL⟩:∃l,d++[6]++List.replicate (135-d.length) 0=l:=⟨_,rfl⟩;have hLl:Lst.length=136:=by rw[<- hL]; simp; omega
 have hcat:((d++[(6:UInt8)]).length+(List.replicate (135-d.length) (0:UInt8)).length<=9223372036854775807)=True:=eq_true (by simp; omega);have hpad:markL Lst=padF d:=by rw[<- hL]; unfold padF; simp
 have hPl:=padF_len d hd;have hB:=den_block (T:=T) s (padF d) hs hPl;have hBl:=jnh s (padF d) hs;obtain ⟨q,hq⟩:∃q,jar s (padF d)=q:=⟨_,rfl⟩;rw[hq] at hB hBl ⊢;obtain ⟨x,hx,-,-⟩:=aj (l:=Lst) (k:=135) (by omega);have hd1:=bcs_drop hx
 have hst:(ja2 Lst).take 135++[vb8 (bitF .or .u8 (x.toNat:Int) 128)]++(ja2 Lst).drop 136=ja2 (padF d):=by
  rw[<- hpad,<- orB_val]
  have h1:markL Lst=Lst.set 135 (orB x):=by
   unfold markL;rw[hLl];simp only[List.getD_eq_getElem?_getD,hx];rfl
  rw[h1];exact bcs_set (by omega) _
 obtain ⟨P,hP⟩:∃P,padF d=P:=⟨_,rfl⟩;rw[hP] at hst hPl hB;have hby:=byL_cs P;have htk:(ja2 P).take 136=ja2 P:=List.take_of_length_le (by rw[jnf]; omega);have hbl:(ja2 P).length=136:=by rw[jnf]; exact hPl
 refine jcj follows (fun args w=>call58 args w) func58 rfl 51 rfl rfl ?_;refine runD trivial ?_;refine ct gr131a ?_;refine jk4 (fun y:Nat×Nat=>136<=y.2/\y.2<=maxLen) ⟨[0,3],[999000,20],[],[]⟩ (fun y=>⟨51,[(0,.p 999000 0),(3,.v (.val (.slice (some ⟨y.1,0,none⟩) 136 y.2)))],[(999000,.var (hshC s d n)),(20,.var (ja2 Lst) (some y.1) (some (5,1,y.2)))],[]⟩) (fun st st' hk h=>jd9 _ hk h) ?_ (fun K' hK=> ?_)
 rotate_left
 ·refine av H.d25 ?_
  try simp only[and_self_left]
  repeat' (with_reducible refine ai ?_ ?_)
  all_goals
   refine call hR ?_;refine av (ai H.d25 (ai hL hcat)) ?_
   try simp only[and_self,and_self_left,and_self_right,bp,bw]
   repeat' (with_reducible refine ai ?_ ?_)
   all_goals
    unfold bytK;intro r cap hnm h1 h2;rw[hLl] at h1 ⊢;refine av trivial ?_;exact leafK hK (r,cap) ⟨h1,h2⟩
 rintro ⟨r,cap⟩ ⟨hc1,hc2⟩;simp only;have hLb:(ja2 Lst).length=136:=by rw[jnf]; exact hLl
 refine runD (ai hd1 (ai hst hLb)) ?_;refine ct gr131b ?_;refine jk4 (fun _:Unit=>True) ⟨[0,4],[999000,4],[],[]⟩ (fun _=>⟨51,[(0,.p 999000 0),(4,.p 4 0)],[(999000,.var (hshC s d n)),(4,.var (wds q))],[]⟩) (fun st st' hk h=>jd9 _ hk h) ?_ (fun K' hK=> ?_)
 rotate_left
 ·refine av (ai H.t25 (ai hbl (ai htk hby))) ?_
  try simp only[and_self,and_self_right]
  repeat' (with_reducible refine ai ?_ ?_)
  all_goals
   refine call hB ?_;refine av (ai hBl zdrop) ?_
   try simp only[and_self,and_self_left,and_self_right,bp,bw]
   repeat' (with_reducible refine ai ?_ ?_)
   all_goals exact leafK hK () trivial
 intro _ _;refine run ?_
 refine loop ⟨[0,4,5,33],[999000,4],[5],[(5,5,1)]⟩ (fun k:Nat=>k<=32) (fun k=>32-k)
  (fun k=>⟨51,[(0,.p 999000 0),(4,.p 4 0),(5,.v (bys (digF q k))),(33,.v (vi k))],[(999000,.var (hshC s d n)),(4,.var (wds q))],[(5,[5])]⟩) 0 (Nat.zero_le _) ?_
 intro k hk;by_cases hlt:k<32
 ·have q1:((k:Nat):Int).tdiv 8=((k / 8:Nat):Int):=jl0 k 8;have q2:((k:Nat):Int).tmod 8=((k % 8:Nat):Int):=jdx k 8;have d1:=jd6 (l:=q) (k:=k / 8) (by omega)
  have hap:(digF q k).map Cby++[[vb8 (IntKind.u8.wrap (shF false .u64 (atU q (k / 8)) (8*((k % 8:Nat):Int))))]]=(digF q (k+1)).map Cby:=by
   rw[digF_succ,List.map_append,List.map_singleton];simp only[Cby,vb8,byte_back]
  have hdl:(digF q k).length=k:=by unfold digF; rw[List.length_map,List.length_range]
  refine runW (ai q1 (ai q2 (ai d1 hap))) ?_;exact round (k+1) hlt (by omega)
 ·have hk:k=32:=by omega
  subst hk;have hby:=byL_cs (digF q 32);rw[<- bys_flat] at hby;refine runW hby ?_;exact jek (.v (.refl _))
theorem jqs (L:LibT T) (d:Str) (hd:d.length<=1073741824):Den prog T 22 [.str d] (.str (sumD d)):=by
 have hz:ja4.length=25:=rfl;have hW:=denS_Write (T:=T) ja4 d hz hd;have h1:=absF_len d.length ja4 d (Nat.le_refl _);have h2:=jqi d.length ja4 d hz;have hS:=denS_HashSum L (absF d.length ja4 d).1 (absF d.length ja4 d).2 (d.length:Int) h2 h1;have he:digF (jar (absF d.length ja4 d).1 (padF (absF d.length ja4 d).2)) 32=sumD d:=rfl;rw[he] at hS;obtain ⟨⟨s,r⟩,hp⟩:∃p,absF d.length ja4 d=p:=⟨_,rfl⟩;rw[hp] at hW hS;refine ae follows (fun args w=>call22 args w) func22 rfl 11 rfl ?_;refine run ?_;refine jd1 (callU 4 denU_New ?_ ?_)
 ·rintro r ⟨b,h,-⟩;cases h
 rintro k v ⟨b,hk,rfl⟩ hnm;cases hk;refine run ?_;refine jd1 (callS [(999000,4)] hW (.cons (.pn rfl rfl) (.cons (.v _) .nil)) ?_ ?_)
 ·intro y hy;simp only[List.mem_singleton] at hy;subst hy;exact ⟨4,_,rfl,rfl,rfl,.inl rfl,rfl⟩
 refine run ?_;refine jd1 (callS [(999000,4)] hS (.cons (.pn rfl rfl) .nil) ?_ ?_)
 ·intro y hy;simp only[List.mem_singleton] at hy;subst hy;exact ⟨4,_,rfl,rfl,rfl,.inl rfl,rfl⟩
 refine run ?_;exact fin rfl
theorem jc2 (n a b:Int):Den prog T 40 [vi n,vi a,vi b] (vb (decide (a<=n) && decide (n<=b))):=by
 refine ae follows (fun args w=>call40 args w) func40 rfl 15 rfl ?_;by_cases h1:a<=n <;> by_cases h2:n<=b <;> (refine run ?_; refine fin (ak ?_); simp; try omega)
theorem idB_and (n:Int):(decide (1<=n) && decide (n<=1073741824))=idB n:=by unfold idB; simp
theorem jck (n:Int):Den prog T 74 [vi n] (vb (idB n)):=by
 rw[<- idB_and];refine ae follows (fun args w=>call74 args w) func74 rfl 5 rfl ?_;refine run ?_;refine call (jc2 n 1 1073741824) ?_;refine run ?_;exact fin rfl
theorem jpg (n:Int):Den prog T 27 [vi n] (vb (dayG n)):=by
 refine ae follows (fun args w=>call27 args w) func27 rfl 5 rfl ?_;refine run ?_;refine call (jc2 n 0 1048575) ?_;refine run ?_;exact fin rfl
theorem jrd (l:List Int) (hl:l.length<=1048576):Den prog T 82 [ints l] (vb (risI l)):=by
 refine ae follows (fun args w=>call82 args w) func82 rfl 21 rfl ?_;refine run ?_
 refine loop ⟨[0,6,7],[],[],[]⟩ (fun k:Nat=>k<=l.length/\∀j,j<k->∀x y,l[j]? = some x->l[j+1]? = some y->x<y) (fun k=>l.length-k)
  (fun k=>⟨21,[(0,.v (ints l)),(6,.v (vi ((l.length:Int)-1))),(7,.v (vi k))],[],[]⟩) 0 ⟨Nat.zero_le _,fun j hj=>absurd hj (Nat.not_lt_zero j)⟩ ?_
 rintro k ⟨hk,hall⟩;by_cases hlt:k+1<l.length
 ·obtain ⟨x,hx,-,-⟩:=aj (l:=l) (k:=k) (by omega);obtain ⟨y,hy,-,-⟩:=aj (l:=l) (k:=k+1) hlt;by_cases hxy:x<y
  ·refine runW (ai hx hy) ?_;refine round (k+1) ⟨by omega,fun j hj u v hu hv=> ?_⟩ (by omega);rcases Nat.lt_or_ge j k with h | h
   ·exact hall j h u v hu hv
   ·have:j=k:=by omega
    subst this;rw[hx] at hu; rw[hy] at hv;cases hu; cases hv;exact hxy
  ·refine runW (ai hx hy) ?_;refine fin (ak ?_)
   symm
   rw[Bool.eq_false_iff];intro h;exact hxy ((jm6 l).1 h k x y hx hy)
 ·refine run ?_;refine fin (ak ?_)
  symm
  rw[jm6];intro j x y hx hy;have:=(gsi.1 hy).1;exact hall j (by omega) x y hx hy
def dig7 (c:Crt):List Str:=[[99,101,114,116,105,102,105,99,97,116,101],decS c.num,[112,114,111,112,111,115,97,108],decS c.prp,[100,97,121],decS c.day,[102,105,108,101,115]]
theorem jpq {α:Type} {l:List α} {k:Nat} {x:α} (h:l[k]? = some x):l.take (k+1)=l.take k++[x]:=by
 obtain ⟨hlt,rfl⟩:=gsi.1 h;rw[List.take_succ_eq_append_getElem hlt]
theorem join_snoc:∀(l:List Str) (x sep:Str),l≠[]->Lib.join (l++[x]) sep=Lib.join l sep++sep++x
 | [],_,_,h=>absurd rfl h
 | [a],x,sep,_=>by simp[Lib.join,List.intercalate]
 | a::b::r,x,sep,_=>by
  have ih:=join_snoc (b::r) x sep (List.cons_ne_nil _ _);simp only[Lib.join,List.intercalate,List.cons_append,List.intersperse_cons_cons,List.flatten_cons] at ih ⊢;rw[ih];simp only[List.append_assoc]
theorem join_fls (l:List Str) (hl:l≠[]):∀fs:List Int,Lib.join (l++fs.map decS) [32]=Lib.join l [32]++flsT fs:=by
 intro fs
 induction fs generalizing l with
 | nil=>simp[flsT]
 | cons f fs ih=>
  have:=ih (l++[decS f]) (by simp);rw[List.map_cons,show l++decS f::fs.map decS=l++[decS f]++fs.map decS by simp,this,join_snoc l (decS f) [32] hl];simp[flsT]
theorem join_dig (c:Crt):Lib.join (dig7 c++c.fls.map decS) [32]++[10]++c.bef=crtT c:=by
 rw[join_fls _ (by simp[dig7])];unfold crtT dig7 xCert jpn xDayS xFiles;simp[Lib.join,List.intercalate,List.intersperse]
structure CrtOk (c:Crt):Prop where
 num:idB c.num=true
 prp:idB c.prp=true
 day:dayG c.day=true
 ne:1<=c.fls.length
 le:c.fls.length<=256
 ris:risI c.fls=true
 ids:c.fls.all idB=true
 bef:c.bef.length=32
theorem joa (c:Crt):crtB c=true↔CrtOk c:=by
 unfold crtB;simp only[Bool.and_eq_true,decide_eq_true_eq];constructor
 ·rintro ⟨⟨⟨⟨⟨⟨⟨a,b⟩,d⟩,e⟩,f⟩,g⟩,h⟩,i⟩;exact ⟨a,b,d,e,f,g,h,i⟩
 ·rintro ⟨a,b,d,e,f,g,h,i⟩;exact ⟨⟨⟨⟨⟨⟨⟨a,b⟩,d⟩,e⟩,f⟩,g⟩,h⟩,i⟩
abbrev digV (c:Crt):V:= .tup [.str (digR c).1,vi (digR c).2]
theorem jhh {c:Crt} (h:¬CrtOk c):digV c= .tup [.str [],vi 1]:=by
 have:¬crtB c=true:=fun e=>h ((joa c).1 e);unfold digV digR;rw[if_neg this]
theorem digV_ok {c:Crt} (h:CrtOk c):digV c= .tup [.str (sumD (crtT c)),vi 0]:=by
 unfold digV digR;rw[if_pos ((joa c).2 h)]
theorem jje {n:Int} (h:idB n=true):1<=n/\n<=1073741824:=by unfold idB at h; exact of_decide_eq_true h
theorem dayG_in {n:Int} (h:dayG n=true):0<=n/\n<=1048575:=by unfold dayG at h; simpa using h
theorem decN_lenD {n:Nat} (h:n<10000000000):(Lib.decDigits n).length<=10:=by
 rw[Lib.decDigits_length];refine Nat.le_of_not_lt fun hlt=> ?_
 have key:∀(k u:Nat),u<10 ^ (k+1)->Lib.nDigits u<=k+1:=by
  intro k
  induction k with
  | zero=>intro u hu; rw[Lib.nDigits_small (by simpa using hu)]; exact Nat.le_refl _
  | succ k ih=>
   intro u hu;by_cases h10:u<10
   ·rw[Lib.nDigits_small h10]; omega
   ·rw[Lib.nDigits_big h10];have:=ih (u / 10) (by rw[Nat.pow_succ] at hu; omega);omega
 exact absurd (key 9 n h) (by omega)
theorem jnt {n:Int} (h:0<=n/\n<=1073741824):(decS n).length<=10:=by
 rw[decS_nn (by omega)];exact decN_lenD (by omega)
theorem flat_le {m:Nat} : ∀ {l:List Str},(∀p∈l,p.length<=m)->l.flatten.length<=l.length*m
 | [],_=>by simp
 | p::l,h=>by
  have h1:=h p List.mem_cons_self;have h2:=flat_le (l:=l) fun q hq=>h q (List.mem_cons_of_mem _ hq);simp only[List.flatten_cons,List.length_append,List.length_cons,Nat.add_mul];omega
theorem crtT_len {c:Crt} (h:CrtOk c):(crtT c).length<=10000:=by
 have h1:=jnt (n:=c.num) (by have:=jje h.num; omega);have h2:=jnt (n:=c.prp) (by have:=jje h.prp; omega);have h3:=jnt (n:=c.day) (by have:=dayG_in h.day; omega)
 have h4:(flsT c.fls).length<=256*11:=by
  have:(flsT c.fls).length<=(c.fls.map fun f=>32::decS f).length*11:=flat_le fun p hp=>by
   obtain ⟨f,hf,rfl⟩:=List.mem_map.1 hp;have:=jnt (n:=f) (by have:=jje (List.all_eq_true.1 h.ids f hf); omega);simp only[List.length_cons];omega
  rw[List.length_map] at this;have:=h.le;omega
 have h5:=h.bef;unfold crtT xCert jpn xDayS xFiles;simp only[List.length_append,List.length_cons,List.length_nil];omega
abbrev gr132:List Gent:=⟨bz 11 0,11,.one 0 0⟩::⟨bz 11 1,10,.one 3 0⟩::⟨bz 11 9,9,.one 6 0⟩::⟨bz 11 73,8,.alt [(1,1),(4,0),(7,2)]⟩::⟨bz 11 89,7,.alt [(1,5),(7,4)]⟩::⟨bz 11 75,7,.alt [(2,2),(4,4),(7,1)]⟩::⟨bz 11 201,7,.alt [(1,0),(4,2)]⟩::⟨bz 11 203,6,.alt [(2,5),(4,4)]⟩::⟨bz 11 79,6,.alt [(4,2),(7,4)]⟩::⟨bz 11 217,6,.alt [(1,2)]⟩::⟨bz 11 91,6,.alt [(2,0),(7,1)]⟩::⟨bz 11 95,5,.alt [(5,2),(7,3)]⟩::⟨bz 11 219,5,.alt [(2,2)]⟩::⟨bz 11 207,5,.alt [(4,1)]⟩::⟨bz 11 127,4,.alt [(7,1)]⟩::⟨bz 11 223,4,.alt [(5,0)]⟩::⟨bz 11 255,3,.alt [(8,0)]⟩::⟨bz 11 511,2,.alt [(9,0)]⟩::⟨bz 11 1023,1,.alt [(10,0)]⟩::⟨bz 11 2047,0,.fin⟩::[]
theorem nth_first {l:List Int} (h:1<=l.length):∃a,l[0]? = some a:=⟨_,gge (by omega)⟩
set_option maxHeartbeats 8000000 in
theorem jrl (L:LibT T) (c:Crt) (hf:c.fls.length<=1048576) (_hb:c.bef.length<=1048576):Den prog T 54 [.agg c.cs] (digV c):=by
 refine ae follows (fun args w=>call54 args w) func54 rfl 90 rfl ?_;refine run ?_;refine call (jck c.num) ?_;cases h1:idB c.num
 ·rw[jhh fun h=>by have:=h.num; rw[h1] at this; cases this];refine run ?_;exact fin rfl
 refine run ?_;refine call (jck c.prp) ?_;cases h2:idB c.prp
 ·rw[jhh fun h=>by have:=h.prp; rw[h2] at this; cases this];refine run ?_;exact fin rfl
 refine run ?_;refine call (jpg c.day) ?_;cases h3:dayG c.day
 ·rw[jhh fun h=>by have:=h.day; rw[h3] at this; cases this];refine run ?_;exact fin rfl
 refine run ?_;refine call (jc2 (c.fls.length:Int) 1 256) ?_;cases h4:(decide ((1:Int)<=(c.fls.length:Int)) && decide ((c.fls.length:Int)<=256))
 ·rw[jhh fun h=>by
   have e1:=h.ne;have e2:=h.le;simp at h4
   omega]
  refine run ?_;exact fin rfl
 have h4:1<=c.fls.length/\c.fls.length<=256:=by simp at h4; omega
 refine run ?_;refine call (jrd c.fls hf) ?_;cases h5:risI c.fls
 ·rw[jhh fun h=>by have:=h.ris; rw[h5] at this; cases this];refine run ?_;exact fin rfl
 obtain ⟨a,ha⟩:=nth_first h4.1;obtain ⟨b,hbl⟩:∃b,c.fls[c.fls.length-1]? = some b:=⟨_,gge (by omega)⟩;have hids:=rise_idB h5 ha hbl;have ein:((c.fls.length:Int)-1).toNat=c.fls.length-1:=by omega
 have nn:(0:Int)<=(c.fls.length:Int)-1:=by omega
 have el:(c.fls.map Cint)[c.fls.length-1]? = some [vi b]:=by rw[List.getElem?_map,hbl]; rfl
 have e0:(c.fls.map Cint)[0]? = some [vi a]:=by rw[List.getElem?_map,ha]; rfl
 by_cases h6:a<1
 ·rw[jhh fun h=>by
   have:=h.ids;rw[hids] at this;simp at this
   omega]
  refine runW (ai ha e0) ?_;exact fin rfl
 by_cases h7:1073741824<b
 ·rw[jhh fun h=>by
   have:=h.ids;rw[hids] at this;simp at this
   omega]
  refine runW (ai ha (ai e0 (ai hbl (ai ein el)))) ?_;exact fin rfl
 by_cases h8:c.bef.length=32
 case neg=>
  rw[jhh fun h=>h8 h.bef];refine runW (ai ha (ai e0 (ai hbl (ai ein el)))) ?_;exact fin rfl
 have hok:CrtOk c:=⟨h1,h2,h3,h4.1,h4.2,h5,by rw[hids]; simp; omega,h8⟩;rw[digV_ok hok];have i1:=jmb L c.num (by have:=jje h1; omega) (by have:=jje h1; omega);have i2:=jmb L c.prp (by have:=jje h2; omega) (by have:=jje h2; omega);have i3:=jmb L c.day (by have:=dayG_in h3; omega) (by have:=dayG_in h3; omega)
 have i4:∀f∈c.fls,Den prog T 117 [vi f] (.str (decS f)):=fun f hfm=>by
  have:=jje (List.all_eq_true.1 hok.ids f hfm);exact jmb L f (by omega) (by omega)
 have hjd:=join_dig c;have hlen:=crtT_len hok
 have hjl:(Lib.join (dig7 c++c.fls.map decS) [32]).length<=10000:=by
  have:=congrArg List.length hjd;simp only[List.length_append] at this;omega
 have hJ:=lib_join L (dig7 c++c.fls.map decS) [32] (by simp[dig7]; omega) (by omega);have hS:=jqs L (crtT c) (by omega);have hd7:dig7 c=[[99,101,114,116,105,102,105,99,97,116,101],decS c.num,[112,114,111,112,111,115,97,108],decS c.prp,[100,97,121],decS c.day,[102,105,108,101,115]]:=rfl;have hd7l:(dig7 c).length=7:=rfl;obtain ⟨n1,hn1⟩:∃n,decS c.num=n:=⟨_,rfl⟩;obtain ⟨n2,hn2⟩:∃n,decS c.prp=n:=⟨_,rfl⟩;obtain ⟨n3,hn3⟩:∃n,decS c.day=n:=⟨_,rfl⟩;simp only[hn1,hn2,hn3] at i1 i2 i3 hd7;obtain ⟨D,hD⟩:∃D,dig7 c=D:=⟨_,rfl⟩;rw[hD] at hd7 hJ hjd hjl hd7l;have hcst:(.slice 1 [Cst [99,101,114,116,105,102,105,99,97,116,101],Cst n1,Cst [112,114,111,112,111,115,97,108],Cst n2,Cst [100,97,121],Cst n3,Cst [102,105,108,101,115]]:V)=strs D:=by rw[hd7]; rfl
 refine runD (ai ha (ai e0 (ai hbl (ai ein el)))) ?_;refine ct gr132 ?_;refine jk4 (fun _:Unit=>True) ⟨[1,4],[1],[4],[]⟩ (fun _=>⟨90,[(1,.p 1 0),(4,.v (strs D))],[(1,.var c.cs)],[(9,[4])]⟩) (fun st st' hk h=>jd9 _ hk h) ?_ (fun K' hK=> ?_)
 rotate_left
 ·refine av trivial ?_
  try simp only[and_self_right]
  repeat' (with_reducible refine ai ?_ ?_)
  all_goals
   refine call i1 ?_;refine av trivial ?_
   try simp only[and_self_right]
   repeat' (with_reducible refine ai ?_ ?_)
   all_goals
    refine call i2 ?_;refine av trivial ?_
    try simp only[and_self,and_self_left,and_self_right,bp,bw]
    repeat' (with_reducible refine ai ?_ ?_)
    all_goals
     refine call i3 ?_;refine av trivial ?_
     try simp only[and_self,and_self_left,and_self_right,bp,bw]
     repeat' (with_reducible refine ai ?_ ?_)
     all_goals
      refine leafK hK () trivial ?_;rw[<- hcst];rfl
 intro _ _;refine run ?_
 refine loop ⟨[1,4,71,72,73],[1],[4],[]⟩ (fun k:Nat=>k<=c.fls.length) (fun k=>c.fls.length-k)
  (fun k=>⟨90,[(1,.p 1 0),(4,.v (strs (D++(c.fls.take k).map decS))),(71,.v (ints c.fls)),(72,.v (vi c.fls.length)),(73,.v (vi k))],[(1,.var c.cs)],[(9,[4])]⟩) 0 (Nat.zero_le _) ?_ ?_
 ·intro k hk;by_cases hlt:k<c.fls.length
  ·obtain ⟨f,hfx,-,hfm⟩:=aj hlt
   have hap:(D++(c.fls.take k).map decS).map Cst++[[V.str (decS f)]]=(D++(c.fls.take (k+1)).map decS).map Cst:=by
    rw[jpq hfx];simp
   have hle:(D++(c.fls.take k).map decS).length<=300:=by rw[List.length_append,List.length_map,List.length_take]; omega
   refine runW hfx ?_;refine call (i4 f hfm) ?_;refine runW (ai hap hle) ?_;exact round (k+1) hlt (by omega)
  ·have hk:k=c.fls.length:=by omega
   subst hk;rw[List.take_length];refine run ?_;refine call hJ ?_;refine runW hjd ?_;refine call hS ?_;refine run ?_;exact fin rfl
 ·simp only[List.take_zero,List.map_nil,List.append_nil];rfl
theorem jri (L:LibT T) (l:List Crt) (i:Nat) (hl:l.length<=1048576) (hi:i<=l.length):Den prog T 53 [crts l,vi i] (.str (befC l i)):=by
 refine ae follows (fun args w=>call53 args w) func53 rfl 14 rfl ?_;unfold befC bg;by_cases h0:i=0
 ·subst h0;rw[if_pos rfl];refine run ?_;refine call (jr9 L 32 (by omega)) ?_;refine run ?_;exact fin rfl
 ·rw[if_neg h0];obtain ⟨x,hx,-,-⟩:=aj (l:=l) (k:=i-1) (by omega);rw[hx];refine runW hx ?_;exact fin rfl
theorem den_linked (L:LibT T) (l:List Crt) (i:Nat) (hl:l.length<=1048576/\∀c∈l,c.fls.length<=1048576/\c.bef.length<=1048576/\c.dig.length<=1048576) (hi:i<l.length):Den prog T 59 [crts l,vi i] (vb (jat l i)):=by
 have hl0:=hl.1;obtain ⟨c,hc,-,hm⟩:=aj hi;have hfc:=hl.2 c hm;have hD:=jrl L c hfc.1 hfc.2.1;have hlk:jat l i=linkC (befC l i) i c:=by unfold jat; rw[hc]
 rw[hlk];refine ae follows (fun args w=>call59 args w) func59 rfl 40 rfl ?_;refine runW hc ?_;refine call hD ?_;unfold linkC digV digR;cases h1:crtB c
 ·rw[if_neg (by decide)];refine run ?_;exact fin rfl
 rw[if_pos rfl];by_cases h2:c.num=(i:Int)+1
 ·cases h3:c.dig == sumD (crtT c)
  ·refine runW (ai (eq_true h2) h3) ?_;refine fin (ak ?_);simp
  ·refine runW (ai (eq_true h2) h3) ?_;refine call (jri L l i hl0 (by omega)) ?_;refine runW (ai (eq_true h2) h3) ?_;refine fin (ak ?_);simp
 ·refine runW (eq_false h2) ?_;refine fin (ak ?_);simp
theorem den_ChainD (L:LibT T) (l:List Crt) (hl:l.length<=1048576/\∀c∈l,c.fls.length<=1048576/\c.bef.length<=1048576/\c.dig.length<=1048576):Den prog T 23 [crts l] (chkV (chainR l)):=by
 have hl0:=hl.1;refine ae follows (fun args w=>call23 args w) func23 rfl 19 rfl ?_;unfold chainR;by_cases h16:1024<l.length
 ·refine run ?_;refine fin ?_;simp only[chkV,jgc h16]
 refine run ?_
 refine loop ⟨[0,9,10],[],[],[]⟩ (fun k:Nat=>k<=l.length/\∀i,i<k->(if jat l i=true then (0:Int) else 14)=0) (fun k=>l.length-k)
  (fun k=>⟨19,[(0,.v (crts l)),(9,.v (vi l.length)),(10,.v (vi k))],[],[]⟩) 0 ⟨Nat.zero_le _,fun i hi=>absurd hi (Nat.not_lt_zero i)⟩ ?_
 rintro k ⟨hk,hall⟩;by_cases hlt:k<l.length
 ·refine run ?_;refine call (den_linked L l k hl hlt) ?_;cases hz:jat l k
  ·have hbad:=jld (lim:=1024) (f:=fun i=>if jat l i=true then (0:Int) else 14) h16 hlt hall (by rw[hz]; decide);rw[hz] at hbad;refine run ?_;refine fin ?_;simp only[chkV,hbad];rfl
  ·refine run ?_;refine round (k+1) ⟨by omega,fun i hi=> ?_⟩ (by omega);by_cases e:i=k
   ·rw[e,hz]; rfl
   ·exact hall i (by omega)
 ·refine run ?_;refine fin ?_;simp only[chkV,jij h16 fun i hi=>hall i (by omega)]
theorem den_ixClk (l:List Clk) (f:FuncId) (cap:List V) (p:Clk->Bool) (hl:l.length<=1048576) (hp:∀e∈l,Den prog T f (.agg e.cs::cap) (vb (p e))):
   Den prog T 13 [clks l,.func f cap] (vi (ix p l)):=by
  refine ae follows (fun args w=>call13 args w) func13 rfl 19 rfl ?_;refine run ?_
  refine loop ⟨[0,1,7,8],[],[],[]⟩ (fun k:Nat=>k<=l.length/\∀e∈l.take k,p e=false) (fun k=>l.length-k)
    (fun k=>⟨19,[(0,.v (clks l)),(1,.v (.func f cap)),(7,.v (vi l.length)),(8,.v (vi k))],[],[]⟩) 0 ⟨by omega,by simp⟩ ?_
  rintro k ⟨hk,hall⟩;by_cases hlt:k<l.length
  · obtain ⟨x,hx,-,hm⟩:=aj hlt;refine runW hx ?_;refine call (hp x hm) ?_;cases hpc:p x
    · refine run ?_;exact round (k+1) ⟨by omega,br hall hx hpc⟩ (by omega)
    · refine run ?_;exact fin (al (jav hall hx hpc))
  · refine run ?_;exact fin (al (jb3 hall hlt))
theorem den_anyClk (l:List Clk) (f:FuncId) (cap:List V) (p:Clk->Bool) (hl:l.length<=1048576) (hp:∀e∈l,Den prog T f (.agg e.cs::cap) (vb (p e))):
   Den prog T 122 [clks l,.func f cap] (vb (l.any p)):=by
  refine ae follows (fun args w=>call122 args w) func122 rfl 9 rfl ?_;refine run ?_;refine call (den_ixClk l f cap p hl hp) ?_;refine run ?_;exact fin (ak (jcf p l))
theorem den_ixPrp (l:List Prp) (f:FuncId) (cap:List V) (p:Prp->Bool) (hl:l.length<=1048576) (hp:∀e∈l,Den prog T f (.agg e.cs::cap) (vb (p e))):
   Den prog T 9 [prps l,.func f cap] (vi (ix p l)):=by
  refine ae follows (fun args w=>call9 args w) func9 rfl 19 rfl ?_;refine run ?_
  refine loop ⟨[0,1,7,8],[],[],[]⟩ (fun k:Nat=>k<=l.length/\∀e∈l.take k,p e=false) (fun k=>l.length-k)
    (fun k=>⟨19,[(0,.v (prps l)),(1,.v (.func f cap)),(7,.v (vi l.length)),(8,.v (vi k))],[],[]⟩) 0 ⟨by omega,by simp⟩ ?_
  rintro k ⟨hk,hall⟩;by_cases hlt:k<l.length
  · obtain ⟨x,hx,-,hm⟩:=aj hlt;refine runW hx ?_;refine call (hp x hm) ?_;cases hpc:p x
    · refine run ?_;exact round (k+1) ⟨by omega,br hall hx hpc⟩ (by omega)
    · refine run ?_;exact fin (al (jav hall hx hpc))
  · refine run ?_;exact fin (al (jb3 hall hlt))
theorem den_anyPrp (l:List Prp) (f:FuncId) (cap:List V) (p:Prp->Bool) (hl:l.length<=1048576) (hp:∀e∈l,Den prog T f (.agg e.cs::cap) (vb (p e))):
   Den prog T 77 [prps l,.func f cap] (vb (l.any p)):=by
  refine ae follows (fun args w=>call77 args w) func77 rfl 9 rfl ?_;refine run ?_;refine call (den_ixPrp l f cap p hl hp) ?_;refine run ?_;exact fin (ak (jcf p l))
theorem den_ixApv (l:List Apv) (f:FuncId) (cap:List V) (p:Apv->Bool) (hl:l.length<=1048576) (hp:∀e∈l,Den prog T f (.agg e.cs::cap) (vb (p e))):
   Den prog T 112 [apvs l,.func f cap] (vi (ix p l)):=by
  refine ae follows (fun args w=>call112 args w) func112 rfl 19 rfl ?_;refine run ?_
  refine loop ⟨[0,1,7,8],[],[],[]⟩ (fun k:Nat=>k<=l.length/\∀e∈l.take k,p e=false) (fun k=>l.length-k)
    (fun k=>⟨19,[(0,.v (apvs l)),(1,.v (.func f cap)),(7,.v (vi l.length)),(8,.v (vi k))],[],[]⟩) 0 ⟨by omega,by simp⟩ ?_
  rintro k ⟨hk,hall⟩;by_cases hlt:k<l.length
  · obtain ⟨x,hx,-,hm⟩:=aj hlt;refine runW hx ?_;refine call (hp x hm) ?_;cases hpc:p x
    · refine run ?_;exact round (k+1) ⟨by omega,br hall hx hpc⟩ (by omega)
    · refine run ?_;exact fin (al (jav hall hx hpc))
  · refine run ?_;exact fin (al (jb3 hall hlt))
theorem den_anyApv (l:List Apv) (f:FuncId) (cap:List V) (p:Apv->Bool) (hl:l.length<=1048576) (hp:∀e∈l,Den prog T f (.agg e.cs::cap) (vb (p e))):
   Den prog T 42 [apvs l,.func f cap] (vb (l.any p)):=by
  refine ae follows (fun args w=>call42 args w) func42 rfl 9 rfl ?_;refine run ?_;refine call (den_ixApv l f cap p hl hp) ?_;refine run ?_;exact fin (ak (jcf p l))
abbrev rowV (x:Bool×Int):V:= .agg [vb x.1,vi x.2]
theorem ag (b:Bool) (e:Int):Den prog T 67 [vb b,vi e] (.func 121 [.row [vb b],.row [vi e]]):=by
 refine ae follows (fun args w=>call67 args w) func67 rfl 6 rfl ?_;refine run ?_;exact fin rfl
theorem jaf (b:Bool) (e:Int):Den prog T 121 [.row [vb b],.row [vi e]] (rowV (b,e)):=by
 refine ae follows (fun args w=>call121 args w) func121 rfl 6 rfl ?_;refine run ?_;exact finC1 (.refl _)
def fstB:List (Bool×Int)->Int
 | []=>0
 | x::r=>if x.1=true then x.2 else fstB r
theorem fstB_drop {l:List (Bool×Int)} {k:Nat} {x:Bool×Int} (h:l[k]? = some x):fstB (l.drop k)=if x.1=true then x.2 else fstB (l.drop (k+1)):=by
 obtain ⟨hlt,rfl⟩:=gsi.1 h;rw[List.drop_eq_getElem_cons hlt];rfl
inductive RowsD (T:Lay):List (List V)->List (Bool×Int)->Prop
 | nil:RowsD T [] []
 | cons {f:FuncId} {cap:List V} {x:Bool×Int} {l:List (List V)} {m:List (Bool×Int)} (h:Den prog T f cap (rowV x)) (t:RowsD T l m):RowsD T ([.func f cap]::l) (x::m)
theorem RowsD.len {l:List (List V)} {m:List (Bool×Int)} (h:RowsD T l m):l.length=m.length:=by
 induction h with
 | nil=>rfl
 | cons _ _ ih=>simp[ih]
theorem RowsD.at {l:List (List V)} {m:List (Bool×Int)} (h:RowsD T l m):∀ {k:Nat},k<l.length->∃f cap x,l[k]? = some [.func f cap]/\m[k]? = some x/\Den prog T f cap (rowV x):=by
 induction h with
 | nil=>intro k hk; exact absurd hk (Nat.not_lt_zero k)
 | cons hd _ ih=>
  intro k hk;cases k with
  | zero=>exact ⟨_,_,_,rfl,rfl,hd⟩
  | succ k=>exact ih (by simpa using hk)
theorem jlq (l:List (List V)) (m:List (Bool×Int)) (h:RowsD T l m) (hl:l.length<=1048576):Den prog T 66 [.slice 1 l] (vi (fstB m)):=by
 have hlen:=h.len;refine ae follows (fun args w=>call66 args w) func66 rfl 19 rfl ?_;refine run ?_
 refine loop ⟨[6,7,8],[],[],[]⟩ (fun k:Nat=>k<=l.length/\fstB m=fstB (m.drop k)) (fun k=>l.length-k)
  (fun k=>⟨19,[(6,.v (.slice 1 l)),(7,.v (vi l.length)),(8,.v (vi k))],[],[]⟩) 0 ⟨Nat.zero_le _,rfl⟩ ?_
 rintro k ⟨hk,hall⟩;by_cases hlt:k<l.length
 ·obtain ⟨f,cap,⟨b,e⟩,h1,h2,h3⟩:=h.at hlt;have hd:=fstB_drop h2;refine runW h1 ?_;refine call h3 ?_;cases b
  ·refine run ?_;exact round (k+1) ⟨hlt,by rw[hall,hd]; rfl⟩ (by omega)
  ·refine run ?_;refine fin (al ?_);rw[hall,hd];rfl
 ·refine run ?_;refine fin (al ?_);rw[hall,List.drop_eq_nil_of_le (by omega)];rfl
theorem den_clerkOn1 (c:Clk) (n d:Int):Den prog T 141 [.agg c.cs,.row [vi n],.row [vi d]] (vb (jjg n d c)):=by
 refine ae follows (fun args w=>call141 args w) func141 rfl 23 rfl ?_;unfold jjg inS;by_cases h1:c.id=n
 ·by_cases h2:c.frm<=d
  ·refine run ?_;refine fin (ak ?_);simp[h2]
  ·refine run ?_;refine fin (ak ?_);simp[h2]
 ·refine runW (eq_false h1) ?_;refine fin (ak ?_);simp
theorem jrg (r:Rgs) (h:r.Fit) (n d:Int):Den prog T 79 [.agg r.cs,vi n,vi d] (vb (jds r.cks n d)):=by
 refine ae follows (fun args w=>call79 args w) func79 rfl 11 rfl ?_;refine run ?_;refine call (den_anyClk r.cks _ _ (jjg n d) h.cks.1 fun c _=>den_clerkOn1 c n d) ?_;refine run ?_;exact fin rfl
theorem den_findD1 (p:Prp) (n:Int):Den prog T 65 [.agg p.cs,.row [vi n]] (vb (ca n p)):=by
 refine ae follows (fun args w=>call65 args w) func65 rfl 8 rfl ?_;refine run ?_;exact fin rfl
theorem jm2 (r:Rgs) (h:r.Fit) (n:Int):Den prog T 26 [.agg r.cs,vi n] (vi (jbf r.pps n)):=by
 refine ae follows (fun args w=>call26 args w) func26 rfl 9 rfl ?_;refine run ?_;refine call (den_ixPrp r.pps _ _ (ca n) h.pps.1 fun p _=>den_findD1 p n) ?_;refine run ?_;exact fin rfl
theorem den_certified1 (c:Crt) (n:Int):Den prog T 111 [.agg c.cs,.row [vi n]] (vb (isCrtP n c)):=by
 refine ae follows (fun args w=>call111 args w) func111 rfl 8 rfl ?_;refine run ?_;exact fin rfl
theorem jqr (r:Rgs) (h:r.Fit) (n:Int):Den prog T 41 [.agg r.cs,vi n] (vb (jbh r.crs n)):=by
 refine ae follows (fun args w=>call41 args w) func41 rfl 9 rfl ?_;refine run ?_;refine call (den_anyCrt r.crs _ _ (isCrtP n) h.crs.1 fun c _=>den_certified1 c n) ?_;refine run ?_;exact fin rfl
theorem ac (i:Nat):(if (0:Int) > (i:Int)-1 then (0:Int) else (i:Int)-1)=((i-1:Nat):Int):=by split <;> omega
def clkRows (q:Option Clk) (c:Clk):List (Bool×Int):=[(!idB c.id || !(decide (1<=c.role) && decide (c.role<=3)) || decide (c.frm<0) || decide (c.til<=c.frm) || decide (1048576<c.til),2),(!name c.name,4),(earlyC q c,5)]
theorem clkRows_ok {l:List Clk} {i:Nat} {c:Clk} (h:l[i]? = some c):fstB (clkRows (bg l i) c)=jdh l i:=by
 unfold jdh clkRows;rw[h];simp only[fstB]
 have hg:(!idB c.id || !(decide (1<=c.role) && decide (c.role<=3)) || decide (c.frm<0) || decide (c.til<=c.frm) || decide (1048576<c.til))=true↔(idB c.id=false\/c.role<1\/3<c.role\/bt c.frm c.til=false):=by
  unfold bt;cases idB c.id <;> simp <;> omega
 by_cases h1:idB c.id=false\/c.role<1\/3<c.role\/bt c.frm c.til=false
 ·rw[if_pos (hg.2 h1),if_pos h1]
 ·rw[if_neg (fun e=>h1 (hg.1 e)),if_neg h1];cases name c.name <;> rfl
set_option maxHeartbeats 8000000 in
theorem den_clerkD (L:LibC T) (r:Rgs) (h:r.Fit) (i:Nat) (hi:i<r.cks.length):Den prog T 30 [.agg r.cs,vi i] (vi (jdh r.cks i)):=by
 have hl:=h.cks.1;obtain ⟨c,hc,-,hm⟩:=aj hi;have hN:=jk5 L c.name (h.cks.2 c hm);rw[<- clkRows_ok hc]
 have hrow:∀b2 b3,RowsD T [[.func 121 [.row [vb b2],.row [vi 2]]],[.func 121 [.row [vb (!name c.name)],.row [vi 4]]],[.func 121 [.row [vb b3],.row [vi 5]]]] [(b2,2),(!name c.name,4),(b3,5)]:=fun b2 b3=>
  .cons (jaf _ _) (.cons (jaf _ _) (.cons (jaf _ _) .nil))
 have hF:∀b2 b3,Den prog T 66 [.slice 1 [[.func 121 [.row [vb b2],.row [vi 2]]],[.func 121 [.row [vb (!name c.name)],.row [vi 4]]],[.func 121 [.row [vb b3],.row [vi 5]]]]] (vi (fstB [(b2,2),(!name c.name,4),(b3,5)])):=fun b2 b3=>jlq _ _ (hrow b2 b3) (by show (3:Nat)<=1048576; decide)
 have hp:(i=0/\earlyC (bg r.cks i) c=false)\/(i≠0/\∃q,r.cks[i-1]? = some q/\earlyC (bg r.cks i) c=decide (c.id<=q.id)):=by
  by_cases h0:i=0
  ·left; subst h0; exact ⟨rfl,rfl⟩
  ·right;obtain ⟨q,hq,-,-⟩:=aj (l:=r.cks) (k:=i-1) (by omega);refine ⟨h0,q,hq,?_⟩;unfold bg;rw[if_neg h0,hq];rfl
 have hcs:(idB c.id=false)\/(idB c.id=true/\(decide (1<=c.role) && decide (c.role<=3))=false)\/(idB c.id=true/\(decide (1<=c.role) && decide (c.role<=3))=true/\c.frm<0)\/(idB c.id=true/\(decide (1<=c.role) && decide (c.role<=3))=true/\¬c.frm<0/\c.til<=c.frm)\/(idB c.id=true/\(decide (1<=c.role) && decide (c.role<=3))=true/\¬c.frm<0/\¬c.til<=c.frm):=by
  cases idB c.id
  ·exact .inl rfl
  ·cases (decide (1<=c.role) && decide (c.role<=3))
   ·exact .inr (.inl ⟨rfl,rfl⟩)
   ·by_cases h1:c.frm<0
    ·exact .inr (.inr (.inl ⟨rfl,rfl,h1⟩))
    ·by_cases h2:c.til<=c.frm
     ·exact .inr (.inr (.inr (.inl ⟨rfl,rfl,h1,h2⟩)))
     ·exact .inr (.inr (.inr (.inr ⟨rfl,rfl,h1,h2⟩)))
 unfold clkRows;refine ae follows (fun args w=>call30 args w) func30 rfl 66 rfl ?_;rcases hp with ⟨rfl,hpv⟩ | ⟨h0,q,hq,hpv⟩ <;> rw[hpv]
 ·rcases hcs with h1 | ⟨h1,h2⟩ | ⟨h1,h2,h3⟩ | ⟨h1,h2,h3,h4⟩ | ⟨h1,h2,h3,h4⟩
  ·refine runW hc ?_;refine call (jck c.id) ?_;rw[h1];refine runW hc ?_;refine call (ag _ 2) ?_;refine runW hc ?_;refine call hN ?_;refine runW hc ?_;refine call (ag _ 4) ?_;refine runW hc ?_;refine call (ag _ 5) ?_;refine runW hc ?_;refine call (hF _ _) ?_;refine runW hc ?_;refine fin (al ?_);simp
  ·refine runW hc ?_;refine call (jck c.id) ?_;rw[h1];refine runW hc ?_;refine call (jc2 c.role 1 3) ?_;rw[h2];refine runW hc ?_;refine call (ag _ 2) ?_;refine runW hc ?_;refine call hN ?_;refine runW hc ?_;refine call (ag _ 4) ?_;refine runW hc ?_;refine call (ag _ 5) ?_;refine runW hc ?_;refine call (hF _ _) ?_;refine runW hc ?_;refine fin (al ?_);simp only
  ·refine runW hc ?_;refine call (jck c.id) ?_;rw[h1];refine runW hc ?_;refine call (jc2 c.role 1 3) ?_;rw[h2];refine runW hc ?_;refine call (ag _ 2) ?_;refine runW hc ?_;refine call hN ?_;refine runW hc ?_;refine call (ag _ 4) ?_;refine runW hc ?_;refine call (ag _ 5) ?_;refine runW hc ?_;refine call (hF _ _) ?_;refine runW hc ?_;refine fin (al ?_);simp only
  ·refine runW hc ?_;refine call (jck c.id) ?_;rw[h1];refine runW hc ?_;refine call (jc2 c.role 1 3) ?_;rw[h2];refine runW hc ?_;refine call (ag _ 2) ?_;refine runW hc ?_;refine call hN ?_;refine runW hc ?_;refine call (ag _ 4) ?_;refine runW hc ?_;refine call (ag _ 5) ?_;refine runW hc ?_;refine call (hF _ _) ?_;refine runW hc ?_;refine fin (al ?_);simp only
  ·refine runW hc ?_;refine call (jck c.id) ?_;rw[h1];refine runW hc ?_;refine call (jc2 c.role 1 3) ?_;rw[h2];refine runW hc ?_;refine call (ag _ 2) ?_;refine runW hc ?_;refine call hN ?_;refine runW hc ?_;refine call (ag _ 4) ?_;refine runW hc ?_;refine call (ag _ 5) ?_;refine runW hc ?_;refine call (hF _ _) ?_;refine runW hc ?_;refine fin (al ?_);simp only
 ·rcases hcs with h1 | ⟨h1,h2⟩ | ⟨h1,h2,h3⟩ | ⟨h1,h2,h3,h4⟩ | ⟨h1,h2,h3,h4⟩
  ·refine runW (ai hc (ai hq (ac i))) ?_;refine call (jck c.id) ?_;rw[h1];refine runW (ai hc (ai hq (ac i))) ?_;refine call (ag _ 2) ?_;refine runW (ai hc (ai hq (ac i))) ?_;refine call hN ?_;refine runW (ai hc (ai hq (ac i))) ?_;refine call (ag _ 4) ?_;refine runW (ai hc (ai hq (ac i))) ?_;refine call (ag _ 5) ?_;refine runW (ai hc (ai hq (ac i))) ?_;refine call (hF _ _) ?_;refine runW (ai hc (ai hq (ac i))) ?_;refine fin (al ?_);simp[]
  ·refine runW (ai hc (ai hq (ac i))) ?_;refine call (jck c.id) ?_;rw[h1];refine runW (ai hc (ai hq (ac i))) ?_;refine call (jc2 c.role 1 3) ?_;rw[h2];refine runW (ai hc (ai hq (ac i))) ?_;refine call (ag _ 2) ?_;refine runW (ai hc (ai hq (ac i))) ?_;refine call hN ?_;refine runW (ai hc (ai hq (ac i))) ?_;refine call (ag _ 4) ?_;refine runW (ai hc (ai hq (ac i))) ?_;refine call (ag _ 5) ?_;refine runW (ai hc (ai hq (ac i))) ?_;refine call (hF _ _) ?_;refine runW (ai hc (ai hq (ac i))) ?_;refine fin (al ?_);simp only
  ·refine runW (ai hc (ai hq (ac i))) ?_;refine call (jck c.id) ?_;rw[h1];refine runW (ai hc (ai hq (ac i))) ?_;refine call (jc2 c.role 1 3) ?_;rw[h2];refine runW (ai hc (ai hq (ac i))) ?_;refine call (ag _ 2) ?_;refine runW (ai hc (ai hq (ac i))) ?_;refine call hN ?_;refine runW (ai hc (ai hq (ac i))) ?_;refine call (ag _ 4) ?_;refine runW (ai hc (ai hq (ac i))) ?_;refine call (ag _ 5) ?_;refine runW (ai hc (ai hq (ac i))) ?_;refine call (hF _ _) ?_;refine runW (ai hc (ai hq (ac i))) ?_;refine fin (al ?_);simp only
  ·refine runW (ai hc (ai hq (ac i))) ?_;refine call (jck c.id) ?_;rw[h1];refine runW (ai hc (ai hq (ac i))) ?_;refine call (jc2 c.role 1 3) ?_;rw[h2];refine runW (ai hc (ai hq (ac i))) ?_;refine call (ag _ 2) ?_;refine runW (ai hc (ai hq (ac i))) ?_;refine call hN ?_;refine runW (ai hc (ai hq (ac i))) ?_;refine call (ag _ 4) ?_;refine runW (ai hc (ai hq (ac i))) ?_;refine call (ag _ 5) ?_;refine runW (ai hc (ai hq (ac i))) ?_;refine call (hF _ _) ?_;refine runW (ai hc (ai hq (ac i))) ?_;refine fin (al ?_);simp only
  ·refine runW (ai hc (ai hq (ac i))) ?_;refine call (jck c.id) ?_;rw[h1];refine runW (ai hc (ai hq (ac i))) ?_;refine call (jc2 c.role 1 3) ?_;rw[h2];refine runW (ai hc (ai hq (ac i))) ?_;refine call (ag _ 2) ?_;refine runW (ai hc (ai hq (ac i))) ?_;refine call hN ?_;refine runW (ai hc (ai hq (ac i))) ?_;refine call (ag _ 4) ?_;refine runW (ai hc (ai hq (ac i))) ?_;refine call (ag _ 5) ?_;refine runW (ai hc (ai hq (ac i))) ?_;refine call (hF _ _) ?_;refine runW (ai hc (ai hq (ac i))) ?_;refine fin (al ?_);simp only
def prpRows (r:Rgs) (pre:List Prp) (q:Option Prp) (p:Prp):List (Bool×Int):=
 [(!idB p.id || !dayG p.day || !wdrB p,2),(je9 q p,5),(!jds r.cks p.clk p.day,7),(decide ((p.fls.length:Int)=0),9),(p.fls.any fun f=>decide (jae r.fls f<0),7),(!risI p.fls,5),(p.fls.any (jke pre p.day),6)]
theorem hasF_findD (l:List Fil) (n:Int):hasF l n= !decide (jae l n<0):=by
 unfold hasF jae;rcases je7 (jej n) l with ⟨h1,h2⟩ | ⟨k,x,h1,-,-,h4,h5⟩
 ·rw[h1];have:l.any (fun f=>decide (f.id=n))=false:=List.any_eq_false.2 fun x hx e=>List.find?_eq_none.1 h2 x hx e;rw[this]; rfl
 ·rw[h1];have:l.any (fun f=>decide (f.id=n))=true:=List.any_eq_true.2 ⟨x,h4,List.find?_some (p:=jej n) h5⟩;rw[this];simp
theorem prpRows_ok (r:Rgs) (pre:List Prp) (q:Option Prp) (p:Prp):fstB (prpRows r pre q p)=prpE r pre q p:=by
 unfold prpE prpRows;simp only[fstB]
 have e1:(!idB p.id || !dayG p.day || !wdrB p)=true↔(idB p.id=false\/dayG p.day=false\/wdrB p=false):=by
  cases idB p.id <;> cases dayG p.day <;> cases wdrB p <;> simp
 have e4:decide ((p.fls.length:Int)=0)=true↔p.fls=[]:=by
  rw[decide_eq_true_eq];constructor
  ·intro h; exact List.eq_nil_of_length_eq_zero (by omega)
  ·intro h; rw[h]; rfl
 have e5:(p.fls.any fun f=>decide (jae r.fls f<0))=true↔p.fls.all (hasF r.fls)=false:=by
  rw[List.any_eq_true,List.all_eq_false];constructor
  ·rintro ⟨f,hf,h⟩;exact ⟨f,hf,by rw[hasF_findD,h]; decide⟩
  ·rintro ⟨f,hf,h⟩;refine ⟨f,hf,?_⟩;rw[hasF_findD] at h;simpa using h
 by_cases h1:idB p.id=false\/dayG p.day=false\/wdrB p=false
 ·rw[if_pos (e1.2 h1),if_pos h1]
 rw[if_neg (fun e=>h1 (e1.1 e)),if_neg h1];by_cases h2:je9 q p=true
 ·rw[if_pos h2,if_pos h2]
 rw[if_neg h2,if_neg h2];cases h3:jds r.cks p.clk p.day
 ·rfl
 simp only[Bool.not_true,Bool.false_eq_true,reduceCtorEq,if_false];by_cases h4:p.fls=[]
 ·rw[if_pos (e4.2 h4),if_pos h4]
 rw[if_neg (fun e=>h4 (e4.1 e)),if_neg h4];by_cases h5:p.fls.all (hasF r.fls)=false
 ·rw[if_pos (e5.2 h5),if_pos h5]
 rw[if_neg (fun e=>h5 (e5.1 e)),if_neg h5];cases h6:risI p.fls
 ·rfl
 ·simp only[Bool.not_true,Bool.false_eq_true,reduceCtorEq,if_false]
theorem den_prop2 (r:Rgs) (h:r.Fit) (f:Int):Den prog T 80 [vi f,.row r.cs] (vb (decide (jae r.fls f<0))):=by
 have hl:=h.fls.1;refine ae follows (fun args w=>call80 args w) func80 rfl 9 rfl ?_;refine run ?_;refine call (jqd r.fls f hl) ?_;refine run ?_;exact fin rfl
theorem den_prop11 (q p:Prp) (f:Int) (hq:q.fls.length<=1048576):Den prog T 78 [.agg q.cs,.row p.cs,.row [vi f]] (vb (holdP p.day f q)):=by
 refine ae follows (fun args w=>call78 args w) func78 rfl 16 rfl ?_;unfold holdP;by_cases h1:p.day<q.wdr
 ·refine run ?_;refine call (jna q.fls f hq) ?_;refine run ?_;refine fin (ak ?_);simp only[hasI];congr 1
  funext y
  exact decide_eq_decide.2 eq_comm
 ·refine run ?_;refine fin (ak ?_);simp[]
theorem den_prop1 (r:Rgs) (h:r.Fit) (i:Nat) (hi:i<=r.pps.length) (p:Prp) (f:Int):Den prog T 76 [vi f,.row r.cs,.row [vi i],.row p.cs] (vb (jke (r.pps.take i) p.day f)):=by
 have hl:=h.pps.1;have hA:=den_anyPrp (T:=T) (r.pps.take i) 78 [.row p.cs,.row [vi f]] (holdP p.day f) (by rw[List.length_take]; omega) fun q hq=>den_prop11 q p f (h.pps.2 q (List.mem_of_mem_take hq));have ht:(r.pps.map Prp.cs).take i=(r.pps.take i).map Prp.cs:=by rw[List.map_take]
 refine ae follows (fun args w=>call76 args w) func76 rfl 12 rfl ?_;refine runW ht ?_;refine call hA ?_;refine run ?_;exact fin rfl
end Go.Arc
