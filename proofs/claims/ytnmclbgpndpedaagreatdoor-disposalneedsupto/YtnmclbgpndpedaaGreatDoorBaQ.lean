/- A part of this claim. -/
import Derived.Test.YtnmclbgpndpedaaGreatDoorWL3
import Derived.Test.YtnmclbgpndpedaaGreatDoorBaU
import Derived.Test.YtnmclbgpndpedaaGreatDoorBaZ
set_option maxRecDepth 100000
namespace Go.Arc
open Go.Ab Go.RowKit Go.Proofs
variable {T : Lay}
def manyS (l:List Sel):Bool:=l.any fun s=>decide (12<s.fls.length)
def manyC (l:List Crt):Bool:=l.any fun s=>decide (12<s.fls.length)
def fewG0 (r:Rgs):Bool:=fewO r.ofs && few r.pls && fewF r.fls && fewR r.rls && fewH r.hls && !decide (8<r.sls.length) && !decide (8<r.crs.length) && !decide (8<r.dps.length)
def fewG (r:Rgs):Bool:=fewG0 r && !manyS r.sls && !manyC r.crs
theorem den_FewG (r:Rgs) (h:r.Fit):Den Tryz.prog T 24 [.agg r.cs] (vb (fewG r)):=by
 have hs:=h.sls.1;have hc:=h.crs.1;have hd:=h.dps;refine ja0 follows (fun args w=>Tryz.call24 args w) Tryz.func24 rfl 81 rfl ?_;unfold fewG fewG0;refine run ?_;refine call (den_FewO r.ofs h.ofs) ?_;cases e1:fewO r.ofs
 ·refine run ?_;exact fin rfl
 refine run ?_;refine call (den_Few r.pls h.pls) ?_;cases e2:few r.pls
 ·refine run ?_;exact fin rfl
 refine run ?_;refine call (den_FewF r.fls h.fls) ?_;cases e3:fewF r.fls
 ·refine run ?_;exact fin rfl
 refine run ?_;refine call (den_FewR r.rls h.rls) ?_;cases e4:fewR r.rls
 ·refine run ?_;exact fin rfl
 refine run ?_;refine call (den_FewH r.hls h.hls) ?_;cases e5:fewH r.hls
 ·refine run ?_;exact fin rfl
 by_cases g1:8<r.sls.length
 ·rw[decide_eq_true g1];refine runW (eq_true g1) ?_;exact fin rfl
 by_cases g2:8<r.crs.length
 ·rw[decide_eq_true g2,decide_eq_false g1];refine runW (ai (eq_false g1) (eq_true g2)) ?_;exact fin rfl
 by_cases g3:8<r.dps.length
 ·rw[decide_eq_true g3,decide_eq_false g2,decide_eq_false g1];refine runW (ai (eq_false g1) (ai (eq_false g2) (eq_true g3))) ?_;exact fin rfl
 rw[decide_eq_false g3,decide_eq_false g2,decide_eq_false g1];refine runW (ai (eq_false g1) (ai (eq_false g2) (eq_false g3))) ?_
 refine loop ⟨[1,3],[1],[],[]⟩ (fun k:Nat=>k<=r.sls.length/\∀s∈r.sls.take k,decide (12<s.fls.length)=false) (fun k=>r.sls.length-k)
  (fun k=>⟨81,[(1,.p 1 0),(3,.v (vi k))],[(1,.var r.cs)],[]⟩) 0 ⟨Nat.zero_le _,by simp⟩ ?_
 rintro k ⟨hk,hall⟩;by_cases hlt:k<r.sls.length
 ·obtain ⟨x,hx,-,hm⟩:=ja8 hlt;have hxf:=h.sls.2 x hm;by_cases hb:12<x.fls.length
  ·have hmany:manyS r.sls=true:=List.any_eq_true.2 ⟨x,hm,decide_eq_true hb⟩;rw[hmany];refine runW (ai hx (eq_true hb)) ?_;exact fin rfl
  ·refine runW (ai hx (eq_false hb)) ?_;exact round (k+1) ⟨hlt,jac hall hx (decide_eq_false hb)⟩ (by omega)
 have hms:manyS r.sls=false:=List.any_eq_false.2 fun x hx=>by rw[jdt hall hlt x hx]; decide
 rw[hms];clear hall;refine run ?_
 refine loop ⟨[1,4],[1],[],[]⟩ (fun k:Nat=>k<=r.crs.length/\∀s∈r.crs.take k,decide (12<s.fls.length)=false) (fun k=>r.crs.length-k)
  (fun k=>⟨81,[(1,.p 1 0),(4,.v (vi k))],[(1,.var r.cs)],[]⟩) 0 ⟨Nat.zero_le _,by simp⟩ ?_
 rintro j ⟨hj,hall⟩;by_cases hjl:j<r.crs.length
 ·obtain ⟨x,hx,-,hm⟩:=ja8 hjl;have hxf:=(h.crs.2 x hm).1;by_cases hb:12<x.fls.length
  ·have hmany:manyC r.crs=true:=List.any_eq_true.2 ⟨x,hm,decide_eq_true hb⟩;rw[hmany];refine runW (ai hx (eq_true hb)) ?_;exact fin rfl
  ·refine runW (ai hx (eq_false hb)) ?_;exact round (j+1) ⟨hjl,jac hall hx (decide_eq_false hb)⟩ (by omega)
 have hmc:manyC r.crs=false:=List.any_eq_false.2 fun x hx=>by rw[jdt hall hjl x hx]; decide
 rw[hmc];refine run ?_;exact fin rfl
end Go.Arc
set_option maxRecDepth 100000
namespace Go.Arc
open Go.Ab Go.RowKit Go.Proofs
variable {T : Lay}
theorem denU_cloneOfc (l:List Ofc) (hl:l.length<=1048576):DenU Tryz.prog T 167 [ofcs l] (jim 112 5 (l.map Ofc.cs)):=by
 refine jat follows (fun args w=>Tryz.call167 args w) Tryz.func167 rfl 8 rfl ?_;cases l with
 | nil=>
  refine jfc ?_;refine run ?_;intro b;cases b
  ·refine run ?_;refine .inr ⟨2,7,112,5,rfl,rfl,by kernel_rfl,by decide,rfl,?_,fun r cap hcap=> ?_⟩
   ·exact ⟨_,_,jaw rfl,.refl _,.inl (.inl ⟨rfl,rfl,rfl⟩)⟩
   ·exact ⟨_,_,jaw rfl,.refl _,.inr ⟨7,_,r,rfl,rfl,.inr ⟨r,cap,rfl,Nat.zero_le _,hcap,rfl⟩⟩⟩
  ·refine run ?_;exact .inl ⟨_,_,jaw rfl,.refl _,.inl (.inl ⟨rfl,rfl,rfl⟩)⟩
 | cons x r=>
  have h:r.length+1<=1048576:=hl;have e:ofcs (x::r)= .slice 5 (Ofc.cs x::r.map Ofc.cs):=rfl;rw[e];refine runB trivial ?_;refine jhq ?_;unfold appR;refine run ?_;intro r' cap' hnm h1 h2;refine run ?_;refine ⟨_,_,jaw rfl,.refl _,.inr ⟨7,_,r',rfl,rfl,.inr ⟨r',cap',rfl,?_,h2,?_⟩⟩⟩
  ·simpa using h1
  ·simp
theorem denU_clonePln (l:List Plan) (hl:l.length<=1048576):DenU Tryz.prog T 168 [jcb l] (jim 118 5 (l.map Plan.cs)):=by
 refine jat follows (fun args w=>Tryz.call168 args w) Tryz.func168 rfl 8 rfl ?_;cases l with
 | nil=>
  refine jfc ?_;refine run ?_;intro b;cases b
  ·refine run ?_;refine .inr ⟨2,7,118,5,rfl,rfl,by kernel_rfl,by decide,rfl,?_,fun r cap hcap=> ?_⟩
   ·exact ⟨_,_,jaw rfl,.refl _,.inl (.inl ⟨rfl,rfl,rfl⟩)⟩
   ·exact ⟨_,_,jaw rfl,.refl _,.inr ⟨7,_,r,rfl,rfl,.inr ⟨r,cap,rfl,Nat.zero_le _,hcap,rfl⟩⟩⟩
  ·refine run ?_;exact .inl ⟨_,_,jaw rfl,.refl _,.inl (.inl ⟨rfl,rfl,rfl⟩)⟩
 | cons x r=>
  have h:r.length+1<=1048576:=hl;have e:jcb (x::r)= .slice 5 (Plan.cs x::r.map Plan.cs):=rfl;rw[e];refine runB trivial ?_;refine jhq ?_;unfold appR;refine run ?_;intro r' cap' hnm h1 h2;refine run ?_;refine ⟨_,_,jaw rfl,.refl _,.inr ⟨7,_,r',rfl,rfl,.inr ⟨r',cap',rfl,?_,h2,?_⟩⟩⟩
  ·simpa using h1
  ·simp
theorem denU_cloneFil (l:List Fil) (hl:l.length<=1048576):DenU Tryz.prog T 169 [fils l] (jim 86 8 (l.map Fil.cs)):=by
 refine jat follows (fun args w=>Tryz.call169 args w) Tryz.func169 rfl 8 rfl ?_;cases l with
 | nil=>
  refine jfc ?_;refine run ?_;intro b;cases b
  ·refine run ?_;refine .inr ⟨2,7,86,8,rfl,rfl,by kernel_rfl,by decide,rfl,?_,fun r cap hcap=> ?_⟩
   ·exact ⟨_,_,jaw rfl,.refl _,.inl (.inl ⟨rfl,rfl,rfl⟩)⟩
   ·exact ⟨_,_,jaw rfl,.refl _,.inr ⟨7,_,r,rfl,rfl,.inr ⟨r,cap,rfl,Nat.zero_le _,hcap,rfl⟩⟩⟩
  ·refine run ?_;exact .inl ⟨_,_,jaw rfl,.refl _,.inl (.inl ⟨rfl,rfl,rfl⟩)⟩
 | cons x r=>
  have h:r.length+1<=1048576:=hl;have e:fils (x::r)= .slice 8 (Fil.cs x::r.map Fil.cs):=rfl;rw[e];refine runB trivial ?_;refine jhq ?_;unfold appR;refine run ?_;intro r' cap' hnm h1 h2;refine run ?_;refine ⟨_,_,jaw rfl,.refl _,.inr ⟨7,_,r',rfl,rfl,.inr ⟨r',cap',rfl,?_,h2,?_⟩⟩⟩
  ·simpa using h1
  ·simp
theorem denU_cloneSel (l:List Sel) (hl:l.length<=1048576):DenU Tryz.prog T 176 [sels l] (jim 134 3 (l.map Sel.cs)):=by
 refine jat follows (fun args w=>Tryz.call176 args w) Tryz.func176 rfl 8 rfl ?_;cases l with
 | nil=>
  refine jfc ?_;refine run ?_;intro b;cases b
  ·refine run ?_;refine .inr ⟨2,7,134,3,rfl,rfl,by kernel_rfl,by decide,rfl,?_,fun r cap hcap=> ?_⟩
   ·exact ⟨_,_,jaw rfl,.refl _,.inl (.inl ⟨rfl,rfl,rfl⟩)⟩
   ·exact ⟨_,_,jaw rfl,.refl _,.inr ⟨7,_,r,rfl,rfl,.inr ⟨r,cap,rfl,Nat.zero_le _,hcap,rfl⟩⟩⟩
  ·refine run ?_;exact .inl ⟨_,_,jaw rfl,.refl _,.inl (.inl ⟨rfl,rfl,rfl⟩)⟩
 | cons x r=>
  have h:r.length+1<=1048576:=hl;have e:sels (x::r)= .slice 3 (Sel.cs x::r.map Sel.cs):=rfl;rw[e];refine runB trivial ?_;refine jhq ?_;unfold appR;refine run ?_;intro r' cap' hnm h1 h2;refine run ?_;refine ⟨_,_,jaw rfl,.refl _,.inr ⟨7,_,r',rfl,rfl,.inr ⟨r',cap',rfl,?_,h2,?_⟩⟩⟩
  ·simpa using h1
  ·simp
theorem denU_clonePrp (l:List Prp) (hl:l.length<=1048576):DenU Tryz.prog T 177 [prps l] (jim 42 5 (l.map Prp.cs)):=by
 refine jat follows (fun args w=>Tryz.call177 args w) Tryz.func177 rfl 8 rfl ?_;cases l with
 | nil=>
  refine jfc ?_;refine run ?_;intro b;cases b
  ·refine run ?_;refine .inr ⟨2,7,42,5,rfl,rfl,by kernel_rfl,by decide,rfl,?_,fun r cap hcap=> ?_⟩
   ·exact ⟨_,_,jaw rfl,.refl _,.inl (.inl ⟨rfl,rfl,rfl⟩)⟩
   ·exact ⟨_,_,jaw rfl,.refl _,.inr ⟨7,_,r,rfl,rfl,.inr ⟨r,cap,rfl,Nat.zero_le _,hcap,rfl⟩⟩⟩
  ·refine run ?_;exact .inl ⟨_,_,jaw rfl,.refl _,.inl (.inl ⟨rfl,rfl,rfl⟩)⟩
 | cons x r=>
  have h:r.length+1<=1048576:=hl;have e:prps (x::r)= .slice 5 (Prp.cs x::r.map Prp.cs):=rfl;rw[e];refine runB trivial ?_;refine jhq ?_;unfold appR;refine run ?_;intro r' cap' hnm h1 h2;refine run ?_;refine ⟨_,_,jaw rfl,.refl _,.inr ⟨7,_,r',rfl,rfl,.inr ⟨r',cap',rfl,?_,h2,?_⟩⟩⟩
  ·simpa using h1
  ·simp
theorem denU_cloneCrt (l:List Crt) (hl:l.length<=1048576):DenU Tryz.prog T 178 [crts l] (jim 60 6 (l.map Crt.cs)):=by
 refine jat follows (fun args w=>Tryz.call178 args w) Tryz.func178 rfl 8 rfl ?_;cases l with
 | nil=>
  refine jfc ?_;refine run ?_;intro b;cases b
  ·refine run ?_;refine .inr ⟨2,7,60,6,rfl,rfl,by kernel_rfl,by decide,rfl,?_,fun r cap hcap=> ?_⟩
   ·exact ⟨_,_,jaw rfl,.refl _,.inl (.inl ⟨rfl,rfl,rfl⟩)⟩
   ·exact ⟨_,_,jaw rfl,.refl _,.inr ⟨7,_,r,rfl,rfl,.inr ⟨r,cap,rfl,Nat.zero_le _,hcap,rfl⟩⟩⟩
  ·refine run ?_;exact .inl ⟨_,_,jaw rfl,.refl _,.inl (.inl ⟨rfl,rfl,rfl⟩)⟩
 | cons x r=>
  have h:r.length+1<=1048576:=hl;have e:crts (x::r)= .slice 6 (Crt.cs x::r.map Crt.cs):=rfl;rw[e];refine runB trivial ?_;refine jhq ?_;unfold appR;refine run ?_;intro r' cap' hnm h1 h2;refine run ?_;refine ⟨_,_,jaw rfl,.refl _,.inr ⟨7,_,r',rfl,rfl,.inr ⟨r',cap',rfl,?_,h2,?_⟩⟩⟩
  ·simpa using h1
  ·simp
theorem denU_cloneApv (l:List Apv) (hl:l.length<=1048576):DenU Tryz.prog T 179 [apvs l] (jim 51 3 (l.map Apv.cs)):=by
 refine jat follows (fun args w=>Tryz.call179 args w) Tryz.func179 rfl 8 rfl ?_;cases l with
 | nil=>
  refine jfc ?_;refine run ?_;intro b;cases b
  ·refine run ?_;refine .inr ⟨2,7,51,3,rfl,rfl,by kernel_rfl,by decide,rfl,?_,fun r cap hcap=> ?_⟩
   ·exact ⟨_,_,jaw rfl,.refl _,.inl (.inl ⟨rfl,rfl,rfl⟩)⟩
   ·exact ⟨_,_,jaw rfl,.refl _,.inr ⟨7,_,r,rfl,rfl,.inr ⟨r,cap,rfl,Nat.zero_le _,hcap,rfl⟩⟩⟩
  ·refine run ?_;exact .inl ⟨_,_,jaw rfl,.refl _,.inl (.inl ⟨rfl,rfl,rfl⟩)⟩
 | cons x r=>
  have h:r.length+1<=1048576:=hl;have e:apvs (x::r)= .slice 3 (Apv.cs x::r.map Apv.cs):=rfl;rw[e];refine runB trivial ?_;refine jhq ?_;unfold appR;refine run ?_;intro r' cap' hnm h1 h2;refine run ?_;refine ⟨_,_,jaw rfl,.refl _,.inr ⟨7,_,r',rfl,rfl,.inr ⟨r',cap',rfl,?_,h2,?_⟩⟩⟩
  ·simpa using h1
  ·simp
theorem denU_cloneRul (l:List Rul) (hl:l.length<=1048576):DenU Tryz.prog T 173 [ruls l] (jim 120 8 (l.map Rul.cs)):=by
 refine jat follows (fun args w=>Tryz.call173 args w) Tryz.func173 rfl 8 rfl ?_;cases l with
 | nil=>
  refine jfc ?_;refine run ?_;intro b;cases b
  ·refine run ?_;refine .inr ⟨2,7,120,8,rfl,rfl,by kernel_rfl,by decide,rfl,?_,fun r cap hcap=> ?_⟩
   ·exact ⟨_,_,jaw rfl,.refl _,.inl (.inl ⟨rfl,rfl,rfl⟩)⟩
   ·exact ⟨_,_,jaw rfl,.refl _,.inr ⟨7,_,r,rfl,rfl,.inr ⟨r,cap,rfl,Nat.zero_le _,hcap,rfl⟩⟩⟩
  ·refine run ?_;exact .inl ⟨_,_,jaw rfl,.refl _,.inl (.inl ⟨rfl,rfl,rfl⟩)⟩
 | cons x r=>
  have h:r.length+1<=1048576:=hl;have e:ruls (x::r)= .slice 8 (Rul.cs x::r.map Rul.cs):=rfl;rw[e];refine runB trivial ?_;refine jhq ?_;unfold appR;refine run ?_;intro r' cap' hnm h1 h2;refine run ?_;refine ⟨_,_,jaw rfl,.refl _,.inr ⟨7,_,r',rfl,rfl,.inr ⟨r',cap',rfl,?_,h2,?_⟩⟩⟩
  ·simpa using h1
  ·simp
theorem denU_cloneHld (l:List Hld) (hl:l.length<=1048576):DenU Tryz.prog T 174 [hlds l] (jim 122 7 (l.map Hld.cs)):=by
 refine jat follows (fun args w=>Tryz.call174 args w) Tryz.func174 rfl 8 rfl ?_;cases l with
 | nil=>
  refine jfc ?_;refine run ?_;intro b;cases b
  ·refine run ?_;refine .inr ⟨2,7,122,7,rfl,rfl,by kernel_rfl,by decide,rfl,?_,fun r cap hcap=> ?_⟩
   ·exact ⟨_,_,jaw rfl,.refl _,.inl (.inl ⟨rfl,rfl,rfl⟩)⟩
   ·exact ⟨_,_,jaw rfl,.refl _,.inr ⟨7,_,r,rfl,rfl,.inr ⟨r,cap,rfl,Nat.zero_le _,hcap,rfl⟩⟩⟩
  ·refine run ?_;exact .inl ⟨_,_,jaw rfl,.refl _,.inl (.inl ⟨rfl,rfl,rfl⟩)⟩
 | cons x r=>
  have h:r.length+1<=1048576:=hl;have e:hlds (x::r)= .slice 7 (Hld.cs x::r.map Hld.cs):=rfl;rw[e];refine runB trivial ?_;refine jhq ?_;unfold appR;refine run ?_;intro r' cap' hnm h1 h2;refine run ?_;refine ⟨_,_,jaw rfl,.refl _,.inr ⟨7,_,r',rfl,rfl,.inr ⟨r',cap',rfl,?_,h2,?_⟩⟩⟩
  ·simpa using h1
  ·simp
theorem denU_cloneClk (l:List Clk) (hl:l.length<=1048576):DenU Tryz.prog T 175 [clks l] (jim 56 5 (l.map Clk.cs)):=by
 refine jat follows (fun args w=>Tryz.call175 args w) Tryz.func175 rfl 8 rfl ?_;cases l with
 | nil=>
  refine jfc ?_;refine run ?_;intro b;cases b
  ·refine run ?_;refine .inr ⟨2,7,56,5,rfl,rfl,by kernel_rfl,by decide,rfl,?_,fun r cap hcap=> ?_⟩
   ·exact ⟨_,_,jaw rfl,.refl _,.inl (.inl ⟨rfl,rfl,rfl⟩)⟩
   ·exact ⟨_,_,jaw rfl,.refl _,.inr ⟨7,_,r,rfl,rfl,.inr ⟨r,cap,rfl,Nat.zero_le _,hcap,rfl⟩⟩⟩
  ·refine run ?_;exact .inl ⟨_,_,jaw rfl,.refl _,.inl (.inl ⟨rfl,rfl,rfl⟩)⟩
 | cons x r=>
  have h:r.length+1<=1048576:=hl;have e:clks (x::r)= .slice 5 (Clk.cs x::r.map Clk.cs):=rfl;rw[e];refine runB trivial ?_;refine jhq ?_;unfold appR;refine run ?_;intro r' cap' hnm h1 h2;refine run ?_;refine ⟨_,_,jaw rfl,.refl _,.inr ⟨7,_,r',rfl,rfl,.inr ⟨r',cap',rfl,?_,h2,?_⟩⟩⟩
  ·simpa using h1
  ·simp
theorem denU_cloneDep (l:List Dep) (hl:l.length<=1048576):DenU Tryz.prog T 180 [deps l] (jim 105 2 (l.map Dep.cs)):=by
 refine jat follows (fun args w=>Tryz.call180 args w) Tryz.func180 rfl 8 rfl ?_;cases l with
 | nil=>
  refine jfc ?_;refine run ?_;intro b;cases b
  ·refine run ?_;refine .inr ⟨2,7,105,2,rfl,rfl,by kernel_rfl,by decide,rfl,?_,fun r cap hcap=> ?_⟩
   ·exact ⟨_,_,jaw rfl,.refl _,.inl (.inl ⟨rfl,rfl,rfl⟩)⟩
   ·exact ⟨_,_,jaw rfl,.refl _,.inr ⟨7,_,r,rfl,rfl,.inr ⟨r,cap,rfl,Nat.zero_le _,hcap,rfl⟩⟩⟩
  ·refine run ?_;exact .inl ⟨_,_,jaw rfl,.refl _,.inl (.inl ⟨rfl,rfl,rfl⟩)⟩
 | cons x r=>
  have h:r.length+1<=1048576:=hl;have e:deps (x::r)= .slice 2 (Dep.cs x::r.map Dep.cs):=rfl;rw[e];refine runB trivial ?_;refine jhq ?_;unfold appR;refine run ?_;intro r' cap' hnm h1 h2;refine run ?_;refine ⟨_,_,jaw rfl,.refl _,.inr ⟨7,_,r',rfl,rfl,.inr ⟨r',cap',rfl,?_,h2,?_⟩⟩⟩
  ·simpa using h1
  ·simp
theorem den_copyCls (l:List Cls) (hl:l.length<=1048576):DenO Tryz.prog T 170 [clss l] 114 (clss l):=by
 refine jbw follows (fun args w=>Tryz.call170 args w) Tryz.func170 rfl 8 rfl ?_;cases l with
 | nil=>
  refine run ?_;intro b;cases b
  ·refine run ?_;exact finO (.refl _)
  ·refine run ?_;exact finO (.nil 2)
 | cons x r=>
  have h:r.length+1<=1048576:=hl;have e:clss (x::r)= .slice 2 (Cls.cs x::r.map Cls.cs):=rfl;rw[e];refine run ?_;exact finO (.refl _)
theorem den_copyMov (l:List Mov) (hl:l.length<=1048576):DenO Tryz.prog T 171 [movs l] 224 (movs l):=by
 refine jbw follows (fun args w=>Tryz.call171 args w) Tryz.func171 rfl 8 rfl ?_;cases l with
 | nil=>
  refine run ?_;intro b;cases b
  ·refine run ?_;exact finO (.refl _)
  ·refine run ?_;exact finO (.nil 2)
 | cons x r=>
  have h:r.length+1<=1048576:=hl;have e:movs (x::r)= .slice 2 (Mov.cs x::r.map Mov.cs):=rfl;rw[e];refine run ?_;exact finO (.refl _)
theorem jf6 (l:List Int) (hl:l.length<=1048576):DenO Tryz.prog T 46 [ints l] 3 (ints l):=by
 refine jbw follows (fun args w=>Tryz.call46 args w) Tryz.func46 rfl 8 rfl ?_;cases l with
 | nil=>
  refine run ?_;intro b;cases b
  ·refine run ?_;exact finO (.refl _)
  ·refine run ?_;exact finO (.nil 1)
 | cons x r=>
  have h:r.length+1<=1048576:=hl;have e:ints (x::r)= .slice 1 (Cint x::r.map Cint):=rfl;rw[e];refine run ?_;exact finO (.refl _)
end Go.Arc
set_option maxRecDepth 100000
namespace Go.Arc
open Go.Ab Go.RowKit Go.Proofs
variable {T : Lay}
theorem row_nth {α:Type} {cs:α->List V} {z:Nat} (hz:∀x,(cs x).length=z) {l:List α} {k:Nat} {x:α} (h:l[k]? = some x) {off:Nat} {v:V} (hv:(cs x)[off]? = some v):((l.map cs).flatten)[k*z+off]? = some v:=by
 obtain ⟨A,B,h1,h2,-⟩:=row_at hz h;have hlt:=(List.getElem?_eq_some_iff.1 hv).1;rw[h1,List.getElem?_append_right (by omega),h2,Nat.add_sub_cancel_left,List.getElem?_append_left hlt];exact hv
theorem jj7 {α:Type} {cs:α->List V} {z:Nat} (hz:∀x,(cs x).length=z) {l:List α} {k:Nat} {x:α} (h:l[k]? = some x) {off:Nat} {v:V} (hv:(cs x)[off]? = some v):((l.map cs).flatten).drop (k*z+off)=v::((l.map cs).flatten).drop (k*z+off+1):=by
 obtain ⟨hlt,rfl⟩:=List.getElem?_eq_some_iff.1 (row_nth hz h hv);exact List.drop_eq_getElem_cons hlt
theorem jhv {α:Type} {cs:α->List V} {z:Nat} (hz:∀x,(cs x).length=z) {l:List α} {k:Nat} {x:α} (h:l[k]? = some x) {off:Nat} {v:V} (hv:(cs x)[off]? = some v):((l.map cs).flatten).take (k*z+off)++[v]++((l.map cs).flatten).drop (k*z+off+1)=(l.map cs).flatten:=by
 rw[List.append_assoc,List.singleton_append,<- jj7 hz h hv,List.take_append_drop]
theorem jda:∀a n c,(Value.slice a n c).oneCell'=true:=fun _ _ _=>rfl
def zc12:List V:=[.val (.slice none 0 0),.val (.slice none 0 0),.val (.slice none 0 0),.val (.slice none 0 0),.val (.slice none 0 0),.val (.slice none 0 0),.val (.slice none 0 0),.val (.slice none 0 0),.val (.slice none 0 0),.val (.slice none 0 0),.val (.slice none 0 0),vi 0]
abbrev gr137a:List Gent:=⟨bz 13 0,13,.one 0 0⟩::⟨bz 13 1,12,.one 2 0⟩::⟨bz 13 5,11,.one 3 0⟩::⟨bz 13 13,10,.one 5 0⟩::⟨bz 13 45,9,.alt [(1,1),(4,0)]⟩::⟨bz 13 61,8,.one 6 2⟩::⟨bz 13 47,8,.alt [(4,0)]⟩::⟨bz 13 63,7,.one 6 1⟩::⟨bz 13 125,7,.one 7 1⟩::⟨bz 13 127,6,.one 7 1⟩::⟨bz 13 253,6,.alt [(1,0),(8,1)]⟩::⟨bz 13 255,5,.alt [(8,2)]⟩::⟨bz 13 509,5,.alt [(1,1),(9,0)]⟩::⟨bz 13 1021,4,.alt [(1,1)]⟩::⟨bz 13 511,4,.alt [(9,0)]⟩::⟨bz 13 1023,3,.one 10 0⟩::⟨bz 13 2047,2,.one 11 0⟩::⟨bz 13 4095,1,.alt [(12,0)]⟩::⟨bz 13 8191,0,.fin⟩::[]
abbrev gr137b:List Gent:=⟨bz 26 0,26,.one 0 0⟩::⟨bz 26 1,25,.one 2 0⟩::⟨bz 26 5,24,.one 3 0⟩::⟨bz 26 13,23,.one 5 0⟩::⟨bz 26 45,22,.one 6 0⟩::⟨bz 26 109,21,.one 8 0⟩::⟨bz 26 365,20,.one 13 0⟩::⟨bz 26 8557,19,.one 15 0⟩::⟨bz 26 41325,18,.alt [(1,2),(4,0),(7,1),(14,3)]⟩::⟨bz 26 41341,17,.alt [(1,4),(7,7),(14,6)]⟩::⟨bz 26 41453,17,.one 9 7⟩::⟨bz 26 41327,17,.alt [(4,2),(7,3),(14,1)]⟩::⟨bz 26 57709,17,.one 16 6⟩::⟨bz 26 57711,16,.one 16 10⟩::⟨bz 26 41343,16,.alt [(7,6),(14,7)]⟩::⟨bz 26 41455,16,.one 9 7⟩::⟨bz 26 57725,16,.one 16 10⟩::⟨bz 26 41469,16,.one 9 7⟩::⟨bz 26 41965,16,.one 10 1⟩::⟨bz 26 123245,16,.one 17 6⟩::⟨bz 26 42989,15,.alt [(1,10),(4,7),(11,14),(14,12)]⟩::⟨bz 26 41471,15,.one 9 7⟩::⟨bz 26 57727,15,.one 16 7⟩::⟨bz 26 41967,15,.one 10 7⟩::⟨bz 26 123247,15,.one 17 7⟩::⟨bz 26 41981,15,.one 10 2⟩::⟨bz 26 254317,15,.alt [(1,5),(4,7),(7,9),(18,10)]⟩::⟨bz 26 123261,15,.one 17 6⟩::⟨bz 26 43005,14,.alt [(1,10),(11,16),(14,17)]⟩::⟨bz 26 41983,14,.one 10 9⟩::⟨bz 26 123263,14,.one 17 7⟩::⟨bz 26 42991,14,.alt [(4,7),(11,9),(14,10)]⟩::⟨bz 26 254319,14,.alt [(4,5),(7,10),(18,11)]⟩::⟨bz 26 59373,14,.one 16 17⟩::⟨bz 26 254333,14,.alt [(1,3),(7,5),(18,13)]⟩::⟨bz 26 45037,14,.alt [(1,5),(4,9),(12,13),(14,11)]⟩::⟨bz 26 254445,14,.one 9 13⟩::⟨bz 26 516461,14,.alt [(1,6),(4,10),(7,14)]⟩::⟨bz 26 254335,13,.alt [(7,17),(18,18)]⟩::⟨bz 26 43007,13,.alt [(11,14),(14,15)]⟩::⟨bz 26 254461,13,.one 9 25⟩::⟨bz 26 45039,13,.alt [(4,12),(12,16),(14,17)]⟩::⟨bz 26 59375,13,.one 16 17⟩::⟨bz 26 254447,13,.one 9 17⟩::⟨bz 26 516463,13,.alt [(4,12),(7,18)]⟩::⟨bz 26 45053,13,.alt [(1,8),(12,7),(14,18)]⟩::⟨bz 26 59389,13,.one 16 18⟩::⟨bz 26 61421,13,.one 16 19⟩::⟨bz 26 516477,13,.alt [(1,8),(7,13)]⟩::⟨bz 26 49133,13,.alt [(1,8),(4,3),(14,18)]⟩::⟨bz 26 254957,13,.one 10 18⟩::⟨bz 26 124909,13,.one 17 17⟩::⟨bz 26 516589,13,.one 9 17⟩::⟨bz 26 49149,12,.alt [(1,18),(14,21)]⟩::⟨bz 26 45055,12,.alt [(12,17),(14,18)]⟩::⟨bz 26 59391,12,.one 16 18⟩::⟨bz 26 254463,12,.one 9 14⟩::⟨bz 26 516479,12,.alt [(7,18)]⟩::⟨bz 26 49135,12,.alt [(4,13),(14,18)]⟩::⟨bz 26 61423,12,.one 16 18⟩::⟨bz 26 124911,12,.one 17 18⟩::⟨bz 26 254959,12,.one 10 17⟩::⟨bz 26 516605,12,.one 9 18⟩::⟨bz 26 516591,12,.one 9 16⟩::⟨bz 26 61437,12,.one 16 17⟩::⟨bz 26 124925,12,.one 17 17⟩::⟨bz 26 254973,12,.one 10 16⟩::⟨bz 26 126957,12,.one 17 16⟩::⟨bz 26 65517,12,.one 16 16⟩::⟨bz 26 255981,12,.alt [(1,9),(4,13),(11,14),(18,16)]⟩::⟨bz 26 517101,12,.one 10 15⟩::⟨bz 26 254975,11,.one 10 18⟩::⟨bz 26 49151,11,.alt [(14,15)]⟩::⟨bz 26 61439,11,.one 16 15⟩::⟨bz 26 124927,11,.one 17 15⟩::⟨bz 26 65533,11,.one 16 19⟩::⟨bz 26 516607,11,.one 9 14⟩::⟨bz 26 65519,11,.one 16 14⟩::⟨bz 26 126959,11,.one 17 15⟩::⟨bz 26 255983,11,.alt [(4,10),(11,14),(18,7)]⟩::⟨bz 26 517103,11,.one 10 6⟩::⟨bz 26 517117,11,.one 10 11⟩::⟨bz 26 126973,11,.one 17 13⟩::⟨bz 26 255997,11,.alt [(1,6),(11,12),(18,9)]⟩::⟨bz 26 258029,11,.alt [(1,9),(4,11),(12,12),(18,13)]⟩::⟨bz 26 131053,11,.one 17 11⟩::⟨bz 26 518125,11,.alt [(1,0),(4,6),(11,11)]⟩::⟨bz 26 518127,10,.alt [(4,14),(11,13)]⟩::⟨bz 26 65535,10,.one 16 11⟩::⟨bz 26 126975,10,.one 17 9⟩::⟨bz 26 255999,10,.alt [(11,8),(18,11)]⟩::⟨bz 26 517119,10,.one 10 10⟩::⟨bz 26 131055,10,.one 17 10⟩::⟨bz 26 518141,10,.alt [(1,8),(11,10)]⟩::⟨bz 26 258031,10,.alt [(4,4),(12,8),(18,6)]⟩::⟨bz 26 131069,10,.one 17 9⟩::⟨bz 26 258045,10,.alt [(1,2),(12,8),(18,7)]⟩::⟨bz 26 262125,10,.alt [(1,5),(4,7),(18,8)]⟩::⟨bz 26 520173,10,.alt [(1,2),(4,5),(12,7)]⟩::⟨bz 26 258047,9,.alt [(12,9),(18,7)]⟩::⟨bz 26 131071,9,.one 17 8⟩::⟨bz 26 520175,9,.alt [(4,5),(12,8)]⟩::⟨bz 26 518143,9,.alt [(11,4)]⟩::⟨bz 26 262127,9,.alt [(4,5),(18,6)]⟩::⟨bz 26 520189,9,.alt [(1,2),(12,6)]⟩::⟨bz 26 262141,9,.alt [(1,3),(18,5)]⟩::⟨bz 26 524269,9,.alt [(1,3),(4,4),(19,1)]⟩::⟨bz 26 520191,8,.alt [(12,5)]⟩::⟨bz 26 1048557,8,.alt [(1,3),(4,5)]⟩::⟨bz 26 262143,8,.alt [(18,3)]⟩::⟨bz 26 524271,8,.alt [(4,2),(19,1)]⟩::⟨bz 26 524285,8,.alt [(1,1),(19,2)]⟩::⟨bz 26 1048559,7,.one 20 2⟩::⟨bz 26 524287,7,.alt [(19,2)]⟩::⟨bz 26 1048573,7,.alt [(1,1)]⟩::⟨bz 26 2097135,6,.one 21 2⟩::⟨bz 26 1048575,6,.one 20 0⟩::⟨bz 26 2097151,5,.one 21 2⟩::⟨bz 26 4194287,5,.alt [(4,1),(22,0)]⟩::⟨bz 26 8388591,4,.alt [(4,1)]⟩::⟨bz 26 4194303,4,.alt [(22,0)]⟩::⟨bz 26 8388607,3,.one 23 0⟩::⟨bz 26 16777215,2,.one 24 0⟩::⟨bz 26 33554431,1,.alt [(25,0)]⟩::⟨bz 26 67108863,0,.fin⟩::[]
abbrev gr137c:List Gent:=⟨bz 15 0,15,.one 0 0⟩::⟨bz 15 1,14,.one 3 0⟩::⟨bz 15 9,13,.one 6 0⟩::⟨bz 15 73,12,.alt [(1,2),(4,0),(7,1)]⟩::⟨bz 15 89,11,.alt [(1,2),(7,5)]⟩::⟨bz 15 201,11,.alt [(1,3),(4,4)]⟩::⟨bz 15 75,11,.alt [(2,1),(4,0),(7,2)]⟩::⟨bz 15 91,10,.alt [(2,5),(7,4)]⟩::⟨bz 15 79,10,.alt [(4,4),(7,2)]⟩::⟨bz 15 203,10,.alt [(2,1),(4,2)]⟩::⟨bz 15 217,10,.alt [(1,1)]⟩::⟨bz 15 207,9,.alt [(4,2)]⟩::⟨bz 15 219,9,.alt [(2,1)]⟩::⟨bz 15 95,9,.alt [(5,1),(7,0)]⟩::⟨bz 15 223,8,.one 9 2⟩::⟨bz 15 127,8,.alt [(7,0)]⟩::⟨bz 15 255,7,.one 9 1⟩::⟨bz 15 735,7,.alt [(5,0)]⟩::⟨bz 15 767,6,.alt [(8,0)]⟩::⟨bz 15 1023,5,.alt [(10,0)]⟩::⟨bz 15 2047,4,.one 11 0⟩::⟨bz 15 4095,3,.alt [(12,0)]⟩::⟨bz 15 8191,2,.one 13 0⟩::⟨bz 15 16383,1,.alt [(14,0)]⟩::⟨bz 15 32767,0,.fin⟩::[]
abbrev gr137d:List Gent:=⟨bz 10 0,10,.one 0 0⟩::⟨bz 10 1,9,.one 3 0⟩::⟨bz 10 9,8,.alt [(1,1),(4,0)]⟩::⟨bz 10 25,7,.alt [(1,1)]⟩::⟨bz 10 11,7,.alt [(2,1),(4,0)]⟩::⟨bz 10 27,6,.alt [(2,1)]⟩::⟨bz 10 15,6,.alt [(4,0)]⟩::⟨bz 10 31,5,.one 6 0⟩::⟨bz 10 95,4,.alt [(5,0)]⟩::⟨bz 10 127,3,.alt [(7,0)]⟩::⟨bz 10 255,2,.one 8 0⟩::⟨bz 10 511,1,.alt [(9,0)]⟩::⟨bz 10 1023,0,.fin⟩::[]
structure CX where
 (sO sP sF sU sD sC sS sQ sA sK sM:Option (Nat×Nat))
def CX.ok (x:CX) (r:Rgs):Prop:=okB r.ofs.length x.sO/\okB r.pls.length x.sP/\okB r.fls.length x.sF/\okB r.rls.length x.sU/\okB r.hls.length x.sD/\okB r.cks.length x.sC/\okB r.sls.length x.sS/\okB r.pps.length x.sQ/\okB r.aps.length x.sA/\okB r.crs.length x.sK/\okB r.dps.length x.sM
abbrev CX.st (x:CX) (r:Rgs):St:=⟨180,[(2,.p 2 0)],(2,Blk.var [sOpt r.ofs.length x.sO,sOpt r.pls.length x.sP,sOpt r.fls.length x.sF,sOpt r.rls.length x.sU,sOpt r.hls.length x.sD,sOpt r.cks.length x.sC,sOpt r.sls.length x.sS,sOpt r.pps.length x.sQ,sOpt r.aps.length x.sA,sOpt r.crs.length x.sK,sOpt r.dps.length x.sM,vi r.chg])::((rowB 173 (r.aps.map Apv.cs).flatten 51 3 x.sA)++((rowB 176 (r.dps.map Dep.cs).flatten 105 2 x.sM)++((rowB 92 (r.rls.map Rul.cs).flatten 120 8 x.sU)++((rowB 95 (r.hls.map Hld.cs).flatten 122 7 x.sD)++((rowB 98 (r.cks.map Clk.cs).flatten 56 5 x.sC)++((rowB 11 (r.ofs.map Ofc.cs).flatten 112 5 x.sO)++((rowB 14 (r.pls.map Plan.cs).flatten 118 5 x.sP)++((rowB 17 (r.fls.map Fil.cs).flatten 86 8 x.sF)++((rowB 104 (r.sls.map Sel.cs).flatten 134 3 x.sS)++((rowB 107 (r.pps.map Prp.cs).flatten 42 5 x.sQ)++(rowB 110 (r.crs.map Crt.cs).flatten 60 6 x.sK))))))))))),[]⟩
set_option maxHeartbeats 64000000 in
theorem denU_cloneD (r : Rgs) (h : r.Fit) (Post : Option Blk -> V -> Prop) (hP : ∀ x : CX,x.ok r -> ∀ (M : Nat -> Prop) (F0 : Frz) (w0 : World) (F : Frz) (ρ : Nat -> Nat) (a : Act) (w : World),SimS Tryz.prog T M F0 w0 F ρ (x.st r) a w ->
      ∃F' ρ' hs,SimS Tryz.prog T M F0 w0 F' ρ' ⟨180,[(2,.p 2 0)],hs,[]⟩ a w/\∃f:Nat->V,Ab.look 2 hs=some (.var [f 0,f 1,f 2,f 3,f 4,f 5,f 6,f 7,f 8,f 9,f 10,vi r.chg])/\
        (Post none (.agg [f 0,f 1,f 2,f 3,f 4,f 5,f 6,f 7,f 8,f 9,f 10,vi r.chg])\/∃id k b,Ab.look id hs=some k/\k.nm=some b/\Post (some k) (.agg [f 0,f 1,f 2,f 3,f 4,f 5,f 6,f 7,f 8,f 9,f 10,vi r.chg]))):
    DenU Tryz.prog T 113 [.agg r.cs] Post:=by
  refine jat follows (fun args w=>Tryz.call113 args w) Tryz.func113 rfl 180 rfl ?_;refine jie (aw_endX .rt (fun x:CX=>x.ok r) (fun x=>x.st r) ?_) ?_
  · intro E hE;refine runD trivial ?_;apply jei (st':=⟨180,[(1,.p 1 0),(2,.p 2 0)],[(1,.var r.cs),(2,.var zc12)],[]⟩) ⟨[1,2],[1,2],[],[]⟩ rfl;refine jlr .nm (fun (⟨sO,sP,sF⟩:Option (Nat×Nat)×Option (Nat×Nat)×Option (Nat×Nat))=>okB r.ofs.length sO/\okB r.pls.length sP/\okB r.fls.length sF) (fun (⟨sO,sP,sF⟩:Option (Nat×Nat)×Option (Nat×Nat)×Option (Nat×Nat))=>⟨180,[(1,.p 1 0),(2,.p 2 0)],(1,Blk.var [sOpt r.ofs.length sO,sOpt r.pls.length sP,sOpt r.fls.length sF,ruls r.rls,hlds r.hls,clks r.cks,sels r.sls,prps r.pps,apvs r.aps,crts r.crs,deps r.dps,vi r.chg])::(2,.var zc12)::((rowB 11 (r.ofs.map Ofc.cs).flatten 112 5 sO)++((rowB 14 (r.pls.map Plan.cs).flatten 118 5 sP)++(rowB 17 (r.fls.map Fil.cs).flatten 86 8 sF))),[]⟩) ?_ ?_
    · intro E hE;refine jb0 gr137c ?_;refine ja9 jb1 ?_
      try simp only[and_self_right,jbc,and_assoc]
      apply viaA
      · have hX:=fun (st:St) (K:St->Prop) (k:V->Option TypeId->Prop) (kn:Nat->List (List V)->Prop) (hn:Ab.look 11 st.h=none) (hq:11<st.n) hk=>jsn (T:=T) (st:=st) (d:=some 11) (K:=K) (k:=k) (kn:=kn) 11 r.ofs.length (List.length_map _) (denU_cloneOfc r.ofs (h.ofs.1)) hq hn hk
        repeat' (first | with_reducible apply And.imp | (intro hk; exact hX _ _ _ _ (by simp[ja3,jaf]) (by show (11:Nat)<180; decide) hk))
      try simp only[jig]
      intro sO hO;refine ja9 jb1 ?_
      try simp only[and_self_right]
      apply viaA
      · have hX:=fun (st:St) (K:St->Prop) (k:V->Option TypeId->Prop) (kn:Nat->List (List V)->Prop) (hn:Ab.look 14 st.h=none) (hq:14<st.n) hk=>jsn (T:=T) (st:=st) (d:=some 14) (K:=K) (k:=k) (kn:=kn) 14 r.pls.length (List.length_map _) (denU_clonePln r.pls (h.pls.1)) hq hn hk
        repeat' (first | with_reducible apply And.imp | (intro hk; exact hX _ _ _ _ (by simp[ja3,jcr,jaf]) (by show (14:Nat)<180; decide) hk))
      try simp only[jig]
      intro sP hP;refine ja9 jb1 ?_
      try simp only[and_self,and_self_left,and_self_right,jbc,jbp,and_assoc]
      apply viaA
      · have hX:=fun (st:St) (K:St->Prop) (k:V->Option TypeId->Prop) (kn:Nat->List (List V)->Prop) (hn:Ab.look 17 st.h=none) (hq:17<st.n) hk=>jsn (T:=T) (st:=st) (d:=some 17) (K:=K) (k:=k) (kn:=kn) 17 r.fls.length (List.length_map _) (denU_cloneFil r.fls (h.fls.1)) hq hn hk
        repeat' (first | with_reducible apply And.imp | (intro hk; exact hX _ _ _ _ (by simp[ja3,jcr,jaf]) (by show (17:Nat)<180; decide) hk))
      try simp only
      intro sF hF;refine ja9 jb1 ?_
      try simp only[and_self,and_self_left,and_self_right,jbc,jbp]
      repeat' (with_reducible refine ai ?_ ?_)
      all_goals refine hE ⟨sO,sP,sF⟩ _ ⟨hO,hP,hF⟩ ?_
      all_goals exact jbb [1,2] [1,2] rfl rfl rfl (fun i k e=>jkr (ja2 _) (ja2 _) (ja2 _) i k e) rfl
    rintro ⟨sO,sP,sF⟩ ⟨hO,hP,hF⟩
    show aw _ _ _ ⟨180,[(1,.p 1 0),(2,.p 2 0)],(1,Blk.var [sOpt r.ofs.length sO,sOpt r.pls.length sP,sOpt r.fls.length sF,ruls r.rls,hlds r.hls,clks r.cks,sels r.sls,prps r.pps,apvs r.aps,crts r.crs,deps r.dps,vi r.chg])::(2,.var zc12)::((rowB 11 (r.ofs.map Ofc.cs).flatten 112 5 sO)++((rowB 14 (r.pls.map Plan.cs).flatten 118 5 sP)++(rowB 17 (r.fls.map Fil.cs).flatten 86 8 sF))),[]⟩ _
    refine jhn ?_
    show aw _ _ _ (St.mk 180 [(1,TV.p 1 0),(2,TV.p 2 0)] (((1,Blk.var [sOpt r.ofs.length sO,sOpt r.pls.length sP,sOpt r.fls.length sF,ruls r.rls,hlds r.hls,clks r.cks,sels r.sls,prps r.pps,apvs r.aps,crts r.crs,deps r.dps,vi r.chg])::(2,Blk.var zc12)::rowB 11 (r.ofs.map Ofc.cs).flatten 112 5 sO)++((rowB 14 (r.pls.map Plan.cs).flatten 118 5 sP)++(rowB 17 (r.fls.map Fil.cs).flatten 86 8 sF))) []) _
    refine jno .nm (fun _:Unit=>True) (fun _=>⟨180,[(1,TV.p 1 0),(2,TV.p 2 0)],((1,Blk.var [sOpt r.ofs.length sO,sOpt r.pls.length sP,sOpt r.fls.length sF,ruls r.rls,hlds r.hls,clks r.cks,sels r.sls,prps r.pps,apvs r.aps,crts r.crs,deps r.dps,vi r.chg])::(2,Blk.var zc12)::rowB 11 (r.ofs.map Ofc.cs).flatten 112 5 sO),[]⟩) (ja7 (ja2 (q:=14) _) (ja2 (q:=17) _)) ?_ ?_ (fun _=>by cases sO <;> rfl) (by cases sO <;> rfl)
    · intro E hE;rcases sO with _ | ⟨b,c⟩
      · show aw _ _ _ (St.mk 180 [(1,TV.p 1 0),(2,TV.p 2 0)] [(1,Blk.var [.val (.slice none 0 0),sOpt r.pls.length sP,sOpt r.fls.length sF,ruls r.rls,hlds r.hls,clks r.cks,sels r.sls,prps r.pps,apvs r.aps,crts r.crs,deps r.dps,vi r.chg]),(2,Blk.var zc12)] []) _
        refine runD jb1 ?_;refine loop ⟨[24,1,2,23],[1,2],[],[]⟩ (fun k:Nat=>k=0) (fun k=>k) (fun k=>⟨180,[(24,.v (vi k)),(1,.p 1 0),(2,.p 2 0),(23,.v (vi (0:Nat)))],[(1,Blk.var [.val (.slice none 0 0),sOpt r.pls.length sP,sOpt r.fls.length sF,ruls r.rls,hlds r.hls,clks r.cks,sels r.sls,prps r.pps,apvs r.aps,crts r.crs,deps r.dps,vi r.chg]),(2,Blk.var zc12)],[]⟩) 0 rfl ?_;intro k hk;subst hk;refine run ?_;refine hE () _ trivial ?_;exact jbb [1,2] [1,2] rfl rfl rfl (fun _ _ e=>e) rfl
      · obtain ⟨hc1,hc2⟩:r.ofs.length<=c/\c<=maxLen:=hO;have hw:=jbr (cs:=Ofc.cs) (z:=5) (fun _=>rfl) r.ofs;have hbig:r.ofs.length<=1048576:=h.ofs.1
        show aw _ _ _ (St.mk 180 [(1,TV.p 1 0),(2,TV.p 2 0)] [(1,Blk.var [.val (.slice (some ⟨b,0,none⟩) r.ofs.length c),sOpt r.pls.length sP,sOpt r.fls.length sF,ruls r.rls,hlds r.hls,clks r.cks,sels r.sls,prps r.pps,apvs r.aps,crts r.crs,deps r.dps,vi r.chg]),(2,Blk.var zc12),(11,Blk.var (r.ofs.map Ofc.cs).flatten (some b) (some (112,5,c)))] []) _
        refine runD jb1 ?_;refine loop ⟨[24,1,2,23],[1,2,11],[],[]⟩ (fun k:Nat=>k<=r.ofs.length) (fun k=>r.ofs.length-k) (fun k=>⟨180,[(24,.v (vi k)),(1,.p 1 0),(2,.p 2 0),(23,.v (vi r.ofs.length))],[(1,Blk.var [.val (.slice (some ⟨b,0,none⟩) r.ofs.length c),sOpt r.pls.length sP,sOpt r.fls.length sF,ruls r.rls,hlds r.hls,clks r.cks,sels r.sls,prps r.pps,apvs r.aps,crts r.crs,deps r.dps,vi r.chg]),(2,Blk.var zc12),(11,Blk.var (r.ofs.map Ofc.cs).flatten (some b) (some (112,5,c)))],[]⟩) 0 (Nat.zero_le _) ?_;intro k hk;by_cases hlt:k<r.ofs.length
        · obtain ⟨o,hx,-,hm⟩:=ja8 hlt;have g4:=jj7 (cs:=Ofc.cs) (z:=5) (fun _=>rfl) hx (off:=4) rfl;have s4:=jhv (cs:=Ofc.cs) (z:=5) (fun _=>rfl) hx (off:=4) rfl;obtain ⟨W,hW⟩:∃W,(r.ofs.map Ofc.cs).flatten=W:=⟨_,rfl⟩;simp only[hW] at hw g4 s4 ⊢;refine runD (ai (ai g4 s4) (ai jda jb1)) ?_;refine jlr .nm (fun _:Unit=>True) (fun _=>⟨180,[(24,.v (vi k)),(1,.p 1 0),(2,.p 2 0),(23,.v (vi r.ofs.length))],[(1,Blk.var [.val (.slice (some ⟨b,0,none⟩) r.ofs.length c),sOpt r.pls.length sP,sOpt r.fls.length sF,ruls r.rls,hlds r.hls,clks r.cks,sels r.sls,prps r.pps,apvs r.aps,crts r.crs,deps r.dps,vi r.chg]),(2,Blk.var zc12),(11,Blk.var W (some b) (some (112,5,c)))],[]⟩) ?_ ?_
          · intro E1 hE1;refine jb0 gr137a ?_;refine ja9 (ai (ai g4 s4) (ai jda jb1)) ?_
            try simp only[and_self_left]
            apply viaA
            · have hX:=fun k kn m h0=>call (T:=T) (k:=k) (kn:=kn) (m:=m) (jf6 o.nxt (h.ofs.2 o hm).2).den h0
              repeat' (first | with_reducible apply And.imp | exact hX _ _ _)
            refine ja9 (ai (ai g4 s4) (ai jda jb1)) ?_
            try simp only[and_self,and_self_left,and_self_right,jbc,jbp]
            repeat' (with_reducible refine ai ?_ ?_)
            all_goals refine hE1 () _ trivial ?_
            all_goals exact jbb [1,2,11] [24,1,2,23] rfl rfl rfl (fun _ _ e=>e) rfl
          intro _ _
          show aw _ _ _ ⟨180,[(24,.v (vi k)),(1,.p 1 0),(2,.p 2 0),(23,.v (vi r.ofs.length))],[(1,Blk.var [.val (.slice (some ⟨b,0,none⟩) r.ofs.length c),sOpt r.pls.length sP,sOpt r.fls.length sF,ruls r.rls,hlds r.hls,clks r.cks,sels r.sls,prps r.pps,apvs r.aps,crts r.crs,deps r.dps,vi r.chg]),(2,Blk.var zc12),(11,Blk.var W (some b) (some (112,5,c)))],[]⟩ _
          refine run ?_;exact round (k+1) hlt (by omega)
        · have hk2:k=r.ofs.length:=by omega
          subst hk2;refine run ?_;refine hE () _ trivial ?_;exact jbb [1,2] [1,2] rfl rfl rfl (fun _ _ e=>e) rfl
    intro _ _
    show aw _ _ _ (St.mk 180 _ ([(1,Blk.var [sOpt r.ofs.length sO,sOpt r.pls.length sP,sOpt r.fls.length sF,ruls r.rls,hlds r.hls,clks r.cks,sels r.sls,prps r.pps,apvs r.aps,crts r.crs,deps r.dps,vi r.chg]),(2,Blk.var zc12)]++((rowB 11 (r.ofs.map Ofc.cs).flatten 112 5 sO)++((rowB 14 (r.pls.map Plan.cs).flatten 118 5 sP)++(rowB 17 (r.fls.map Fil.cs).flatten 86 8 sF)))) []) _
    refine aw_rot (h1:=[(1,Blk.var [sOpt r.ofs.length sO,sOpt r.pls.length sP,sOpt r.fls.length sF,ruls r.rls,hlds r.hls,clks r.cks,sels r.sls,prps r.pps,apvs r.aps,crts r.crs,deps r.dps,vi r.chg]),(2,Blk.var zc12)]) (ja2 _) (ja7 (ja2 (q:=14) _) (ja2 (q:=17) _)) ?_;refine jnn (h':=(1,Blk.var [sOpt r.ofs.length sO,sOpt r.pls.length sP,sOpt r.fls.length sF,ruls r.rls,hlds r.hls,clks r.cks,sels r.sls,prps r.pps,apvs r.aps,crts r.crs,deps r.dps,vi r.chg])::(2,.var zc12)::((rowB 14 (r.pls.map Plan.cs).flatten 118 5 sP)++((rowB 17 (r.fls.map Fil.cs).flatten 86 8 sF)++(rowB 11 (r.ofs.map Ofc.cs).flatten 112 5 sO)))) (by simp only[List.append_assoc,List.cons_append,List.nil_append]) ?_;refine jhn ?_
    show aw _ _ _ (St.mk 180 [(1,TV.p 1 0),(2,TV.p 2 0)] (((1,Blk.var [sOpt r.ofs.length sO,sOpt r.pls.length sP,sOpt r.fls.length sF,ruls r.rls,hlds r.hls,clks r.cks,sels r.sls,prps r.pps,apvs r.aps,crts r.crs,deps r.dps,vi r.chg])::(2,Blk.var zc12)::rowB 14 (r.pls.map Plan.cs).flatten 118 5 sP)++((rowB 17 (r.fls.map Fil.cs).flatten 86 8 sF)++(rowB 11 (r.ofs.map Ofc.cs).flatten 112 5 sO))) []) _
    refine jno .nm (fun _:Unit=>True) (fun _=>⟨180,[(1,TV.p 1 0),(2,TV.p 2 0)],((1,Blk.var [sOpt r.ofs.length sO,sOpt r.pls.length sP,sOpt r.fls.length sF,ruls r.rls,hlds r.hls,clks r.cks,sels r.sls,prps r.pps,apvs r.aps,crts r.crs,deps r.dps,vi r.chg])::(2,Blk.var zc12)::rowB 14 (r.pls.map Plan.cs).flatten 118 5 sP),[]⟩) (ja7 (ja2 (q:=17) _) (ja2 (q:=11) _)) ?_ ?_ (fun _=>by cases sP <;> rfl) (by cases sP <;> rfl)
    · intro E hE;rcases sP with _ | ⟨b,c⟩
      · show aw _ _ _ (St.mk 180 [(1,TV.p 1 0),(2,TV.p 2 0)] [(1,Blk.var [sOpt r.ofs.length sO,.val (.slice none 0 0),sOpt r.fls.length sF,ruls r.rls,hlds r.hls,clks r.cks,sels r.sls,prps r.pps,apvs r.aps,crts r.crs,deps r.dps,vi r.chg]),(2,Blk.var zc12)] []) _
        refine runD jb1 ?_;refine loop ⟨[43,1,2,42],[1,2],[],[]⟩ (fun k:Nat=>k=0) (fun k=>k) (fun k=>⟨180,[(43,.v (vi k)),(1,.p 1 0),(2,.p 2 0),(42,.v (vi (0:Nat)))],[(1,Blk.var [sOpt r.ofs.length sO,.val (.slice none 0 0),sOpt r.fls.length sF,ruls r.rls,hlds r.hls,clks r.cks,sels r.sls,prps r.pps,apvs r.aps,crts r.crs,deps r.dps,vi r.chg]),(2,Blk.var zc12)],[]⟩) 0 rfl ?_;intro k hk;subst hk;refine run ?_;refine hE () _ trivial ?_;exact jbb [1,2] [1,2] rfl rfl rfl (fun _ _ e=>e) rfl
      · obtain ⟨hc1,hc2⟩:r.pls.length<=c/\c<=maxLen:=hP;have hw:=jbr (cs:=Plan.cs) (z:=5) (fun _=>rfl) r.pls;have hbig:r.pls.length<=1048576:=h.pls.1
        show aw _ _ _ (St.mk 180 [(1,TV.p 1 0),(2,TV.p 2 0)] [(1,Blk.var [sOpt r.ofs.length sO,.val (.slice (some ⟨b,0,none⟩) r.pls.length c),sOpt r.fls.length sF,ruls r.rls,hlds r.hls,clks r.cks,sels r.sls,prps r.pps,apvs r.aps,crts r.crs,deps r.dps,vi r.chg]),(2,Blk.var zc12),(14,Blk.var (r.pls.map Plan.cs).flatten (some b) (some (118,5,c)))] []) _
        refine runD jb1 ?_;refine loop ⟨[43,1,2,42],[1,2,14],[],[]⟩ (fun k:Nat=>k<=r.pls.length) (fun k=>r.pls.length-k) (fun k=>⟨180,[(43,.v (vi k)),(1,.p 1 0),(2,.p 2 0),(42,.v (vi r.pls.length))],[(1,Blk.var [sOpt r.ofs.length sO,.val (.slice (some ⟨b,0,none⟩) r.pls.length c),sOpt r.fls.length sF,ruls r.rls,hlds r.hls,clks r.cks,sels r.sls,prps r.pps,apvs r.aps,crts r.crs,deps r.dps,vi r.chg]),(2,Blk.var zc12),(14,Blk.var (r.pls.map Plan.cs).flatten (some b) (some (118,5,c)))],[]⟩) 0 (Nat.zero_le _) ?_;intro k hk;by_cases hlt:k<r.pls.length
        · obtain ⟨p,hx,-,hm⟩:=ja8 hlt;have g3:=jj7 (cs:=Plan.cs) (z:=5) (fun _=>rfl) hx (off:=3) rfl;have s3:=jhv (cs:=Plan.cs) (z:=5) (fun _=>rfl) hx (off:=3) rfl;have g4:=jj7 (cs:=Plan.cs) (z:=5) (fun _=>rfl) hx (off:=4) rfl;have s4:=jhv (cs:=Plan.cs) (z:=5) (fun _=>rfl) hx (off:=4) rfl;have q3:=s3;rw[show k*5+3+1=k*5+4 from rfl,g4] at q3;obtain ⟨W,hW⟩:∃W,(r.pls.map Plan.cs).flatten=W:=⟨_,rfl⟩;simp only[hW] at hw g3 s3 g4 s4 q3 ⊢;refine runD (ai (ai g3 (ai s3 (ai g4 (ai s4 q3)))) (ai jda jb1)) ?_;refine jlr .nm (fun _:Unit=>True) (fun _=>⟨180,[(43,.v (vi k)),(1,.p 1 0),(2,.p 2 0),(42,.v (vi r.pls.length))],[(1,Blk.var [sOpt r.ofs.length sO,.val (.slice (some ⟨b,0,none⟩) r.pls.length c),sOpt r.fls.length sF,ruls r.rls,hlds r.hls,clks r.cks,sels r.sls,prps r.pps,apvs r.aps,crts r.crs,deps r.dps,vi r.chg]),(2,Blk.var zc12),(14,Blk.var W (some b) (some (118,5,c)))],[]⟩) ?_ ?_
          · intro E1 hE1;refine jb0 gr137b ?_;refine ja9 (ai (ai g3 (ai s3 (ai g4 (ai s4 q3)))) (ai jda jb1)) ?_
            try simp only[and_self_left,and_self_right,jbc,jbp,and_assoc]
            apply viaA
            · have hX:=fun k kn m h0=>call (T:=T) (k:=k) (kn:=kn) (m:=m) (den_copyCls p.cls (h.pls.2 p hm).1).den h0
              repeat' (first | with_reducible apply And.imp | exact hX _ _ _)
            refine ja9 (ai (ai g3 (ai s3 (ai g4 (ai s4 q3)))) (ai jda jb1)) ?_
            try simp only[and_self,and_self_left,jbp,and_assoc]
            apply viaA
            · have hX:=fun k kn m h0=>call (T:=T) (k:=k) (kn:=kn) (m:=m) (den_copyMov p.mov (h.pls.2 p hm).2.1).den h0
              repeat' (first | with_reducible apply And.imp | exact hX _ _ _)
            refine ja9 (ai (ai g3 (ai s3 (ai g4 (ai s4 q3)))) (ai jda jb1)) ?_
            try simp only[and_self,and_self_left,and_self_right,jbc,jbp]
            repeat' (with_reducible refine ai ?_ ?_)
            all_goals refine hE1 () _ trivial ?_
            all_goals exact jbb [1,2,14] [43,1,2,42] rfl rfl rfl (fun _ _ e=>e) rfl
          intro _ _
          show aw _ _ _ ⟨180,[(43,.v (vi k)),(1,.p 1 0),(2,.p 2 0),(42,.v (vi r.pls.length))],[(1,Blk.var [sOpt r.ofs.length sO,.val (.slice (some ⟨b,0,none⟩) r.pls.length c),sOpt r.fls.length sF,ruls r.rls,hlds r.hls,clks r.cks,sels r.sls,prps r.pps,apvs r.aps,crts r.crs,deps r.dps,vi r.chg]),(2,Blk.var zc12),(14,Blk.var W (some b) (some (118,5,c)))],[]⟩ _
          refine run ?_;exact round (k+1) hlt (by omega)
        · have hk2:k=r.pls.length:=by omega
          subst hk2;refine run ?_;refine hE () _ trivial ?_;exact jbb [1,2] [1,2] rfl rfl rfl (fun _ _ e=>e) rfl
    intro _ _
    show aw _ _ _ (St.mk 180 _ ([(1,Blk.var [sOpt r.ofs.length sO,sOpt r.pls.length sP,sOpt r.fls.length sF,ruls r.rls,hlds r.hls,clks r.cks,sels r.sls,prps r.pps,apvs r.aps,crts r.crs,deps r.dps,vi r.chg]),(2,Blk.var zc12)]++((rowB 14 (r.pls.map Plan.cs).flatten 118 5 sP)++((rowB 17 (r.fls.map Fil.cs).flatten 86 8 sF)++(rowB 11 (r.ofs.map Ofc.cs).flatten 112 5 sO)))) []) _
    refine aw_rot (h1:=[(1,Blk.var [sOpt r.ofs.length sO,sOpt r.pls.length sP,sOpt r.fls.length sF,ruls r.rls,hlds r.hls,clks r.cks,sels r.sls,prps r.pps,apvs r.aps,crts r.crs,deps r.dps,vi r.chg]),(2,Blk.var zc12)]) (ja2 _) (ja7 (ja2 (q:=17) _) (ja2 (q:=11) _)) ?_;refine jnn (h':=(1,Blk.var [sOpt r.ofs.length sO,sOpt r.pls.length sP,sOpt r.fls.length sF,ruls r.rls,hlds r.hls,clks r.cks,sels r.sls,prps r.pps,apvs r.aps,crts r.crs,deps r.dps,vi r.chg])::(2,.var zc12)::((rowB 17 (r.fls.map Fil.cs).flatten 86 8 sF)++((rowB 11 (r.ofs.map Ofc.cs).flatten 112 5 sO)++(rowB 14 (r.pls.map Plan.cs).flatten 118 5 sP)))) (by simp only[List.append_assoc,List.cons_append,List.nil_append]) ?_;refine jhn ?_
    show aw _ _ _ (St.mk 180 [(1,TV.p 1 0),(2,TV.p 2 0)] (((1,Blk.var [sOpt r.ofs.length sO,sOpt r.pls.length sP,sOpt r.fls.length sF,ruls r.rls,hlds r.hls,clks r.cks,sels r.sls,prps r.pps,apvs r.aps,crts r.crs,deps r.dps,vi r.chg])::(2,Blk.var zc12)::rowB 17 (r.fls.map Fil.cs).flatten 86 8 sF)++((rowB 11 (r.ofs.map Ofc.cs).flatten 112 5 sO)++(rowB 14 (r.pls.map Plan.cs).flatten 118 5 sP))) []) _
    refine jno .nm (fun _:Unit=>True) (fun _=>⟨180,[(1,TV.p 1 0),(2,TV.p 2 0)],((1,Blk.var [sOpt r.ofs.length sO,sOpt r.pls.length sP,sOpt r.fls.length sF,ruls r.rls,hlds r.hls,clks r.cks,sels r.sls,prps r.pps,apvs r.aps,crts r.crs,deps r.dps,vi r.chg])::(2,Blk.var zc12)::rowB 17 (r.fls.map Fil.cs).flatten 86 8 sF),[]⟩) (ja7 (ja2 (q:=11) _) (ja2 (q:=14) _)) ?_ ?_ (fun _=>by cases sF <;> rfl) (by cases sF <;> rfl)
    · intro E hE;rcases sF with _ | ⟨b,c⟩
      · show aw _ _ _ (St.mk 180 [(1,TV.p 1 0),(2,TV.p 2 0)] [(1,Blk.var [sOpt r.ofs.length sO,sOpt r.pls.length sP,.val (.slice none 0 0),ruls r.rls,hlds r.hls,clks r.cks,sels r.sls,prps r.pps,apvs r.aps,crts r.crs,deps r.dps,vi r.chg]),(2,Blk.var zc12)] []) _
        refine runD jb1 ?_;refine loop ⟨[74,1,2,73],[1,2],[],[]⟩ (fun k:Nat=>k=0) (fun k=>k) (fun k=>⟨180,[(74,.v (vi k)),(1,.p 1 0),(2,.p 2 0),(73,.v (vi (0:Nat)))],[(1,Blk.var [sOpt r.ofs.length sO,sOpt r.pls.length sP,.val (.slice none 0 0),ruls r.rls,hlds r.hls,clks r.cks,sels r.sls,prps r.pps,apvs r.aps,crts r.crs,deps r.dps,vi r.chg]),(2,Blk.var zc12)],[]⟩) 0 rfl ?_;intro k hk;subst hk;refine run ?_;refine hE () _ trivial ?_;exact jbb [1,2] [1,2] rfl rfl rfl (fun _ _ e=>e) rfl
      · obtain ⟨hc1,hc2⟩:r.fls.length<=c/\c<=maxLen:=hF;have hw:=jbr (cs:=Fil.cs) (z:=8) (fun _=>rfl) r.fls;have hbig:r.fls.length<=1048576:=h.fls.1
        show aw _ _ _ (St.mk 180 [(1,TV.p 1 0),(2,TV.p 2 0)] [(1,Blk.var [sOpt r.ofs.length sO,sOpt r.pls.length sP,.val (.slice (some ⟨b,0,none⟩) r.fls.length c),ruls r.rls,hlds r.hls,clks r.cks,sels r.sls,prps r.pps,apvs r.aps,crts r.crs,deps r.dps,vi r.chg]),(2,Blk.var zc12),(17,Blk.var (r.fls.map Fil.cs).flatten (some b) (some (86,8,c)))] []) _
        refine runD jb1 ?_;refine loop ⟨[74,1,2,73],[1,2,17],[],[]⟩ (fun k:Nat=>k<=r.fls.length) (fun k=>r.fls.length-k) (fun k=>⟨180,[(74,.v (vi k)),(1,.p 1 0),(2,.p 2 0),(73,.v (vi r.fls.length))],[(1,Blk.var [sOpt r.ofs.length sO,sOpt r.pls.length sP,.val (.slice (some ⟨b,0,none⟩) r.fls.length c),ruls r.rls,hlds r.hls,clks r.cks,sels r.sls,prps r.pps,apvs r.aps,crts r.crs,deps r.dps,vi r.chg]),(2,Blk.var zc12),(17,Blk.var (r.fls.map Fil.cs).flatten (some b) (some (86,8,c)))],[]⟩) 0 (Nat.zero_le _) ?_;intro k hk;by_cases hlt:k<r.fls.length
        · obtain ⟨f,hx,-,hm⟩:=ja8 hlt;have g7:=jj7 (cs:=Fil.cs) (z:=8) (fun _=>rfl) hx (off:=7) rfl;have s7:=jhv (cs:=Fil.cs) (z:=8) (fun _=>rfl) hx (off:=7) rfl;obtain ⟨W,hW⟩:∃W,(r.fls.map Fil.cs).flatten=W:=⟨_,rfl⟩;simp only[hW] at hw g7 s7 ⊢;refine runD (ai (ai g7 s7) (ai jda jb1)) ?_;refine jlr .nm (fun _:Unit=>True) (fun _=>⟨180,[(74,.v (vi k)),(1,.p 1 0),(2,.p 2 0),(73,.v (vi r.fls.length))],[(1,Blk.var [sOpt r.ofs.length sO,sOpt r.pls.length sP,.val (.slice (some ⟨b,0,none⟩) r.fls.length c),ruls r.rls,hlds r.hls,clks r.cks,sels r.sls,prps r.pps,apvs r.aps,crts r.crs,deps r.dps,vi r.chg]),(2,Blk.var zc12),(17,Blk.var W (some b) (some (86,8,c)))],[]⟩) ?_ ?_
          · intro E1 hE1;refine jb0 gr137a ?_;refine ja9 (ai (ai g7 s7) (ai jda jb1)) ?_
            try simp only[and_self_left]
            apply viaA
            · have hX:=fun k kn m h0=>call (T:=T) (k:=k) (kn:=kn) (m:=m) (jnd f.nts (h.fls.2 f hm).2.2.1).den h0
              repeat' (first | with_reducible apply And.imp | exact hX _ _ _)
            refine ja9 (ai (ai g7 s7) (ai jda jb1)) ?_
            try simp only[and_self,and_self_left,and_self_right,jbc,jbp]
            repeat' (with_reducible refine ai ?_ ?_)
            all_goals refine hE1 () _ trivial ?_
            all_goals exact jbb [1,2,17] [74,1,2,73] rfl rfl rfl (fun _ _ e=>e) rfl
          intro _ _
          show aw _ _ _ ⟨180,[(74,.v (vi k)),(1,.p 1 0),(2,.p 2 0),(73,.v (vi r.fls.length))],[(1,Blk.var [sOpt r.ofs.length sO,sOpt r.pls.length sP,.val (.slice (some ⟨b,0,none⟩) r.fls.length c),ruls r.rls,hlds r.hls,clks r.cks,sels r.sls,prps r.pps,apvs r.aps,crts r.crs,deps r.dps,vi r.chg]),(2,Blk.var zc12),(17,Blk.var W (some b) (some (86,8,c)))],[]⟩ _
          refine run ?_;exact round (k+1) hlt (by omega)
        · have hk2:k=r.fls.length:=by omega
          subst hk2;refine run ?_;refine hE () _ trivial ?_;exact jbb [1,2] [1,2] rfl rfl rfl (fun _ _ e=>e) rfl
    intro _ _
    show aw _ _ _ (St.mk 180 _ ([(1,Blk.var [sOpt r.ofs.length sO,sOpt r.pls.length sP,sOpt r.fls.length sF,ruls r.rls,hlds r.hls,clks r.cks,sels r.sls,prps r.pps,apvs r.aps,crts r.crs,deps r.dps,vi r.chg]),(2,Blk.var zc12)]++((rowB 17 (r.fls.map Fil.cs).flatten 86 8 sF)++((rowB 11 (r.ofs.map Ofc.cs).flatten 112 5 sO)++(rowB 14 (r.pls.map Plan.cs).flatten 118 5 sP)))) []) _
    refine aw_rot (h1:=[(1,Blk.var [sOpt r.ofs.length sO,sOpt r.pls.length sP,sOpt r.fls.length sF,ruls r.rls,hlds r.hls,clks r.cks,sels r.sls,prps r.pps,apvs r.aps,crts r.crs,deps r.dps,vi r.chg]),(2,Blk.var zc12)]) (ja2 _) (ja7 (ja2 (q:=11) _) (ja2 (q:=14) _)) ?_;refine jnn (h':=(1,Blk.var [sOpt r.ofs.length sO,sOpt r.pls.length sP,sOpt r.fls.length sF,ruls r.rls,hlds r.hls,clks r.cks,sels r.sls,prps r.pps,apvs r.aps,crts r.crs,deps r.dps,vi r.chg])::(2,.var zc12)::((rowB 11 (r.ofs.map Ofc.cs).flatten 112 5 sO)++((rowB 14 (r.pls.map Plan.cs).flatten 118 5 sP)++(rowB 17 (r.fls.map Fil.cs).flatten 86 8 sF)))) (by simp only[List.append_assoc,List.cons_append,List.nil_append]) ?_;refine runD trivial ?_
    show aw _ _ _ (St.mk 180 _ ([(1,Blk.var [sOpt r.ofs.length sO,sOpt r.pls.length sP,sOpt r.fls.length sF,ruls r.rls,hlds r.hls,clks r.cks,sels r.sls,prps r.pps,apvs r.aps,crts r.crs,deps r.dps,vi r.chg]),(2,Blk.var zc12)]++((rowB 11 (r.ofs.map Ofc.cs).flatten 112 5 sO)++((rowB 14 (r.pls.map Plan.cs).flatten 118 5 sP)++(rowB 17 (r.fls.map Fil.cs).flatten 86 8 sF)))) []) _
    refine jno .nm (fun (⟨sU,sD,sC⟩:Option (Nat×Nat)×Option (Nat×Nat)×Option (Nat×Nat))=>okB r.rls.length sU/\okB r.hls.length sD/\okB r.cks.length sC) (fun (⟨sU,sD,sC⟩:Option (Nat×Nat)×Option (Nat×Nat)×Option (Nat×Nat))=>⟨180,[(1,.p 1 0),(2,.p 2 0)],(1,Blk.var [sOpt r.ofs.length sO,sOpt r.pls.length sP,sOpt r.fls.length sF,sOpt r.rls.length sU,sOpt r.hls.length sD,sOpt r.cks.length sC,sels r.sls,prps r.pps,apvs r.aps,crts r.crs,deps r.dps,vi r.chg])::(2,.var zc12)::((rowB 92 (r.rls.map Rul.cs).flatten 120 8 sU)++((rowB 95 (r.hls.map Hld.cs).flatten 122 7 sD)++(rowB 98 (r.cks.map Clk.cs).flatten 56 5 sC))),[]⟩) (ja7 (ja2 (q:=11) _) (ja7 (ja2 (q:=14) _) (ja2 (q:=17) _))) (h1:=[(1,Blk.var [sOpt r.ofs.length sO,sOpt r.pls.length sP,sOpt r.fls.length sF,ruls r.rls,hlds r.hls,clks r.cks,sels r.sls,prps r.pps,apvs r.aps,crts r.crs,deps r.dps,vi r.chg]),(2,Blk.var zc12)]) ?_ ?_ (fun ⟨sU,sD,sC⟩=>by cases sU <;> cases sD <;> cases sC <;> rfl) rfl
    · intro E hE;refine jb0 gr137c ?_;refine ja9 jb1 ?_
      try simp only[and_self_right,jbc,and_assoc]
      apply viaA
      · have hX:=fun (st:St) (K:St->Prop) (k:V->Option TypeId->Prop) (kn:Nat->List (List V)->Prop) (hn:Ab.look 92 st.h=none) (hq:92<st.n) hk=>jsn (T:=T) (st:=st) (d:=some 92) (K:=K) (k:=k) (kn:=kn) 92 r.rls.length (List.length_map _) (denU_cloneRul r.rls (h.rls.1)) hq hn hk
        repeat' (first | with_reducible apply And.imp | (intro hk; exact hX _ _ _ _ (by simp[ja3,jaf]) (by show (92:Nat)<180; decide) hk))
      try simp only[jig]
      intro sU hU;refine ja9 jb1 ?_
      try simp only[and_self_right]
      apply viaA
      · have hX:=fun (st:St) (K:St->Prop) (k:V->Option TypeId->Prop) (kn:Nat->List (List V)->Prop) (hn:Ab.look 95 st.h=none) (hq:95<st.n) hk=>jsn (T:=T) (st:=st) (d:=some 95) (K:=K) (k:=k) (kn:=kn) 95 r.hls.length (List.length_map _) (denU_cloneHld r.hls (h.hls.1)) hq hn hk
        repeat' (first | with_reducible apply And.imp | (intro hk; exact hX _ _ _ _ (by simp[ja3,jcr,jaf]) (by show (95:Nat)<180; decide) hk))
      try simp only[jig]
      intro sD hD;refine ja9 jb1 ?_
      try simp only[and_self,and_self_left,and_self_right,jbc,jbp,and_assoc]
      apply viaA
      · have hX:=fun (st:St) (K:St->Prop) (k:V->Option TypeId->Prop) (kn:Nat->List (List V)->Prop) (hn:Ab.look 98 st.h=none) (hq:98<st.n) hk=>jsn (T:=T) (st:=st) (d:=some 98) (K:=K) (k:=k) (kn:=kn) 98 r.cks.length (List.length_map _) (denU_cloneClk r.cks (h.cks.1)) hq hn hk
        repeat' (first | with_reducible apply And.imp | (intro hk; exact hX _ _ _ _ (by simp[ja3,jcr,jaf]) (by show (98:Nat)<180; decide) hk))
      try simp only
      intro sC hC;refine ja9 jb1 ?_
      try simp only[and_self,and_self_left,and_self_right,jbc,jbp]
      repeat' (with_reducible refine ai ?_ ?_)
      all_goals refine hE ⟨sU,sD,sC⟩ _ ⟨hU,hD,hC⟩ ?_
      all_goals exact jbb [1,2] [1,2] rfl rfl rfl (fun i k e=>jkr (ja2 _) (ja2 _) (ja2 _) i k e) rfl
    rintro ⟨sU,sD,sC⟩ ⟨hU,hD,hC⟩
    show aw _ _ _ ⟨180,[(1,.p 1 0),(2,.p 2 0)],((1,Blk.var [sOpt r.ofs.length sO,sOpt r.pls.length sP,sOpt r.fls.length sF,sOpt r.rls.length sU,sOpt r.hls.length sD,sOpt r.cks.length sC,sels r.sls,prps r.pps,apvs r.aps,crts r.crs,deps r.dps,vi r.chg])::(2,Blk.var zc12)::((rowB 92 (r.rls.map Rul.cs).flatten 120 8 sU)++((rowB 95 (r.hls.map Hld.cs).flatten 122 7 sD)++(rowB 98 (r.cks.map Clk.cs).flatten 56 5 sC))))++((rowB 11 (r.ofs.map Ofc.cs).flatten 112 5 sO)++((rowB 14 (r.pls.map Plan.cs).flatten 118 5 sP)++(rowB 17 (r.fls.map Fil.cs).flatten 86 8 sF))),[]⟩ _
    refine jnn (h':=(1,Blk.var [sOpt r.ofs.length sO,sOpt r.pls.length sP,sOpt r.fls.length sF,sOpt r.rls.length sU,sOpt r.hls.length sD,sOpt r.cks.length sC,sels r.sls,prps r.pps,apvs r.aps,crts r.crs,deps r.dps,vi r.chg])::(2,.var zc12)::((rowB 92 (r.rls.map Rul.cs).flatten 120 8 sU)++((rowB 95 (r.hls.map Hld.cs).flatten 122 7 sD)++((rowB 98 (r.cks.map Clk.cs).flatten 56 5 sC)++((rowB 11 (r.ofs.map Ofc.cs).flatten 112 5 sO)++((rowB 14 (r.pls.map Plan.cs).flatten 118 5 sP)++(rowB 17 (r.fls.map Fil.cs).flatten 86 8 sF))))))) (by simp only[List.append_assoc,List.cons_append]) ?_;refine runD trivial ?_
    show aw _ _ _ (St.mk 180 _ ([(1,Blk.var [sOpt r.ofs.length sO,sOpt r.pls.length sP,sOpt r.fls.length sF,sOpt r.rls.length sU,sOpt r.hls.length sD,sOpt r.cks.length sC,sels r.sls,prps r.pps,apvs r.aps,crts r.crs,deps r.dps,vi r.chg]),(2,Blk.var zc12)]++((rowB 92 (r.rls.map Rul.cs).flatten 120 8 sU)++((rowB 95 (r.hls.map Hld.cs).flatten 122 7 sD)++((rowB 98 (r.cks.map Clk.cs).flatten 56 5 sC)++((rowB 11 (r.ofs.map Ofc.cs).flatten 112 5 sO)++((rowB 14 (r.pls.map Plan.cs).flatten 118 5 sP)++(rowB 17 (r.fls.map Fil.cs).flatten 86 8 sF))))))) []) _
    refine jno .nm (fun (⟨sS,sQ,sK⟩:Option (Nat×Nat)×Option (Nat×Nat)×Option (Nat×Nat))=>okB r.sls.length sS/\okB r.pps.length sQ/\okB r.crs.length sK) (fun (⟨sS,sQ,sK⟩:Option (Nat×Nat)×Option (Nat×Nat)×Option (Nat×Nat))=>⟨180,[(1,.p 1 0),(2,.p 2 0)],(1,Blk.var [sOpt r.ofs.length sO,sOpt r.pls.length sP,sOpt r.fls.length sF,sOpt r.rls.length sU,sOpt r.hls.length sD,sOpt r.cks.length sC,sOpt r.sls.length sS,sOpt r.pps.length sQ,apvs r.aps,sOpt r.crs.length sK,deps r.dps,vi r.chg])::(2,.var zc12)::((rowB 104 (r.sls.map Sel.cs).flatten 134 3 sS)++((rowB 107 (r.pps.map Prp.cs).flatten 42 5 sQ)++(rowB 110 (r.crs.map Crt.cs).flatten 60 6 sK))),[]⟩) (ja7 (ja2 (q:=92) _) (ja7 (ja2 (q:=95) _) (ja7 (ja2 (q:=98) _) (ja7 (ja2 (q:=11) _) (ja7 (ja2 (q:=14) _) (ja2 (q:=17) _)))))) (h1:=[(1,Blk.var [sOpt r.ofs.length sO,sOpt r.pls.length sP,sOpt r.fls.length sF,sOpt r.rls.length sU,sOpt r.hls.length sD,sOpt r.cks.length sC,sels r.sls,prps r.pps,apvs r.aps,crts r.crs,deps r.dps,vi r.chg]),(2,Blk.var zc12)]) ?_ ?_ (fun ⟨sS,sQ,sK⟩=>by cases sS <;> cases sQ <;> cases sK <;> rfl) rfl
    · intro E hE;refine jb0 gr137c ?_;refine ja9 jb1 ?_
      try simp only[and_self_right,jbc,and_assoc]
      apply viaA
      · have hX:=fun (st:St) (K:St->Prop) (k:V->Option TypeId->Prop) (kn:Nat->List (List V)->Prop) (hn:Ab.look 104 st.h=none) (hq:104<st.n) hk=>jsn (T:=T) (st:=st) (d:=some 104) (K:=K) (k:=k) (kn:=kn) 104 r.sls.length (List.length_map _) (denU_cloneSel r.sls (h.sls.1)) hq hn hk
        repeat' (first | with_reducible apply And.imp | (intro hk; exact hX _ _ _ _ (by simp[ja3,jaf]) (by show (104:Nat)<180; decide) hk))
      try simp only[jig]
      intro sS hS;refine ja9 jb1 ?_
      try simp only[and_self_right]
      apply viaA
      · have hX:=fun (st:St) (K:St->Prop) (k:V->Option TypeId->Prop) (kn:Nat->List (List V)->Prop) (hn:Ab.look 107 st.h=none) (hq:107<st.n) hk=>jsn (T:=T) (st:=st) (d:=some 107) (K:=K) (k:=k) (kn:=kn) 107 r.pps.length (List.length_map _) (denU_clonePrp r.pps (h.pps.1)) hq hn hk
        repeat' (first | with_reducible apply And.imp | (intro hk; exact hX _ _ _ _ (by simp[ja3,jcr,jaf]) (by show (107:Nat)<180; decide) hk))
      try simp only[jig]
      intro sQ hQ;refine ja9 jb1 ?_
      try simp only[and_self,and_self_left,and_self_right,jbc,jbp,and_assoc]
      apply viaA
      · have hX:=fun (st:St) (K:St->Prop) (k:V->Option TypeId->Prop) (kn:Nat->List (List V)->Prop) (hn:Ab.look 110 st.h=none) (hq:110<st.n) hk=>jsn (T:=T) (st:=st) (d:=some 110) (K:=K) (k:=k) (kn:=kn) 110 r.crs.length (List.length_map _) (denU_cloneCrt r.crs (h.crs.1)) hq hn hk
        repeat' (first | with_reducible apply And.imp | (intro hk; exact hX _ _ _ _ (by simp[ja3,jcr,jaf]) (by show (110:Nat)<180; decide) hk))
      try simp only
      intro sK hK;refine ja9 jb1 ?_
      try simp only[and_self,and_self_left,and_self_right,jbc,jbp]
      repeat' (with_reducible refine ai ?_ ?_)
      all_goals refine hE ⟨sS,sQ,sK⟩ _ ⟨hS,hQ,hK⟩ ?_
      all_goals exact jbb [1,2] [1,2] rfl rfl rfl (fun i k e=>jkr (ja2 _) (ja2 _) (ja2 _) i k e) rfl
    rintro ⟨sS,sQ,sK⟩ ⟨hS,hQ,hK⟩
    show aw _ _ _ ⟨180,[(1,.p 1 0),(2,.p 2 0)],((1,Blk.var [sOpt r.ofs.length sO,sOpt r.pls.length sP,sOpt r.fls.length sF,sOpt r.rls.length sU,sOpt r.hls.length sD,sOpt r.cks.length sC,sOpt r.sls.length sS,sOpt r.pps.length sQ,apvs r.aps,sOpt r.crs.length sK,deps r.dps,vi r.chg])::(2,Blk.var zc12)::((rowB 104 (r.sls.map Sel.cs).flatten 134 3 sS)++((rowB 107 (r.pps.map Prp.cs).flatten 42 5 sQ)++(rowB 110 (r.crs.map Crt.cs).flatten 60 6 sK))))++((rowB 92 (r.rls.map Rul.cs).flatten 120 8 sU)++((rowB 95 (r.hls.map Hld.cs).flatten 122 7 sD)++((rowB 98 (r.cks.map Clk.cs).flatten 56 5 sC)++((rowB 11 (r.ofs.map Ofc.cs).flatten 112 5 sO)++((rowB 14 (r.pls.map Plan.cs).flatten 118 5 sP)++(rowB 17 (r.fls.map Fil.cs).flatten 86 8 sF)))))),[]⟩ _
    refine jnn (h':=(1,Blk.var [sOpt r.ofs.length sO,sOpt r.pls.length sP,sOpt r.fls.length sF,sOpt r.rls.length sU,sOpt r.hls.length sD,sOpt r.cks.length sC,sOpt r.sls.length sS,sOpt r.pps.length sQ,apvs r.aps,sOpt r.crs.length sK,deps r.dps,vi r.chg])::(2,.var zc12)::((rowB 104 (r.sls.map Sel.cs).flatten 134 3 sS)++((rowB 107 (r.pps.map Prp.cs).flatten 42 5 sQ)++((rowB 110 (r.crs.map Crt.cs).flatten 60 6 sK)++((rowB 92 (r.rls.map Rul.cs).flatten 120 8 sU)++((rowB 95 (r.hls.map Hld.cs).flatten 122 7 sD)++((rowB 98 (r.cks.map Clk.cs).flatten 56 5 sC)++((rowB 11 (r.ofs.map Ofc.cs).flatten 112 5 sO)++((rowB 14 (r.pls.map Plan.cs).flatten 118 5 sP)++(rowB 17 (r.fls.map Fil.cs).flatten 86 8 sF)))))))))) (by simp only[List.append_assoc,List.cons_append]) ?_;refine jhn ?_
    show aw _ _ _ (St.mk 180 [(1,TV.p 1 0),(2,TV.p 2 0)] (((1,Blk.var [sOpt r.ofs.length sO,sOpt r.pls.length sP,sOpt r.fls.length sF,sOpt r.rls.length sU,sOpt r.hls.length sD,sOpt r.cks.length sC,sOpt r.sls.length sS,sOpt r.pps.length sQ,apvs r.aps,sOpt r.crs.length sK,deps r.dps,vi r.chg])::(2,Blk.var zc12)::rowB 104 (r.sls.map Sel.cs).flatten 134 3 sS)++((rowB 107 (r.pps.map Prp.cs).flatten 42 5 sQ)++((rowB 110 (r.crs.map Crt.cs).flatten 60 6 sK)++((rowB 92 (r.rls.map Rul.cs).flatten 120 8 sU)++((rowB 95 (r.hls.map Hld.cs).flatten 122 7 sD)++((rowB 98 (r.cks.map Clk.cs).flatten 56 5 sC)++((rowB 11 (r.ofs.map Ofc.cs).flatten 112 5 sO)++((rowB 14 (r.pls.map Plan.cs).flatten 118 5 sP)++(rowB 17 (r.fls.map Fil.cs).flatten 86 8 sF))))))))) []) _
    refine jno .nm (fun _:Unit=>True) (fun _=>⟨180,[(1,TV.p 1 0),(2,TV.p 2 0)],((1,Blk.var [sOpt r.ofs.length sO,sOpt r.pls.length sP,sOpt r.fls.length sF,sOpt r.rls.length sU,sOpt r.hls.length sD,sOpt r.cks.length sC,sOpt r.sls.length sS,sOpt r.pps.length sQ,apvs r.aps,sOpt r.crs.length sK,deps r.dps,vi r.chg])::(2,Blk.var zc12)::rowB 104 (r.sls.map Sel.cs).flatten 134 3 sS),[]⟩) (ja7 (ja2 (q:=107) _) (ja7 (ja2 (q:=110) _) (ja7 (ja2 (q:=92) _) (ja7 (ja2 (q:=95) _) (ja7 (ja2 (q:=98) _) (ja7 (ja2 (q:=11) _) (ja7 (ja2 (q:=14) _) (ja2 (q:=17) _)))))))) ?_ ?_ (fun _=>by cases sS <;> rfl) (by cases sS <;> rfl)
    · intro E hE;rcases sS with _ | ⟨b,c⟩
      · show aw _ _ _ (St.mk 180 [(1,TV.p 1 0),(2,TV.p 2 0)] [(1,Blk.var [sOpt r.ofs.length sO,sOpt r.pls.length sP,sOpt r.fls.length sF,sOpt r.rls.length sU,sOpt r.hls.length sD,sOpt r.cks.length sC,.val (.slice none 0 0),sOpt r.pps.length sQ,apvs r.aps,sOpt r.crs.length sK,deps r.dps,vi r.chg]),(2,Blk.var zc12)] []) _
        refine runD jb1 ?_;refine loop ⟨[117,1,2,116],[1,2],[],[]⟩ (fun k:Nat=>k=0) (fun k=>k) (fun k=>⟨180,[(117,.v (vi k)),(1,.p 1 0),(2,.p 2 0),(116,.v (vi (0:Nat)))],[(1,Blk.var [sOpt r.ofs.length sO,sOpt r.pls.length sP,sOpt r.fls.length sF,sOpt r.rls.length sU,sOpt r.hls.length sD,sOpt r.cks.length sC,.val (.slice none 0 0),sOpt r.pps.length sQ,apvs r.aps,sOpt r.crs.length sK,deps r.dps,vi r.chg]),(2,Blk.var zc12)],[]⟩) 0 rfl ?_;intro k hk;subst hk;refine run ?_;refine hE () _ trivial ?_;exact jbb [1,2] [1,2] rfl rfl rfl (fun _ _ e=>e) rfl
      · obtain ⟨hc1,hc2⟩:r.sls.length<=c/\c<=maxLen:=hS;have hw:=jbr (cs:=Sel.cs) (z:=3) (fun _=>rfl) r.sls;have hbig:r.sls.length<=1048576:=h.sls.1
        show aw _ _ _ (St.mk 180 [(1,TV.p 1 0),(2,TV.p 2 0)] [(1,Blk.var [sOpt r.ofs.length sO,sOpt r.pls.length sP,sOpt r.fls.length sF,sOpt r.rls.length sU,sOpt r.hls.length sD,sOpt r.cks.length sC,.val (.slice (some ⟨b,0,none⟩) r.sls.length c),sOpt r.pps.length sQ,apvs r.aps,sOpt r.crs.length sK,deps r.dps,vi r.chg]),(2,Blk.var zc12),(104,Blk.var (r.sls.map Sel.cs).flatten (some b) (some (134,3,c)))] []) _
        refine runD jb1 ?_;refine loop ⟨[117,1,2,116],[1,2,104],[],[]⟩ (fun k:Nat=>k<=r.sls.length) (fun k=>r.sls.length-k) (fun k=>⟨180,[(117,.v (vi k)),(1,.p 1 0),(2,.p 2 0),(116,.v (vi r.sls.length))],[(1,Blk.var [sOpt r.ofs.length sO,sOpt r.pls.length sP,sOpt r.fls.length sF,sOpt r.rls.length sU,sOpt r.hls.length sD,sOpt r.cks.length sC,.val (.slice (some ⟨b,0,none⟩) r.sls.length c),sOpt r.pps.length sQ,apvs r.aps,sOpt r.crs.length sK,deps r.dps,vi r.chg]),(2,Blk.var zc12),(104,Blk.var (r.sls.map Sel.cs).flatten (some b) (some (134,3,c)))],[]⟩) 0 (Nat.zero_le _) ?_;intro k hk;by_cases hlt:k<r.sls.length
        · obtain ⟨s,hx,-,hm⟩:=ja8 hlt;have g2:=jj7 (cs:=Sel.cs) (z:=3) (fun _=>rfl) hx (off:=2) rfl;have s2:=jhv (cs:=Sel.cs) (z:=3) (fun _=>rfl) hx (off:=2) rfl;obtain ⟨W,hW⟩:∃W,(r.sls.map Sel.cs).flatten=W:=⟨_,rfl⟩;simp only[hW] at hw g2 s2 ⊢;refine runD (ai (ai g2 s2) (ai jda jb1)) ?_;refine jlr .nm (fun _:Unit=>True) (fun _=>⟨180,[(117,.v (vi k)),(1,.p 1 0),(2,.p 2 0),(116,.v (vi r.sls.length))],[(1,Blk.var [sOpt r.ofs.length sO,sOpt r.pls.length sP,sOpt r.fls.length sF,sOpt r.rls.length sU,sOpt r.hls.length sD,sOpt r.cks.length sC,.val (.slice (some ⟨b,0,none⟩) r.sls.length c),sOpt r.pps.length sQ,apvs r.aps,sOpt r.crs.length sK,deps r.dps,vi r.chg]),(2,Blk.var zc12),(104,Blk.var W (some b) (some (134,3,c)))],[]⟩) ?_ ?_
          · intro E1 hE1;refine jb0 gr137a ?_;refine ja9 (ai (ai g2 s2) (ai jda jb1)) ?_
            try simp only[and_self_left]
            apply viaA
            · have hX:=fun k kn m h0=>call (T:=T) (k:=k) (kn:=kn) (m:=m) (jf6 s.fls (h.sls.2 s hm)).den h0
              repeat' (first | with_reducible apply And.imp | exact hX _ _ _)
            refine ja9 (ai (ai g2 s2) (ai jda jb1)) ?_
            try simp only[and_self,and_self_left,and_self_right,jbc,jbp]
            repeat' (with_reducible refine ai ?_ ?_)
            all_goals refine hE1 () _ trivial ?_
            all_goals exact jbb [1,2,104] [117,1,2,116] rfl rfl rfl (fun _ _ e=>e) rfl
          intro _ _
          show aw _ _ _ ⟨180,[(117,.v (vi k)),(1,.p 1 0),(2,.p 2 0),(116,.v (vi r.sls.length))],[(1,Blk.var [sOpt r.ofs.length sO,sOpt r.pls.length sP,sOpt r.fls.length sF,sOpt r.rls.length sU,sOpt r.hls.length sD,sOpt r.cks.length sC,.val (.slice (some ⟨b,0,none⟩) r.sls.length c),sOpt r.pps.length sQ,apvs r.aps,sOpt r.crs.length sK,deps r.dps,vi r.chg]),(2,Blk.var zc12),(104,Blk.var W (some b) (some (134,3,c)))],[]⟩ _
          refine run ?_;exact round (k+1) hlt (by omega)
        · have hk2:k=r.sls.length:=by omega
          subst hk2;refine run ?_;refine hE () _ trivial ?_;exact jbb [1,2] [1,2] rfl rfl rfl (fun _ _ e=>e) rfl
    intro _ _
    show aw _ _ _ (St.mk 180 _ ([(1,Blk.var [sOpt r.ofs.length sO,sOpt r.pls.length sP,sOpt r.fls.length sF,sOpt r.rls.length sU,sOpt r.hls.length sD,sOpt r.cks.length sC,sOpt r.sls.length sS,sOpt r.pps.length sQ,apvs r.aps,sOpt r.crs.length sK,deps r.dps,vi r.chg]),(2,Blk.var zc12)]++((rowB 104 (r.sls.map Sel.cs).flatten 134 3 sS)++((rowB 107 (r.pps.map Prp.cs).flatten 42 5 sQ)++((rowB 110 (r.crs.map Crt.cs).flatten 60 6 sK)++((rowB 92 (r.rls.map Rul.cs).flatten 120 8 sU)++((rowB 95 (r.hls.map Hld.cs).flatten 122 7 sD)++((rowB 98 (r.cks.map Clk.cs).flatten 56 5 sC)++((rowB 11 (r.ofs.map Ofc.cs).flatten 112 5 sO)++((rowB 14 (r.pls.map Plan.cs).flatten 118 5 sP)++(rowB 17 (r.fls.map Fil.cs).flatten 86 8 sF)))))))))) []) _
    refine aw_rot (h1:=[(1,Blk.var [sOpt r.ofs.length sO,sOpt r.pls.length sP,sOpt r.fls.length sF,sOpt r.rls.length sU,sOpt r.hls.length sD,sOpt r.cks.length sC,sOpt r.sls.length sS,sOpt r.pps.length sQ,apvs r.aps,sOpt r.crs.length sK,deps r.dps,vi r.chg]),(2,Blk.var zc12)]) (ja2 _) (ja7 (ja2 (q:=107) _) (ja7 (ja2 (q:=110) _) (ja7 (ja2 (q:=92) _) (ja7 (ja2 (q:=95) _) (ja7 (ja2 (q:=98) _) (ja7 (ja2 (q:=11) _) (ja7 (ja2 (q:=14) _) (ja2 (q:=17) _)))))))) ?_;refine jnn (h':=(1,Blk.var [sOpt r.ofs.length sO,sOpt r.pls.length sP,sOpt r.fls.length sF,sOpt r.rls.length sU,sOpt r.hls.length sD,sOpt r.cks.length sC,sOpt r.sls.length sS,sOpt r.pps.length sQ,apvs r.aps,sOpt r.crs.length sK,deps r.dps,vi r.chg])::(2,.var zc12)::((rowB 107 (r.pps.map Prp.cs).flatten 42 5 sQ)++((rowB 110 (r.crs.map Crt.cs).flatten 60 6 sK)++((rowB 92 (r.rls.map Rul.cs).flatten 120 8 sU)++((rowB 95 (r.hls.map Hld.cs).flatten 122 7 sD)++((rowB 98 (r.cks.map Clk.cs).flatten 56 5 sC)++((rowB 11 (r.ofs.map Ofc.cs).flatten 112 5 sO)++((rowB 14 (r.pls.map Plan.cs).flatten 118 5 sP)++((rowB 17 (r.fls.map Fil.cs).flatten 86 8 sF)++(rowB 104 (r.sls.map Sel.cs).flatten 134 3 sS)))))))))) (by simp only[List.append_assoc,List.cons_append,List.nil_append]) ?_;refine jhn ?_
    show aw _ _ _ (St.mk 180 [(1,TV.p 1 0),(2,TV.p 2 0)] (((1,Blk.var [sOpt r.ofs.length sO,sOpt r.pls.length sP,sOpt r.fls.length sF,sOpt r.rls.length sU,sOpt r.hls.length sD,sOpt r.cks.length sC,sOpt r.sls.length sS,sOpt r.pps.length sQ,apvs r.aps,sOpt r.crs.length sK,deps r.dps,vi r.chg])::(2,Blk.var zc12)::rowB 107 (r.pps.map Prp.cs).flatten 42 5 sQ)++((rowB 110 (r.crs.map Crt.cs).flatten 60 6 sK)++((rowB 92 (r.rls.map Rul.cs).flatten 120 8 sU)++((rowB 95 (r.hls.map Hld.cs).flatten 122 7 sD)++((rowB 98 (r.cks.map Clk.cs).flatten 56 5 sC)++((rowB 11 (r.ofs.map Ofc.cs).flatten 112 5 sO)++((rowB 14 (r.pls.map Plan.cs).flatten 118 5 sP)++((rowB 17 (r.fls.map Fil.cs).flatten 86 8 sF)++(rowB 104 (r.sls.map Sel.cs).flatten 134 3 sS))))))))) []) _
    refine jno .nm (fun _:Unit=>True) (fun _=>⟨180,[(1,TV.p 1 0),(2,TV.p 2 0)],((1,Blk.var [sOpt r.ofs.length sO,sOpt r.pls.length sP,sOpt r.fls.length sF,sOpt r.rls.length sU,sOpt r.hls.length sD,sOpt r.cks.length sC,sOpt r.sls.length sS,sOpt r.pps.length sQ,apvs r.aps,sOpt r.crs.length sK,deps r.dps,vi r.chg])::(2,Blk.var zc12)::rowB 107 (r.pps.map Prp.cs).flatten 42 5 sQ),[]⟩) (ja7 (ja2 (q:=110) _) (ja7 (ja2 (q:=92) _) (ja7 (ja2 (q:=95) _) (ja7 (ja2 (q:=98) _) (ja7 (ja2 (q:=11) _) (ja7 (ja2 (q:=14) _) (ja7 (ja2 (q:=17) _) (ja2 (q:=104) _)))))))) ?_ ?_ (fun _=>by cases sQ <;> rfl) (by cases sQ <;> rfl)
    · intro E hE;rcases sQ with _ | ⟨b,c⟩
      · show aw _ _ _ (St.mk 180 [(1,TV.p 1 0),(2,TV.p 2 0)] [(1,Blk.var [sOpt r.ofs.length sO,sOpt r.pls.length sP,sOpt r.fls.length sF,sOpt r.rls.length sU,sOpt r.hls.length sD,sOpt r.cks.length sC,sOpt r.sls.length sS,.val (.slice none 0 0),apvs r.aps,sOpt r.crs.length sK,deps r.dps,vi r.chg]),(2,Blk.var zc12)] []) _
        refine runD jb1 ?_;refine loop ⟨[136,1,2,135],[1,2],[],[]⟩ (fun k:Nat=>k=0) (fun k=>k) (fun k=>⟨180,[(136,.v (vi k)),(1,.p 1 0),(2,.p 2 0),(135,.v (vi (0:Nat)))],[(1,Blk.var [sOpt r.ofs.length sO,sOpt r.pls.length sP,sOpt r.fls.length sF,sOpt r.rls.length sU,sOpt r.hls.length sD,sOpt r.cks.length sC,sOpt r.sls.length sS,.val (.slice none 0 0),apvs r.aps,sOpt r.crs.length sK,deps r.dps,vi r.chg]),(2,Blk.var zc12)],[]⟩) 0 rfl ?_;intro k hk;subst hk;refine run ?_;refine hE () _ trivial ?_;exact jbb [1,2] [1,2] rfl rfl rfl (fun _ _ e=>e) rfl
      · obtain ⟨hc1,hc2⟩:r.pps.length<=c/\c<=maxLen:=hQ;have hw:=jbr (cs:=Prp.cs) (z:=5) (fun _=>rfl) r.pps;have hbig:r.pps.length<=1048576:=h.pps.1
        show aw _ _ _ (St.mk 180 [(1,TV.p 1 0),(2,TV.p 2 0)] [(1,Blk.var [sOpt r.ofs.length sO,sOpt r.pls.length sP,sOpt r.fls.length sF,sOpt r.rls.length sU,sOpt r.hls.length sD,sOpt r.cks.length sC,sOpt r.sls.length sS,.val (.slice (some ⟨b,0,none⟩) r.pps.length c),apvs r.aps,sOpt r.crs.length sK,deps r.dps,vi r.chg]),(2,Blk.var zc12),(107,Blk.var (r.pps.map Prp.cs).flatten (some b) (some (42,5,c)))] []) _
        refine runD jb1 ?_;refine loop ⟨[136,1,2,135],[1,2,107],[],[]⟩ (fun k:Nat=>k<=r.pps.length) (fun k=>r.pps.length-k) (fun k=>⟨180,[(136,.v (vi k)),(1,.p 1 0),(2,.p 2 0),(135,.v (vi r.pps.length))],[(1,Blk.var [sOpt r.ofs.length sO,sOpt r.pls.length sP,sOpt r.fls.length sF,sOpt r.rls.length sU,sOpt r.hls.length sD,sOpt r.cks.length sC,sOpt r.sls.length sS,.val (.slice (some ⟨b,0,none⟩) r.pps.length c),apvs r.aps,sOpt r.crs.length sK,deps r.dps,vi r.chg]),(2,Blk.var zc12),(107,Blk.var (r.pps.map Prp.cs).flatten (some b) (some (42,5,c)))],[]⟩) 0 (Nat.zero_le _) ?_;intro k hk;by_cases hlt:k<r.pps.length
        · obtain ⟨q,hx,-,hm⟩:=ja8 hlt;have g3:=jj7 (cs:=Prp.cs) (z:=5) (fun _=>rfl) hx (off:=3) rfl;have s3:=jhv (cs:=Prp.cs) (z:=5) (fun _=>rfl) hx (off:=3) rfl;obtain ⟨W,hW⟩:∃W,(r.pps.map Prp.cs).flatten=W:=⟨_,rfl⟩;simp only[hW] at hw g3 s3 ⊢;refine runD (ai (ai g3 s3) (ai jda jb1)) ?_;refine jlr .nm (fun _:Unit=>True) (fun _=>⟨180,[(136,.v (vi k)),(1,.p 1 0),(2,.p 2 0),(135,.v (vi r.pps.length))],[(1,Blk.var [sOpt r.ofs.length sO,sOpt r.pls.length sP,sOpt r.fls.length sF,sOpt r.rls.length sU,sOpt r.hls.length sD,sOpt r.cks.length sC,sOpt r.sls.length sS,.val (.slice (some ⟨b,0,none⟩) r.pps.length c),apvs r.aps,sOpt r.crs.length sK,deps r.dps,vi r.chg]),(2,Blk.var zc12),(107,Blk.var W (some b) (some (42,5,c)))],[]⟩) ?_ ?_
          · intro E1 hE1;refine jb0 gr137a ?_;refine ja9 (ai (ai g3 s3) (ai jda jb1)) ?_
            try simp only[and_self_left]
            apply viaA
            · have hX:=fun k kn m h0=>call (T:=T) (k:=k) (kn:=kn) (m:=m) (jf6 q.fls (h.pps.2 q hm)).den h0
              repeat' (first | with_reducible apply And.imp | exact hX _ _ _)
            refine ja9 (ai (ai g3 s3) (ai jda jb1)) ?_
            try simp only[and_self,and_self_left,and_self_right,jbc,jbp]
            repeat' (with_reducible refine ai ?_ ?_)
            all_goals refine hE1 () _ trivial ?_
            all_goals exact jbb [1,2,107] [136,1,2,135] rfl rfl rfl (fun _ _ e=>e) rfl
          intro _ _
          show aw _ _ _ ⟨180,[(136,.v (vi k)),(1,.p 1 0),(2,.p 2 0),(135,.v (vi r.pps.length))],[(1,Blk.var [sOpt r.ofs.length sO,sOpt r.pls.length sP,sOpt r.fls.length sF,sOpt r.rls.length sU,sOpt r.hls.length sD,sOpt r.cks.length sC,sOpt r.sls.length sS,.val (.slice (some ⟨b,0,none⟩) r.pps.length c),apvs r.aps,sOpt r.crs.length sK,deps r.dps,vi r.chg]),(2,Blk.var zc12),(107,Blk.var W (some b) (some (42,5,c)))],[]⟩ _
          refine run ?_;exact round (k+1) hlt (by omega)
        · have hk2:k=r.pps.length:=by omega
          subst hk2;refine run ?_;refine hE () _ trivial ?_;exact jbb [1,2] [1,2] rfl rfl rfl (fun _ _ e=>e) rfl
    intro _ _
    show aw _ _ _ (St.mk 180 _ ([(1,Blk.var [sOpt r.ofs.length sO,sOpt r.pls.length sP,sOpt r.fls.length sF,sOpt r.rls.length sU,sOpt r.hls.length sD,sOpt r.cks.length sC,sOpt r.sls.length sS,sOpt r.pps.length sQ,apvs r.aps,sOpt r.crs.length sK,deps r.dps,vi r.chg]),(2,Blk.var zc12)]++((rowB 107 (r.pps.map Prp.cs).flatten 42 5 sQ)++((rowB 110 (r.crs.map Crt.cs).flatten 60 6 sK)++((rowB 92 (r.rls.map Rul.cs).flatten 120 8 sU)++((rowB 95 (r.hls.map Hld.cs).flatten 122 7 sD)++((rowB 98 (r.cks.map Clk.cs).flatten 56 5 sC)++((rowB 11 (r.ofs.map Ofc.cs).flatten 112 5 sO)++((rowB 14 (r.pls.map Plan.cs).flatten 118 5 sP)++((rowB 17 (r.fls.map Fil.cs).flatten 86 8 sF)++(rowB 104 (r.sls.map Sel.cs).flatten 134 3 sS)))))))))) []) _
    refine aw_rot (h1:=[(1,Blk.var [sOpt r.ofs.length sO,sOpt r.pls.length sP,sOpt r.fls.length sF,sOpt r.rls.length sU,sOpt r.hls.length sD,sOpt r.cks.length sC,sOpt r.sls.length sS,sOpt r.pps.length sQ,apvs r.aps,sOpt r.crs.length sK,deps r.dps,vi r.chg]),(2,Blk.var zc12)]) (ja2 _) (ja7 (ja2 (q:=110) _) (ja7 (ja2 (q:=92) _) (ja7 (ja2 (q:=95) _) (ja7 (ja2 (q:=98) _) (ja7 (ja2 (q:=11) _) (ja7 (ja2 (q:=14) _) (ja7 (ja2 (q:=17) _) (ja2 (q:=104) _)))))))) ?_;refine jnn (h':=(1,Blk.var [sOpt r.ofs.length sO,sOpt r.pls.length sP,sOpt r.fls.length sF,sOpt r.rls.length sU,sOpt r.hls.length sD,sOpt r.cks.length sC,sOpt r.sls.length sS,sOpt r.pps.length sQ,apvs r.aps,sOpt r.crs.length sK,deps r.dps,vi r.chg])::(2,.var zc12)::((rowB 110 (r.crs.map Crt.cs).flatten 60 6 sK)++((rowB 92 (r.rls.map Rul.cs).flatten 120 8 sU)++((rowB 95 (r.hls.map Hld.cs).flatten 122 7 sD)++((rowB 98 (r.cks.map Clk.cs).flatten 56 5 sC)++((rowB 11 (r.ofs.map Ofc.cs).flatten 112 5 sO)++((rowB 14 (r.pls.map Plan.cs).flatten 118 5 sP)++((rowB 17 (r.fls.map Fil.cs).flatten 86 8 sF)++((rowB 104 (r.sls.map Sel.cs).flatten 134 3 sS)++(rowB 107 (r.pps.map Prp.cs).flatten 42 5 sQ)))))))))) (by simp only[List.append_assoc,List.cons_append,List.nil_append]) ?_;refine jhn ?_
    show aw _ _ _ (St.mk 180 [(1,TV.p 1 0),(2,TV.p 2 0)] (((1,Blk.var [sOpt r.ofs.length sO,sOpt r.pls.length sP,sOpt r.fls.length sF,sOpt r.rls.length sU,sOpt r.hls.length sD,sOpt r.cks.length sC,sOpt r.sls.length sS,sOpt r.pps.length sQ,apvs r.aps,sOpt r.crs.length sK,deps r.dps,vi r.chg])::(2,Blk.var zc12)::rowB 110 (r.crs.map Crt.cs).flatten 60 6 sK)++((rowB 92 (r.rls.map Rul.cs).flatten 120 8 sU)++((rowB 95 (r.hls.map Hld.cs).flatten 122 7 sD)++((rowB 98 (r.cks.map Clk.cs).flatten 56 5 sC)++((rowB 11 (r.ofs.map Ofc.cs).flatten 112 5 sO)++((rowB 14 (r.pls.map Plan.cs).flatten 118 5 sP)++((rowB 17 (r.fls.map Fil.cs).flatten 86 8 sF)++((rowB 104 (r.sls.map Sel.cs).flatten 134 3 sS)++(rowB 107 (r.pps.map Prp.cs).flatten 42 5 sQ))))))))) []) _
    refine jno .nm (fun _:Unit=>True) (fun _=>⟨180,[(1,TV.p 1 0),(2,TV.p 2 0)],((1,Blk.var [sOpt r.ofs.length sO,sOpt r.pls.length sP,sOpt r.fls.length sF,sOpt r.rls.length sU,sOpt r.hls.length sD,sOpt r.cks.length sC,sOpt r.sls.length sS,sOpt r.pps.length sQ,apvs r.aps,sOpt r.crs.length sK,deps r.dps,vi r.chg])::(2,Blk.var zc12)::rowB 110 (r.crs.map Crt.cs).flatten 60 6 sK),[]⟩) (ja7 (ja2 (q:=92) _) (ja7 (ja2 (q:=95) _) (ja7 (ja2 (q:=98) _) (ja7 (ja2 (q:=11) _) (ja7 (ja2 (q:=14) _) (ja7 (ja2 (q:=17) _) (ja7 (ja2 (q:=104) _) (ja2 (q:=107) _)))))))) ?_ ?_ (fun _=>by cases sK <;> rfl) (by cases sK <;> rfl)
    · intro E hE;rcases sK with _ | ⟨b,c⟩
      · show aw _ _ _ (St.mk 180 [(1,TV.p 1 0),(2,TV.p 2 0)] [(1,Blk.var [sOpt r.ofs.length sO,sOpt r.pls.length sP,sOpt r.fls.length sF,sOpt r.rls.length sU,sOpt r.hls.length sD,sOpt r.cks.length sC,sOpt r.sls.length sS,sOpt r.pps.length sQ,apvs r.aps,.val (.slice none 0 0),deps r.dps,vi r.chg]),(2,Blk.var zc12)] []) _
        refine runD jb1 ?_;refine loop ⟨[155,1,2,154],[1,2],[],[]⟩ (fun k:Nat=>k=0) (fun k=>k) (fun k=>⟨180,[(155,.v (vi k)),(1,.p 1 0),(2,.p 2 0),(154,.v (vi (0:Nat)))],[(1,Blk.var [sOpt r.ofs.length sO,sOpt r.pls.length sP,sOpt r.fls.length sF,sOpt r.rls.length sU,sOpt r.hls.length sD,sOpt r.cks.length sC,sOpt r.sls.length sS,sOpt r.pps.length sQ,apvs r.aps,.val (.slice none 0 0),deps r.dps,vi r.chg]),(2,Blk.var zc12)],[]⟩) 0 rfl ?_;intro k hk;subst hk;refine run ?_;refine hE () _ trivial ?_;exact jbb [1,2] [1,2] rfl rfl rfl (fun _ _ e=>e) rfl
      · obtain ⟨hc1,hc2⟩:r.crs.length<=c/\c<=maxLen:=hK;have hw:=jbr (cs:=Crt.cs) (z:=6) (fun _=>rfl) r.crs;have hbig:r.crs.length<=1048576:=h.crs.1
        show aw _ _ _ (St.mk 180 [(1,TV.p 1 0),(2,TV.p 2 0)] [(1,Blk.var [sOpt r.ofs.length sO,sOpt r.pls.length sP,sOpt r.fls.length sF,sOpt r.rls.length sU,sOpt r.hls.length sD,sOpt r.cks.length sC,sOpt r.sls.length sS,sOpt r.pps.length sQ,apvs r.aps,.val (.slice (some ⟨b,0,none⟩) r.crs.length c),deps r.dps,vi r.chg]),(2,Blk.var zc12),(110,Blk.var (r.crs.map Crt.cs).flatten (some b) (some (60,6,c)))] []) _
        refine runD jb1 ?_;refine loop ⟨[155,1,2,154],[1,2,110],[],[]⟩ (fun k:Nat=>k<=r.crs.length) (fun k=>r.crs.length-k) (fun k=>⟨180,[(155,.v (vi k)),(1,.p 1 0),(2,.p 2 0),(154,.v (vi r.crs.length))],[(1,Blk.var [sOpt r.ofs.length sO,sOpt r.pls.length sP,sOpt r.fls.length sF,sOpt r.rls.length sU,sOpt r.hls.length sD,sOpt r.cks.length sC,sOpt r.sls.length sS,sOpt r.pps.length sQ,apvs r.aps,.val (.slice (some ⟨b,0,none⟩) r.crs.length c),deps r.dps,vi r.chg]),(2,Blk.var zc12),(110,Blk.var (r.crs.map Crt.cs).flatten (some b) (some (60,6,c)))],[]⟩) 0 (Nat.zero_le _) ?_;intro k hk;by_cases hlt:k<r.crs.length
        · obtain ⟨y,hx,-,hm⟩:=ja8 hlt;have g3:=jj7 (cs:=Crt.cs) (z:=6) (fun _=>rfl) hx (off:=3) rfl;have s3:=jhv (cs:=Crt.cs) (z:=6) (fun _=>rfl) hx (off:=3) rfl;obtain ⟨W,hW⟩:∃W,(r.crs.map Crt.cs).flatten=W:=⟨_,rfl⟩;simp only[hW] at hw g3 s3 ⊢;refine runD (ai (ai g3 s3) (ai jda jb1)) ?_;refine jlr .nm (fun _:Unit=>True) (fun _=>⟨180,[(155,.v (vi k)),(1,.p 1 0),(2,.p 2 0),(154,.v (vi r.crs.length))],[(1,Blk.var [sOpt r.ofs.length sO,sOpt r.pls.length sP,sOpt r.fls.length sF,sOpt r.rls.length sU,sOpt r.hls.length sD,sOpt r.cks.length sC,sOpt r.sls.length sS,sOpt r.pps.length sQ,apvs r.aps,.val (.slice (some ⟨b,0,none⟩) r.crs.length c),deps r.dps,vi r.chg]),(2,Blk.var zc12),(110,Blk.var W (some b) (some (60,6,c)))],[]⟩) ?_ ?_
          · intro E1 hE1;refine jb0 gr137a ?_;refine ja9 (ai (ai g3 s3) (ai jda jb1)) ?_
            try simp only[and_self_left]
            apply viaA
            · have hX:=fun k kn m h0=>call (T:=T) (k:=k) (kn:=kn) (m:=m) (jf6 y.fls (h.crs.2 y hm).1).den h0
              repeat' (first | with_reducible apply And.imp | exact hX _ _ _)
            refine ja9 (ai (ai g3 s3) (ai jda jb1)) ?_
            try simp only[and_self,and_self_left,and_self_right,jbc,jbp]
            repeat' (with_reducible refine ai ?_ ?_)
            all_goals refine hE1 () _ trivial ?_
            all_goals exact jbb [1,2,110] [155,1,2,154] rfl rfl rfl (fun _ _ e=>e) rfl
          intro _ _
          show aw _ _ _ ⟨180,[(155,.v (vi k)),(1,.p 1 0),(2,.p 2 0),(154,.v (vi r.crs.length))],[(1,Blk.var [sOpt r.ofs.length sO,sOpt r.pls.length sP,sOpt r.fls.length sF,sOpt r.rls.length sU,sOpt r.hls.length sD,sOpt r.cks.length sC,sOpt r.sls.length sS,sOpt r.pps.length sQ,apvs r.aps,.val (.slice (some ⟨b,0,none⟩) r.crs.length c),deps r.dps,vi r.chg]),(2,Blk.var zc12),(110,Blk.var W (some b) (some (60,6,c)))],[]⟩ _
          refine run ?_;exact round (k+1) hlt (by omega)
        · have hk2:k=r.crs.length:=by omega
          subst hk2;refine run ?_;refine hE () _ trivial ?_;exact jbb [1,2] [1,2] rfl rfl rfl (fun _ _ e=>e) rfl
    intro _ _
    show aw _ _ _ (St.mk 180 _ ([(1,Blk.var [sOpt r.ofs.length sO,sOpt r.pls.length sP,sOpt r.fls.length sF,sOpt r.rls.length sU,sOpt r.hls.length sD,sOpt r.cks.length sC,sOpt r.sls.length sS,sOpt r.pps.length sQ,apvs r.aps,sOpt r.crs.length sK,deps r.dps,vi r.chg]),(2,Blk.var zc12)]++((rowB 110 (r.crs.map Crt.cs).flatten 60 6 sK)++((rowB 92 (r.rls.map Rul.cs).flatten 120 8 sU)++((rowB 95 (r.hls.map Hld.cs).flatten 122 7 sD)++((rowB 98 (r.cks.map Clk.cs).flatten 56 5 sC)++((rowB 11 (r.ofs.map Ofc.cs).flatten 112 5 sO)++((rowB 14 (r.pls.map Plan.cs).flatten 118 5 sP)++((rowB 17 (r.fls.map Fil.cs).flatten 86 8 sF)++((rowB 104 (r.sls.map Sel.cs).flatten 134 3 sS)++(rowB 107 (r.pps.map Prp.cs).flatten 42 5 sQ)))))))))) []) _
    refine aw_rot (h1:=[(1,Blk.var [sOpt r.ofs.length sO,sOpt r.pls.length sP,sOpt r.fls.length sF,sOpt r.rls.length sU,sOpt r.hls.length sD,sOpt r.cks.length sC,sOpt r.sls.length sS,sOpt r.pps.length sQ,apvs r.aps,sOpt r.crs.length sK,deps r.dps,vi r.chg]),(2,Blk.var zc12)]) (ja2 _) (ja7 (ja2 (q:=92) _) (ja7 (ja2 (q:=95) _) (ja7 (ja2 (q:=98) _) (ja7 (ja2 (q:=11) _) (ja7 (ja2 (q:=14) _) (ja7 (ja2 (q:=17) _) (ja7 (ja2 (q:=104) _) (ja2 (q:=107) _)))))))) ?_;refine jnn (h':=(1,Blk.var [sOpt r.ofs.length sO,sOpt r.pls.length sP,sOpt r.fls.length sF,sOpt r.rls.length sU,sOpt r.hls.length sD,sOpt r.cks.length sC,sOpt r.sls.length sS,sOpt r.pps.length sQ,apvs r.aps,sOpt r.crs.length sK,deps r.dps,vi r.chg])::(2,.var zc12)::((rowB 92 (r.rls.map Rul.cs).flatten 120 8 sU)++((rowB 95 (r.hls.map Hld.cs).flatten 122 7 sD)++((rowB 98 (r.cks.map Clk.cs).flatten 56 5 sC)++((rowB 11 (r.ofs.map Ofc.cs).flatten 112 5 sO)++((rowB 14 (r.pls.map Plan.cs).flatten 118 5 sP)++((rowB 17 (r.fls.map Fil.cs).flatten 86 8 sF)++((rowB 104 (r.sls.map Sel.cs).flatten 134 3 sS)++((rowB 107 (r.pps.map Prp.cs).flatten 42 5 sQ)++(rowB 110 (r.crs.map Crt.cs).flatten 60 6 sK)))))))))) (by simp only[List.append_assoc,List.cons_append,List.nil_append]) ?_;refine runD trivial ?_
    show aw _ _ _ (St.mk 180 _ ([(1,Blk.var [sOpt r.ofs.length sO,sOpt r.pls.length sP,sOpt r.fls.length sF,sOpt r.rls.length sU,sOpt r.hls.length sD,sOpt r.cks.length sC,sOpt r.sls.length sS,sOpt r.pps.length sQ,apvs r.aps,sOpt r.crs.length sK,deps r.dps,vi r.chg]),(2,Blk.var zc12)]++((rowB 92 (r.rls.map Rul.cs).flatten 120 8 sU)++((rowB 95 (r.hls.map Hld.cs).flatten 122 7 sD)++((rowB 98 (r.cks.map Clk.cs).flatten 56 5 sC)++((rowB 11 (r.ofs.map Ofc.cs).flatten 112 5 sO)++((rowB 14 (r.pls.map Plan.cs).flatten 118 5 sP)++((rowB 17 (r.fls.map Fil.cs).flatten 86 8 sF)++((rowB 104 (r.sls.map Sel.cs).flatten 134 3 sS)++((rowB 107 (r.pps.map Prp.cs).flatten 42 5 sQ)++(rowB 110 (r.crs.map Crt.cs).flatten 60 6 sK)))))))))) []) _
    refine jno .nm (fun (⟨sA,sM⟩:Option (Nat×Nat)×Option (Nat×Nat))=>okB r.aps.length sA/\okB r.dps.length sM) (fun (⟨sA,sM⟩:Option (Nat×Nat)×Option (Nat×Nat))=>⟨180,[(1,.p 1 0),(2,.p 2 0)],(1,Blk.var [sOpt r.ofs.length sO,sOpt r.pls.length sP,sOpt r.fls.length sF,sOpt r.rls.length sU,sOpt r.hls.length sD,sOpt r.cks.length sC,sOpt r.sls.length sS,sOpt r.pps.length sQ,sOpt r.aps.length sA,sOpt r.crs.length sK,sOpt r.dps.length sM,vi r.chg])::(2,.var zc12)::((rowB 173 (r.aps.map Apv.cs).flatten 51 3 sA)++(rowB 176 (r.dps.map Dep.cs).flatten 105 2 sM)),[]⟩) (ja7 (ja2 (q:=92) _) (ja7 (ja2 (q:=95) _) (ja7 (ja2 (q:=98) _) (ja7 (ja2 (q:=11) _) (ja7 (ja2 (q:=14) _) (ja7 (ja2 (q:=17) _) (ja7 (ja2 (q:=104) _) (ja7 (ja2 (q:=107) _) (ja2 (q:=110) _))))))))) (h1:=[(1,Blk.var [sOpt r.ofs.length sO,sOpt r.pls.length sP,sOpt r.fls.length sF,sOpt r.rls.length sU,sOpt r.hls.length sD,sOpt r.cks.length sC,sOpt r.sls.length sS,sOpt r.pps.length sQ,apvs r.aps,sOpt r.crs.length sK,deps r.dps,vi r.chg]),(2,Blk.var zc12)]) ?_ ?_ (fun ⟨sA,sM⟩=>by cases sA <;> cases sM <;> rfl) rfl
    · intro E hE;refine jb0 gr137d ?_;refine ja9 jb1 ?_
      try simp only[and_self_right]
      apply viaA
      · have hX:=fun (st:St) (K:St->Prop) (k:V->Option TypeId->Prop) (kn:Nat->List (List V)->Prop) (hn:Ab.look 173 st.h=none) (hq:173<st.n) hk=>jsn (T:=T) (st:=st) (d:=some 173) (K:=K) (k:=k) (kn:=kn) 173 r.aps.length (List.length_map _) (denU_cloneApv r.aps (h.aps)) hq hn hk
        repeat' (first | with_reducible apply And.imp | (intro hk; exact hX _ _ _ _ (by simp[ja3,jaf]) (by show (173:Nat)<180; decide) hk))
      try simp only[jig]
      intro sA hA;refine ja9 jb1 ?_
      try simp only[and_self,and_self_left,and_self_right,jbc,jbp,and_assoc]
      apply viaA
      · have hX:=fun (st:St) (K:St->Prop) (k:V->Option TypeId->Prop) (kn:Nat->List (List V)->Prop) (hn:Ab.look 176 st.h=none) (hq:176<st.n) hk=>jsn (T:=T) (st:=st) (d:=some 176) (K:=K) (k:=k) (kn:=kn) 176 r.dps.length (List.length_map _) (denU_cloneDep r.dps (h.dps)) hq hn hk
        repeat' (first | with_reducible apply And.imp | (intro hk; exact hX _ _ _ _ (by simp[ja3,jcr,jaf]) (by show (176:Nat)<180; decide) hk))
      try simp only
      intro sM hM;refine ja9 jb1 ?_
      try simp only[and_self,and_self_left,and_self_right,jbc,jbp]
      repeat' (with_reducible refine ai ?_ ?_)
      all_goals refine hE ⟨sA,sM⟩ _ ⟨hA,hM⟩ ?_
      all_goals exact jbb [1,2] [1,2] rfl rfl rfl (fun i k e=>rows_last2 (ja2 _) (ja2 _) i k e) rfl
    rintro ⟨sA,sM⟩ ⟨hA,hM⟩
    show aw _ _ _ ⟨180,[(1,.p 1 0),(2,.p 2 0)],((1,Blk.var [sOpt r.ofs.length sO,sOpt r.pls.length sP,sOpt r.fls.length sF,sOpt r.rls.length sU,sOpt r.hls.length sD,sOpt r.cks.length sC,sOpt r.sls.length sS,sOpt r.pps.length sQ,sOpt r.aps.length sA,sOpt r.crs.length sK,sOpt r.dps.length sM,vi r.chg])::(2,Blk.var zc12)::((rowB 173 (r.aps.map Apv.cs).flatten 51 3 sA)++(rowB 176 (r.dps.map Dep.cs).flatten 105 2 sM)))++((rowB 92 (r.rls.map Rul.cs).flatten 120 8 sU)++((rowB 95 (r.hls.map Hld.cs).flatten 122 7 sD)++((rowB 98 (r.cks.map Clk.cs).flatten 56 5 sC)++((rowB 11 (r.ofs.map Ofc.cs).flatten 112 5 sO)++((rowB 14 (r.pls.map Plan.cs).flatten 118 5 sP)++((rowB 17 (r.fls.map Fil.cs).flatten 86 8 sF)++((rowB 104 (r.sls.map Sel.cs).flatten 134 3 sS)++((rowB 107 (r.pps.map Prp.cs).flatten 42 5 sQ)++(rowB 110 (r.crs.map Crt.cs).flatten 60 6 sK))))))))),[]⟩ _
    refine jnn (h':=(1,Blk.var [sOpt r.ofs.length sO,sOpt r.pls.length sP,sOpt r.fls.length sF,sOpt r.rls.length sU,sOpt r.hls.length sD,sOpt r.cks.length sC,sOpt r.sls.length sS,sOpt r.pps.length sQ,sOpt r.aps.length sA,sOpt r.crs.length sK,sOpt r.dps.length sM,vi r.chg])::(2,.var zc12)::((rowB 173 (r.aps.map Apv.cs).flatten 51 3 sA)++((rowB 176 (r.dps.map Dep.cs).flatten 105 2 sM)++((rowB 92 (r.rls.map Rul.cs).flatten 120 8 sU)++((rowB 95 (r.hls.map Hld.cs).flatten 122 7 sD)++((rowB 98 (r.cks.map Clk.cs).flatten 56 5 sC)++((rowB 11 (r.ofs.map Ofc.cs).flatten 112 5 sO)++((rowB 14 (r.pls.map Plan.cs).flatten 118 5 sP)++((rowB 17 (r.fls.map Fil.cs).flatten 86 8 sF)++((rowB 104 (r.sls.map Sel.cs).flatten 134 3 sS)++((rowB 107 (r.pps.map Prp.cs).flatten 42 5 sQ)++(rowB 110 (r.crs.map Crt.cs).flatten 60 6 sK)))))))))))) (by simp only[List.append_assoc,List.cons_append]) ?_;have hz:zc12.length=12/\zc12.drop 12=[]/\∀v:List V,zc12.take 0++v++zc12.drop 12=v:=⟨rfl,rfl,fun v=>List.append_nil v⟩;refine runD hz ?_;refine hE ⟨sO,sP,sF,sU,sD,sC,sS,sQ,sA,sK,sM⟩ _ ⟨hO,hP,hF,hU,hD,hC,hS,hQ,hA,hK,hM⟩ ?_;exact jbb [2] [2] rfl rfl rfl (fun id k e=>look_more (by simp[ja3,jcr,look_rowB0]) e) rfl
  · rintro M F0 w0 F ρ st' a w e S ⟨rfl,x,hx,hs⟩;obtain ⟨F',ρ',hs',S',f,h1,h2⟩:=hP x hx M F0 w0 F ρ a w (hs _ _ _ _ _ _ _ S);refine ⟨F',ρ',_,S',_,_,jaw ?_,.refl _,h2⟩
    show (memV hs' 2 0).bind _=_
    unfold memV;rw[h1];rfl
end Go.Arc
set_option maxRecDepth 100000
namespace Go.Arc
open Go.Ab Go.RowKit Go.Proofs
variable {T : Lay}
abbrev vu (n:Int):V:= .val (.int .u64 n)
abbrev wds (l:List Int):List V:=l.map vu
abbrev nus (l:List Int):List V:=l.map vi
theorem jct {l:List Int} {k:Nat} (h:k<l.length):(wds l).drop k=vu (atU l k)::(wds l).drop (k+1):=by
 have h':k<(wds l).length:=by rw[List.length_map]; exact h
 rw[List.drop_eq_getElem_cons h',List.getElem_map,atU,List.getD_eq_getElem?_getD,gge h];rfl
theorem nus_drop {l:List Int} {k:Nat} (h:k<l.length):(nus l).drop k=vi (atU l k)::(nus l).drop (k+1):=by
 have h':k<(nus l).length:=by rw[List.length_map]; exact h
 rw[List.drop_eq_getElem_cons h',List.getElem_map,atU,List.getD_eq_getElem?_getD,gge h];rfl
theorem jqm {l:List Int} {k:Nat} (h:k<l.length) (x:Int):(wds l).take k++[vu x]++(wds l).drop (k+1)=wds (l.set k x):=by
 have e:l.set k x=l.take k++x::l.drop (k+1):=by rw[List.set_eq_take_append_cons_drop,if_pos h]
 rw[e,List.append_assoc];simp only[wds,List.map_append,List.map_cons,List.map_take,List.map_drop,List.singleton_append]
theorem takeN_self:∀cs:List V,jcg cs.length cs=some cs
 | []=>rfl
 | c::cs=>by rw[List.length_cons,jcg,takeN_self cs]; rfl
theorem takeN_len {n:Nat} {cs:List V} (h:cs.length=n):jcg n cs=some cs:=by rw[<- h]; exact takeN_self cs
theorem takeN_app:∀(cs ds:List V),jcg cs.length (cs++ds)=some cs
 | [],_=>rfl
 | c::cs,ds=>by rw[List.length_cons,List.cons_append,jcg,takeN_app cs]; rfl
theorem rot_in:∀i:Nat,i<25->0<=atU rotL i/\atU rotL i<=63:=by decide
theorem and63:∀n:Int,0<=n->n<=63->bitF .and .u64 n 63=n:=by
 intro n h0 h1;have:∀m:Fin 64,bitF .and .u64 ((m.val:Nat):Int) 63=((m.val:Nat):Int):=by decide
 have h2:=this ⟨n.toNat,by omega⟩;simp only[Int.toNat_of_nonneg h0] at h2;exact h2
theorem wrapU:∀n:Int,0<=n->n<=64->IntKind.u64.wrap n=n:=fun n h0 h1=>IntWalk.u64_in n ⟨h0,by omega⟩
theorem den_RotL (x n:Int) (h0:0<=n) (h1:n<=63):Den Tryz.prog T 263 [vu x,vi n] (vu (rotU x n)):=by
 have a:=and63 n h0 h1;have b:=wrapU n h0 (by omega);have c:=wrapU (64-n) (by omega) (by omega);refine ja0 follows (fun args w=>Tryz.call263 args w) Tryz.func263 rfl 17 rfl ?_;refine runW (ai a (ai b c)) ?_;exact fin rfl
theorem den_rotations:Den Tryz.prog T 227 [] (.agg (nus rotL)):=by
 refine ja0 follows (fun args w=>Tryz.call227 args w) Tryz.func227 rfl 2 rfl ?_;refine run ?_;exact finC1 (.refl _)
theorem den_constants:Den Tryz.prog T 228 [] (.agg (wds conL)):=by
 refine ja0 follows (fun args w=>Tryz.call228 args w) Tryz.func228 rfl 2 rfl ?_;refine run ?_;exact finC1 (.refl _)
theorem finCW {P:Program} {x t j n:Nat} {cs:List V} {nm:Option Nat} {kk:Option (TypeId×Nat×Nat)} {st:St} [h0:TAgg P t n] (h1:Ab.look x st.t=some (.p j 0)) (h2:Ab.look j st.h=some (.var cs nm kk)) (h3:cs.length=n):fpost P [.cell x t] (.agg cs) .rt st:=by
 refine .inl ⟨.agg cs,jaw ?_,.refl _⟩;have e:resV P st (.cell x t)=(behind st.h (Ab.look x st.t)).bind (ldV P t):=rfl;rw[e,h1];simp only[behind,memV,h2,List.drop_zero,Option.bind_some,ldV,h0.agg,h0.size,takeN_len h3,Option.map_some]
theorem zdrop:(wds jc5).drop 25=[]/\jc5.length=25:=⟨rfl,rfl⟩
theorem wds_drop25 {l:List Int} (h:l.length=25):(wds l).drop 25=[]:=List.drop_eq_nil_of_le (by rw[List.length_map]; omega)
theorem tk25 {l:List Int} (h:l.length=25):jcg 25 (wds l)=some (wds l):=takeN_len (by rw[List.length_map]; exact h)
theorem ld_word {l:List Int} (h:0<l.length):ldV Tryz.prog 177 (wds l)=some (vu (atU l 0)):=by
 have:=jct h;rw[List.drop_zero] at this;rw[this,jcd]
theorem wds_set0 {l:List Int} (h:0<l.length) (x:Int):vu x::(wds l).drop 1=wds (l.set 0 x):=jqm h x
def bK (a:List Int) (k:Nat):List Int:=layF id posF (fun i=>rotU (wordF a i) (atU rotL i)) k jc5
def oK (b:List Int) (k:Nat):List Int:=layF id id (chiF b) k jc5
theorem bK_succ (a:List Int) (k:Nat):bK a (k+1)=(bK a k).set (posF k) (rotU (wordF a k) (atU rotL k)):=layF_succ _ _ _ _ _
theorem oK_succ (b:List Int) (k:Nat):oK b (k+1)=(oK b k).set k (chiF b k):=layF_succ _ _ _ _ _
theorem bK_len (a:List Int) (k:Nat):(bK a k).length=25:=layF_len _ _ _ _ _
theorem oK_len (b:List Int) (k:Nat):(oK b k).length=25:=layF_len _ _ _ _ _
theorem posF_lt:∀i:Nat,i<25->posF i<25:=by decide
theorem bF_len (a:List Int):(bF a).length=25:=bK_len a 25
theorem outF_len (b:List Int):(outF b).length=25:=oK_len b 25
set_option maxHeartbeats 8000000 in
theorem den_round (a:List Int) (c:Int) (ha:a.length=25):Den Tryz.prog T 229 [.agg (wds a),.agg (nus rotL),vu c] (.agg (wds (jll a c))):=by
 have ta:=tk25 ha;refine ja0 follows (fun args w=>Tryz.call229 args w) Tryz.func229 rfl 118 rfl ?_;refine runW ta ?_
 refine loop ⟨[2,3,4,6,7,18,19],[3,4,6,7],[],[]⟩ (fun k:Nat=>k<=25) (fun k=>25-k)
  (fun k=>⟨118,[(2,.v (vu c)),(3,.p 3 0),(4,.p 4 0),(6,.p 6 0),(7,.p 7 0),(18,.v (.agg (wds a))),(19,.v (vi k))],[(3,.var (wds a)),(4,.var (nus rotL)),(6,.var (wds jc5)),(7,.var (wds (jlg a k)))],[]⟩) 0 (Nat.zero_le _) ?_
 intro k hk;by_cases hlt:k<25
 ·have hs:=sumsF_len a k;have m5:((k:Nat):Int).tmod 5=((k % 5:Nat):Int):=jd5 k 5;have d1:=jct (l:=a) (k:=k) (by omega);have d2:=jct (l:=jlg a k) (k:=k % 5) (by omega)
  have s1:(wds (jlg a k)).take (k % 5)++[vu (bitF .xor .u64 (atU (jlg a k) (k % 5)) (atU a k))]++(wds (jlg a k)).drop (k % 5+1)=wds (jlg a (k+1)):=by
   rw[sumsF_succ];exact jqm (by omega) _
  refine runW (ai m5 (ai d1 (ai d2 s1))) ?_;exact round (k+1) (by omega) (by omega)
 have hk:k=25:=by omega
 subst hk;have hw:∀i,wordF a i=xorU (xorU (atU a i) (atU (jlg a 25) ((i+4) % 5))) (rotU (atU (jlg a 25) ((i+1) % 5)) 1):=fun i=>rfl;have hSl:=sumsF_len a 25;obtain ⟨S,hS⟩:∃S,jlg a 25=S:=⟨_,rfl⟩;simp only[hS] at hw hSl ⊢;refine run ?_
 refine loop ⟨[2,3,4,6,7,10,31],[3,4,6,7,10],[],[]⟩ (fun y:Nat=>y<=5) (fun y=>5-y)
  (fun y=>⟨118,[(2,.v (vu c)),(3,.p 3 0),(4,.p 4 0),(6,.p 6 0),(7,.p 7 0),(10,.p 10 0),(31,.v (vi y))],[(3,.var (wds a)),(4,.var (nus rotL)),(6,.var (wds jc5)),(7,.var (wds S)),(10,.var (wds (bK a (5*y))))],[]⟩) 0 (Nat.zero_le _) ?_
 intro y hy;by_cases hylt:y<5
 ·refine run ?_
  refine loop ⟨[2,3,4,6,7,10,31,11,34],[3,4,6,7,10],[],[]⟩ (fun x:Nat=>x<=5) (fun x=>5-x)
   (fun x=>⟨118,[(2,.v (vu c)),(3,.p 3 0),(4,.p 4 0),(6,.p 6 0),(7,.p 7 0),(10,.p 10 0),(31,.v (vi y)),(11,.v (vi y)),(34,.v (vi x))],[(3,.var (wds a)),(4,.var (nus rotL)),(6,.var (wds jc5)),(7,.var (wds S)),(10,.var (wds (bK a (5*y+x))))],[]⟩) 0 (Nat.zero_le _) ?_
  intro x hx;by_cases hxlt:x<5
  ·have hB:=bK_len a (5*y+x);have hj:=posF_lt (5*y+x) (by omega);have f1:(x:Int)+5*(y:Int)=((5*y+x:Nat):Int):=by omega
   have f2:((x:Int)+4).tmod 5=(((5*y+x+4) % 5:Nat):Int):=by
    rw[show (5*y+x+4) % 5=(x+4) % 5 by omega];exact jd5 (x+4) 5
   have f3:((x:Int)+1).tmod 5=(((5*y+x+1) % 5:Nat):Int):=by
    rw[show (5*y+x+1) % 5=(x+1) % 5 by omega];exact jd5 (x+1) 5
   have f4:(2*(x:Int)+3*(y:Int)).tmod 5=(((2*x+3*y) % 5:Nat):Int):=jd5 (2*x+3*y) 5
   have f5:(y:Int)+5*(((2*x+3*y) % 5:Nat):Int)=((posF (5*y+x):Nat):Int):=by
    have h1:(5*y+x) / 5=y:=by omega
    have h2:(5*y+x) % 5=x:=by omega
    unfold posF;rw[h1,h2];omega
   have d1:=jct (l:=a) (k:=5*y+x) (by omega);have d2:=jct (l:=S) (k:=(5*y+x+4) % 5) (by omega);have d3:=jct (l:=S) (k:=(5*y+x+1) % 5) (by omega);have d4:=nus_drop (l:=rotL) (k:=5*y+x) (by show _<25; omega);have hr:=rot_in (5*y+x) (by omega)
   have s1:(wds (bK a (5*y+x))).take (posF (5*y+x))++[vu (rotU (bitF .xor .u64 (bitF .xor .u64 (atU a (5*y+x)) (atU S ((5*y+x+4) % 5))) (rotU (atU S ((5*y+x+1) % 5)) 1)) (atU rotL (5*y+x)))]++(wds (bK a (5*y+x))).drop (posF (5*y+x)+1)=wds (bK a (5*y+x+1)):=by
    rw[bK_succ,hw];exact jqm (by omega) _
   refine runW (ai f1 (ai f2 (ai f3 (ai d1 (ai d2 d3))))) ?_;refine call (den_RotL (atU S ((5*y+x+1) % 5)) 1 (by decide) (by decide)) ?_;refine runW (ai f4 (ai f5 d4)) ?_;refine call (den_RotL _ _ hr.1 hr.2) ?_;refine runW s1 ?_;exact round (x+1) (by omega) (by omega)
  ·have hx5:x=5:=by omega
   subst hx5;refine run ?_;exact round (y+1) (by omega) (by omega)
 have hy5:y=5:=by omega
 subst hy5;have hBl:=bF_len a;have hBe:bK a (5*5)=bF a:=rfl;have hRe:jll a c=(outF (bF a)).set 0 (bitF .xor .u64 (atU (outF (bF a)) 0) c):=rfl;have hRl:=roundF_len a c;obtain ⟨B,hB⟩:∃B,bF a=B:=⟨_,rfl⟩;simp only[hBe,hB] at hBl hRe ⊢;refine run ?_
 refine loop ⟨[2,6,10,15,74],[6,10,15],[],[]⟩ (fun y:Nat=>y<=5) (fun y=>5-y)
  (fun y=>⟨118,[(2,.v (vu c)),(6,.p 6 0),(10,.p 10 0),(15,.p 15 0),(74,.v (vi y))],[(6,.var (wds jc5)),(10,.var (wds B)),(15,.var (wds (oK B (5*y))))],[]⟩) 0 (Nat.zero_le _) ?_
 intro y hy;by_cases hylt:y<5
 ·refine run ?_
  refine loop ⟨[2,6,10,15,74,16,77],[6,10,15],[],[]⟩ (fun x:Nat=>x<=5) (fun x=>5-x)
   (fun x=>⟨118,[(2,.v (vu c)),(6,.p 6 0),(10,.p 10 0),(15,.p 15 0),(74,.v (vi y)),(16,.v (vi y)),(77,.v (vi x))],[(6,.var (wds jc5)),(10,.var (wds B)),(15,.var (wds (oK B (5*y+x))))],[]⟩) 0 (Nat.zero_le _) ?_
  intro x hx;by_cases hxlt:x<5
  ·have hO:=oK_len B (5*y+x);have f1:(x:Int)+5*(y:Int)=((5*y+x:Nat):Int):=by omega
   have f2:((x:Int)+1).tmod 5=(((x+1) % 5:Nat):Int):=jd5 (x+1) 5;have f3:((x:Int)+2).tmod 5=(((x+2) % 5:Nat):Int):=jd5 (x+2) 5;have f4:(((x+1) % 5:Nat):Int)+5*(y:Int)=(((x+1) % 5+5*y:Nat):Int):=by omega
   have f5:(((x+2) % 5:Nat):Int)+5*(y:Int)=(((x+2) % 5+5*y:Nat):Int):=by omega
   have d1:=jct (l:=B) (k:=5*y+x) (by omega);have d2:=jct (l:=B) (k:=(x+1) % 5+5*y) (by omega);have d3:=jct (l:=B) (k:=(x+2) % 5+5*y) (by omega)
   have s1:(wds (oK B (5*y+x))).take (5*y+x)++[vu (bitF .xor .u64 (atU B (5*y+x)) (bitF .and .u64 (notF .u64 (atU B ((x+1) % 5+5*y))) (atU B ((x+2) % 5+5*y))))]++(wds (oK B (5*y+x))).drop (5*y+x+1)=wds (oK B (5*y+x+1)):=by
    have h1:(5*y+x) / 5=y:=by omega
    have h2:(5*y+x) % 5=x:=by omega
    rw[oK_succ];unfold chiF;rw[h1,h2];exact jqm (by omega) _
   refine runW (ai f1 (ai f2 (ai f3 (ai f4 (ai f5 (ai d1 (ai d2 (ai d3 s1)))))))) ?_;exact round (x+1) (by omega) (by omega)
  ·have hx5:x=5:=by omega
   subst hx5;refine run ?_;exact round (y+1) (by omega) (by omega)
 have hy5:y=5:=by omega
 subst hy5;have hOl:=outF_len B;have hOe:oK B (5*5)=outF B:=rfl;obtain ⟨O,hO⟩:∃O,outF B=O:=⟨_,rfl⟩;simp only[hOe,hO] at hOl hRe ⊢;have e0:=ld_word (l:=O) (by omega);have e1:=wds_set0 (l:=O) (by omega) (bitF .xor .u64 (atU O 0) c);rw[<- hRe] at e1;obtain ⟨R,hR⟩:∃R,jll a c=R:=⟨_,rfl⟩;simp only[hR] at hRl e1 ⊢;refine runW (ai e0 (ai e1 (ai (tk25 hRl) (ai hRl zdrop)))) ?_;refine finCW (P:=Tryz.prog) (x:=6) (t:=178) (j:=6) (cs:=wds R) (nm:=none) (kk:=none) ?_ ?_ ?_
 ·rfl
 ·rfl
 ·rw[List.length_map]; exact hRl
def pK (a:List Int) (k:Nat):List Int:=(conL.take k).foldl jll a
theorem pK_len {a:List Int} (h:a.length=25) (k:Nat):(pK a k).length=25:=jro _ a h
theorem con_at:∀k:Nat,k<24->conL.take (k+1)=conL.take k++[atU conL k]:=by decide
theorem pK_succ (a:List Int) {k:Nat} (h:k<24):pK a (k+1)=jll (pK a k) (atU conL k):=by
 unfold pK;rw[con_at k h,List.foldl_append,List.foldl_cons,List.foldl_nil]
theorem pK_all (a:List Int):pK a 24=permF a:=by rw[permF]; rfl
set_option maxHeartbeats 4000000 in
theorem den_Permute (a:List Int) (ha:a.length=25):Den Tryz.prog T 188 [.agg (wds a)] (.agg (wds (permF a))):=by
 have tr:jcg 25 (nus rotL)=some (nus rotL):=rfl;have hrl:rotL.length=25:=rfl;refine ja0 follows (fun args w=>Tryz.call188 args w) Tryz.func188 rfl 17 rfl ?_;refine run ?_;refine call den_rotations ?_;refine runW hrl ?_;refine call den_constants ?_;refine run ?_
 refine loop ⟨[1,2,3,7,8],[1,2,3],[],[]⟩ (fun k:Nat=>k<=24) (fun k=>24-k)
  (fun k=>⟨17,[(1,.p 1 0),(2,.p 2 0),(3,.p 3 0),(7,.v (.agg (wds conL))),(8,.v (vi k))],[(1,.var (wds (pK a k))),(2,.var (wds jc5)),(3,.var (nus rotL))],[]⟩) 0 (Nat.zero_le _) ?_
 intro k hk;have hl:=pK_len ha k;by_cases hlt:k<24
 ·have hl2:=pK_len ha (k+1);have hc:=jct (l:=conL) (k:=k) hlt;have hR:=den_round (T:=T) (pK a k) (atU conL k) hl;rw[<- pK_succ a hlt] at hR;refine runW (ai hc (ai (tk25 hl) tr)) ?_;refine call hR ?_;refine runW (ai hl2 (wds_drop25 hl)) ?_;exact round (k+1) hlt (by omega)
 ·have hk:k=24:=by omega
  subst hk;simp only[pK_all] at hl ⊢;refine runW (ai (tk25 hl) (ai hl zdrop)) ?_;refine finCW (P:=Tryz.prog) (x:=2) (t:=178) (j:=2) (cs:=wds (permF a)) (nm:=none) (kk:=none) ?_ ?_ ?_
  ·rfl
  ·rfl
  ·rw[List.length_map]; exact hl
theorem byte64 (b:UInt8):IntKind.u64.wrap (b.toNat:Int)=(b.toNat:Int):=IntWalk.u64_in _ ⟨by omega,by have:=UInt8.toNat_lt b; omega⟩
set_option maxHeartbeats 4000000 in
theorem den_block (s:List Int) (d:Str) (hs:s.length=25) (hd:d.length=136):Den Tryz.prog T 119 [.agg (wds s),.str d] (.agg (wds (jdf s d))):=by
 have hfin:permF (eatF s d 136)=jdf s d:=by rw[jdf]
 refine ja0 follows (fun args w=>Tryz.call119 args w) Tryz.func119 rfl 28 rfl ?_;refine run ?_
 refine loop ⟨[1,2,4,7,8],[2,4],[],[]⟩ (fun k:Nat=>k<=136) (fun k=>136-k)
  (fun k=>⟨28,[(1,.v (.str d)),(2,.p 2 0),(4,.p 4 0),(7,.v (vi d.length)),(8,.v (vi k))],[(2,.var (wds (eatF s d k))),(4,.var (wds jc5))],[]⟩) 0 (Nat.zero_le _) ?_
 intro k hk;have hl:(eatF s d k).length=25:=(eatF_len s d k).trans hs;by_cases hlt:k<136
 ·obtain ⟨b,hb,-,-⟩:=ja8 (l:=d) (k:=k) (by omega);have hg:d.getD k 0=b:=by rw[List.getD_eq_getElem?_getD,hb]; rfl
  have q1:((k:Nat):Int).tdiv 8=((k / 8:Nat):Int):=jkm k 8;have q2:((k:Nat):Int).tmod 8=((k % 8:Nat):Int):=jd5 k 8;have d1:=jct (l:=eatF s d k) (k:=k / 8) (by omega)
  have s1:(wds (eatF s d k)).take (k / 8)++[vu (bitF .xor .u64 (atU (eatF s d k) (k / 8)) (shF true .u64 (b.toNat:Int) (8*((k % 8:Nat):Int))))]++(wds (eatF s d k)).drop (k / 8+1)=wds (eatF s d (k+1)):=by
   rw[eatF_succ,hg];exact jqm (by omega) _
  refine runW (ai hb (ai q1 (ai q2 (ai d1 (ai s1 (byte64 b)))))) ?_;exact round (k+1) hlt (by omega)
 ·have hk:k=136:=by omega
  subst hk;have hP:=den_Permute (T:=T) (eatF s d 136) hl;rw[hfin] at hP;have hl2:(jdf s d).length=25:=jlb s d hs;refine runW (tk25 hl) ?_;refine call hP ?_;refine runW (ai hl2 zdrop) ?_;refine finCW (P:=Tryz.prog) (x:=4) (t:=178) (j:=4) (cs:=wds (jdf s d)) (nm:=none) (kk:=none) ?_ ?_ ?_
  ·rfl
  ·rfl
  ·rw[List.length_map]; exact hl2
end Go.Arc
set_option maxRecDepth 100000
namespace Go.Arc
open Go.Ab Go.RowKit Go.Proofs
variable {T : Lay}
def hshC (s:List Int) (r:Str) (n:Int):List V:=wds s++[.str r,vi n]
def NewP (ro:Option Blk) (r:V):Prop:=∃b,ro=some (.var (hshC jc5 [] 0) (some b))/\r= .val (.pointer (some ⟨b,0,none⟩))
theorem opv_nilp (σ:Sto):opv σ (.const (.pointer none))=some (.v (.val (.pointer none))):=rfl
theorem denU_New:DenU Tryz.prog T 56 [] NewP:=by
 refine jat follows (fun args w=>Tryz.call56 args w) Tryz.func56 rfl 3 rfl ?_;refine aw_ptr ?_;refine runW (fun σ=>opv_nilp σ) ?_;refine ⟨0,2,0,rfl,fun b=> ?_⟩;exact ⟨_,_,jaw rfl,.refl _,.inr ⟨2,_,b,rfl,rfl,b,rfl,rfl⟩⟩
structure HshF (s:List Int):Prop where
 d25:∀r n,(hshC s r n).drop 25=[.str r,vi n]
 d26:∀r n,(hshC s r n).drop 26=[vi n]
 d27:∀r n,(hshC s r n).drop 27=[]
 s25:∀r n q,(hshC s r n).take 25++[.str q]++[vi n]=hshC s q n
 s26:∀r n q,(hshC s r n).take 26++[vi q]=hshC s r q
 t25:∀r n,jcg 25 (hshC s r n)=some (wds s)
 ln:∀r n,(hshC s r n).length=27
theorem hsh_f {s:List Int} (h:s.length=25):HshF s:=by
 have hl:(wds s).length=25:=by rw[List.length_map]; exact h
 refine ⟨fun r n=> ?_,fun r n=> ?_,fun r n=> ?_,fun r n q=> ?_,fun r n q=> ?_,fun r n=> ?_,fun r n=> ?_⟩ <;> unfold hshC
 ·rw[<- hl,List.drop_left]
 ·rw[show 26=(wds s).length+1 by omega,List.drop_length_add_append]; rfl
 ·rw[show 27=(wds s).length+2 by omega,List.drop_length_add_append]; rfl
 ·rw[<- hl,List.take_left,List.append_assoc]; rfl
 ·rw[show 26=(wds s).length+1 by omega,List.take_length_add_append,List.append_assoc]; rfl
 ·have:=takeN_app (wds s) [.str r,vi n];rw[hl] at this;exact this
 ·rw[List.length_append,hl]; rfl
theorem absF_short {n:Nat} {s:List Int} {d:Str} (h:d.length<136):absF n s d=(s,d):=by
 cases n with
 | zero=>rfl
 | succ n=>rw[absF,if_neg (by omega)]
theorem absF_step {n:Nat} {s:List Int} {d:Str} (hn:d.length<=n) (h:136<=d.length):∃k,(d.drop 136).length<=k/\absF n s d=absF k (jdf s (d.take 136)) (d.drop 136):=by
 cases n with
 | zero=>omega
 | succ n=>exact ⟨n,by rw[List.length_drop]; omega,by rw[absF,if_pos h]⟩
abbrev gr131c:List Gent:=⟨bz 14 0,14,.one 0 0⟩::⟨bz 14 1,13,.one 1 0⟩::⟨bz 14 3,12,.one 5 0⟩::⟨bz 14 35,11,.alt [(2,1),(6,0)]⟩::⟨bz 14 99,10,.one 7 2⟩::⟨bz 14 39,10,.one 3 0⟩::⟨bz 14 47,9,.alt [(4,2),(6,1)]⟩::⟨bz 14 227,9,.alt [(2,2),(8,3)]⟩::⟨bz 14 111,8,.one 7 5⟩::⟨bz 14 63,8,.alt [(6,2)]⟩::⟨bz 14 231,8,.one 3 3⟩::⟨bz 14 483,8,.alt [(2,1),(9,3)]⟩::⟨bz 14 127,7,.one 7 3⟩::⟨bz 14 487,7,.one 3 4⟩::⟨bz 14 239,7,.alt [(4,1),(8,3)]⟩::⟨bz 14 995,7,.alt [(2,1)]⟩::⟨bz 14 255,6,.alt [(8,2)]⟩::⟨bz 14 999,6,.one 3 2⟩::⟨bz 14 495,6,.alt [(4,0),(9,1)]⟩::⟨bz 14 511,5,.alt [(9,1)]⟩::⟨bz 14 1007,5,.alt [(4,0)]⟩::⟨bz 14 1023,4,.alt [(10,0)]⟩::⟨bz 14 2047,3,.alt [(11,0)]⟩::⟨bz 14 4095,2,.one 12 0⟩::⟨bz 14 8191,1,.alt [(13,0)]⟩::⟨bz 14 16383,0,.fin⟩::[]
set_option maxHeartbeats 4000000 in
theorem denS_Write (s0:List Int) (d:Str) (hs0:s0.length=25) (hd:d.length<=1073741824):
  DenS Tryz.prog T 57 [(999000,.var (hshC s0 [] 0))] [] [.p 999000 0,.v (strs [d])] [(999000,.var (hshC (absF d.length s0 d).1 (absF d.length s0 d).2 (d.length:Int)))] [] (.v (vi d.length)):=by
 have H:=hsh_f hs0;refine jau follows (fun args w=>Tryz.call57 args w) Tryz.func57 rfl 62 rfl rfl ?_;obtain ⟨⟨sE,rE⟩,hE⟩:∃p,absF d.length s0 d=p:=⟨_,rfl⟩;have hEl:sE.length=25:=by have:=jsu d.length s0 d hs0; rw[hE] at this; exact this
 rw[hE];refine run ?_
 refine loop ⟨[0,7,8,9],[999000],[],[]⟩ (fun _:Bool=>True) (fun b=>if b=true then 0 else 1)
  (fun b=>⟨62,[(0,.p 999000 0),(7,.v (strs [d])),(8,.v (vi 1)),(9,.v (vi (if b=true then 1 else 0)))],[(999000,.var (if b=true then hshC sE rE (d.length:Int) else hshC s0 [] 0))],[]⟩) false trivial ?_
 rintro b -;cases b with
 | true=>
  have HE:=hsh_f hEl;simp only[if_true];refine runW HE.d26 ?_;exact jrr (.v (.refl _))
 | false=>
  simp only[Bool.false_eq_true,if_false];have z0:(0:Int)+(d.length:Int)=(d.length:Int):=Int.zero_add _;refine runW (ai H.d25 (ai H.d26 (ai H.d27 (ai H.s25 (ai H.s26 (ai H.ln z0)))))) ?_
  refine loop ⟨[0,7,8,9],[999000],[],[]⟩ (fun y:List Int×Str=>y.1.length=25/\y.2.length<=d.length/\∃n,y.2.length<=n/\absF n y.1 y.2=(sE,rE)) (fun y=>y.2.length)
   (fun y=>⟨62,[(0,.p 999000 0),(7,.v (strs [d])),(8,.v (vi 1)),(9,.v (vi 0))],[(999000,.var (hshC y.1 y.2 (d.length:Int)))],[]⟩) (s0,d) ⟨hs0,Nat.le_refl _,_,Nat.le_refl _,hE⟩ ?_
  rintro ⟨s,r⟩ ⟨hs,hr,n,hn,hA⟩;simp only at hs hr hn hA;have H:=hsh_f hs;by_cases h136:136<=r.length
  ·obtain ⟨k,hk,hst⟩:=absF_step (s:=s) hn h136;have htl:(r.take 136).length=136:=by rw[List.length_take]; omega
   have hB:=den_block (T:=T) s (r.take 136) hs htl;have hBl:=jlb s (r.take 136) hs;have hta:r.take r.length=r:=List.take_length;have H2:=hsh_f hBl;have hmk:∀r1 n1,wds (jdf s (r.take 136))++[V.str r1,vi n1]=hshC (jdf s (r.take 136)) r1 n1:=fun _ _=>rfl;refine runD (ai H.d25 (ai H.d26 H.ln)) ?_;refine jb0 gr131c ?_;refine ji3 (fun _:Unit=>True) ⟨[0,7,8,9],[999000],[],[]⟩ (fun _=>⟨62,[(0,.p 999000 0),(7,.v (strs [d])),(8,.v (vi 1)),(9,.v (vi 0))],[(999000,.var (hshC (jdf s (r.take 136)) r (d.length:Int)))],[]⟩) (fun st st' hk h=>jei _ hk h) ?_ (fun K' hK=> ?_)
   rotate_left
   ·refine ja9 (ai H.d25 (ai H.d26 H.t25)) ?_
    try simp only[and_self,and_self_left,and_self_right,jbc,jbp]
    repeat' (with_reducible refine ai ?_ ?_)
    all_goals
     refine call hB ?_;refine ja9 (ai hBl (ai H.d25 (ai hmk H.ln))) ?_
     try simp only[and_self,and_self_left,and_self_right,jbc,jbp]
     repeat' (with_reducible refine ai ?_ ?_)
     all_goals exact leafK hK () trivial
   intro _ _;refine runW (ai H2.d25 (ai H2.d26 (ai H2.s25 (ai H2.ln hta)))) ?_;exact round (jdf s (r.take 136),r.drop 136) ⟨hBl,by simp only[List.length_drop]; omega,k,hk,by rw[<- hst]; exact hA⟩ (by simp only[List.length_drop]; omega)
  ·rw[absF_short (by omega)] at hA;cases hA;refine runW (ai H.d25 H.d26) ?_;refine round true trivial (by decide) ?_;simp only[if_true];rfl
abbrev gr131a:List Gent:=⟨bz 15 0,15,.one 0 0⟩::⟨bz 15 1,14,.one 5 0⟩::⟨bz 15 33,13,.alt [(1,0),(6,1)]⟩::⟨bz 15 35,12,.one 2 1⟩::⟨bz 15 97,12,.one 7 1⟩::⟨bz 15 39,11,.alt [(3,3),(6,1)]⟩::⟨bz 15 225,11,.alt [(1,1),(8,3)]⟩::⟨bz 15 103,10,.one 7 6⟩::⟨bz 15 227,10,.one 2 5⟩::⟨bz 15 47,10,.alt [(4,2),(6,1)]⟩::⟨bz 15 481,10,.alt [(1,2),(9,4)]⟩::⟨bz 15 111,9,.one 7 6⟩::⟨bz 15 63,9,.alt [(6,4)]⟩::⟨bz 15 483,9,.one 2 6⟩::⟨bz 15 231,9,.alt [(3,3),(8,5)]⟩::⟨bz 15 993,9,.alt [(1,0),(10,3)]⟩::⟨bz 15 995,8,.one 2 7⟩::⟨bz 15 127,8,.one 7 4⟩::⟨bz 15 239,8,.alt [(4,3),(8,2)]⟩::⟨bz 15 2017,8,.alt [(1,3),(11,5)]⟩::⟨bz 15 487,8,.alt [(3,0),(9,3)]⟩::⟨bz 15 495,7,.alt [(4,5),(9,7)]⟩::⟨bz 15 255,7,.alt [(8,4)]⟩::⟨bz 15 2019,7,.one 2 2⟩::⟨bz 15 999,7,.alt [(3,4),(10,1)]⟩::⟨bz 15 4065,7,.alt [(1,2)]⟩::⟨bz 15 2023,6,.alt [(3,5),(11,4)]⟩::⟨bz 15 511,6,.alt [(9,2)]⟩::⟨bz 15 4067,6,.one 2 2⟩::⟨bz 15 1007,6,.alt [(4,0),(10,2)]⟩::⟨bz 15 1023,5,.alt [(10,2)]⟩::⟨bz 15 4071,5,.alt [(3,2)]⟩::⟨bz 15 2031,5,.alt [(4,0),(11,1)]⟩::⟨bz 15 2047,4,.alt [(11,1)]⟩::⟨bz 15 4079,4,.alt [(4,0)]⟩::⟨bz 15 4095,3,.alt [(12,0)]⟩::⟨bz 15 8191,2,.alt [(13,0)]⟩::⟨bz 15 16383,1,.alt [(14,0)]⟩::⟨bz 15 32767,0,.fin⟩::[]
abbrev gr131b:List Gent:=⟨bz 9 0,9,.one 0 0⟩::⟨bz 9 1,8,.one 4 0⟩::⟨bz 9 17,7,.alt [(1,1),(5,2),(7,0)]⟩::⟨bz 9 145,6,.alt [(1,5),(5,4)]⟩::⟨bz 9 19,6,.one 2 2⟩::⟨bz 9 49,6,.alt [(1,0),(7,2)]⟩::⟨bz 9 51,5,.one 2 5⟩::⟨bz 9 23,5,.alt [(3,2),(5,4),(7,3)]⟩::⟨bz 9 177,5,.alt [(1,4)]⟩::⟨bz 9 147,5,.one 2 1⟩::⟨bz 9 31,4,.alt [(5,5),(7,3)]⟩::⟨bz 9 151,4,.alt [(3,2),(5,3)]⟩::⟨bz 9 55,4,.alt [(3,3),(7,2)]⟩::⟨bz 9 179,4,.one 2 1⟩::⟨bz 9 159,3,.alt [(5,3)]⟩::⟨bz 9 183,3,.alt [(3,2)]⟩::⟨bz 9 63,3,.alt [(6,0),(7,1)]⟩::⟨bz 9 127,2,.alt [(7,1)]⟩::⟨bz 9 191,2,.alt [(6,0)]⟩::⟨bz 9 255,1,.alt [(8,0)]⟩::⟨bz 9 511,0,.fin⟩::[]
theorem or128:∀n:Fin 256,(((UInt8.ofNat (bitF .or .u8 ((n.val:Nat):Int) 128).toNat).toNat:Nat):Int)=bitF .or .u8 ((n.val:Nat):Int) 128:=by decide
theorem orB_val (b:UInt8):((orB b).toNat:Int)=bitF .or .u8 (b.toNat:Int) 128:=or128 ⟨b.toNat,UInt8.toNat_lt b⟩
abbrev vb8 (n:Int):V:= .val (.int .u8 n)
theorem bcs_drop {l:Str} {k:Nat} {b:UInt8} (h:l[k]? = some b):(jc4 l).drop k=vb8 b.toNat::(jc4 l).drop (k+1):=by
 obtain ⟨hlt,rfl⟩:=List.getElem?_eq_some_iff.1 h;unfold jc4;rw[<- List.map_drop,<- List.map_drop,List.drop_eq_getElem_cons hlt,List.map_cons]
theorem bcs_set {l:Str} {k:Nat} (h:k<l.length) (x:UInt8):(jc4 l).take k++[vb8 x.toNat]++(jc4 l).drop (k+1)=jc4 (l.set k x):=by
 have e:l.set k x=l.take k++x::l.drop (k+1):=by rw[List.set_eq_take_append_cons_drop,if_pos h]
 rw[e,List.append_assoc];simp only[jc4,List.map_append,List.map_cons,List.map_take,List.map_drop,List.singleton_append]
theorem byL_cs:∀l:Str,byL (jc4 l)=some l
 | []=>rfl
 | b::l=>by
  have ih:=byL_cs l;unfold jc4 at ih ⊢;rw[List.map_cons,byL,ih,Option.map_some,Int.toNat_natCast,UInt8.ofNat_toNat]
theorem wrap8_nn (x:Int):0<=IntKind.u8.wrap x/\IntKind.u8.wrap x<=255:=by
 unfold IntKind.wrap;simp[IntKind.signed,IntKind.bits];omega
theorem byte_back (x:Int):(((UInt8.ofNat (IntKind.u8.wrap x).toNat).toNat:Nat):Int)=IntKind.u8.wrap x:=by
 have:=wrap8_nn x;rw[UInt8.toNat_ofNat_of_lt' (by show _<256; omega)];omega
theorem digF_succ (s:List Int) (k:Nat):digF s (k+1)=digF s k++[UInt8.ofNat (IntKind.wrap .u8 (shF false .u64 (atU s (k / 8)) (8*((k % 8:Nat):Int)))).toNat]:=by
 unfold digF;rw[List.range_succ,List.map_append];rfl
abbrev Cby (b:UInt8):List V:=[vb8 b.toNat]
abbrev bys (l:Str):V:= .slice 1 (l.map Cby)
theorem bys_flat:∀l:Str,(l.map Cby).flatten=jc4 l
 | []=>rfl
 | b::l=>by
  have ih:=bys_flat l;unfold jc4 at ih ⊢;rw[List.map_cons,List.flatten_cons,ih];rfl
set_option maxHeartbeats 8000000 in
theorem denS_HashSum (L:LibT T) (s:List Int) (d:Str) (n:Int) (hs:s.length=25) (hd:d.length<136):
  DenS Tryz.prog T 58 [(999000,.var (hshC s d n))] [] [.p 999000 0] [(999000,.var (hshC s d n))] [] (.v (.str (digF (jdf s (padF d)) 32))):=by
 have H:=hsh_f hs;have hR:=jrc L (135-d.length) (by omega);have hc:((135-d.length:Nat):Int)=135-(d.length:Int):=by omega
 rw[hc] at hR;obtain ⟨Lst,hL⟩:∃l,d++[6]++List.replicate (135-d.length) 0=l:=⟨_,rfl⟩;have hLl:Lst.length=136:=by rw[<- hL]; simp; omega
 have hcat:((d++[(6:UInt8)]).length+(List.replicate (135-d.length) (0:UInt8)).length<=9223372036854775807)=True:=eq_true (by simp; omega);have hpad:markL Lst=padF d:=by rw[<- hL]; unfold padF; simp
 have hPl:=padF_len d hd;have hB:=den_block (T:=T) s (padF d) hs hPl;have hBl:=jlb s (padF d) hs;obtain ⟨q,hq⟩:∃q,jdf s (padF d)=q:=⟨_,rfl⟩;rw[hq] at hB hBl ⊢;obtain ⟨x,hx,-,-⟩:=ja8 (l:=Lst) (k:=135) (by omega);have hd1:=bcs_drop hx
 have hst:(jc4 Lst).take 135++[vb8 (bitF .or .u8 (x.toNat:Int) 128)]++(jc4 Lst).drop 136=jc4 (padF d):=by
  rw[<- hpad,<- orB_val]
  have h1:markL Lst=Lst.set 135 (orB x):=by
   unfold markL;rw[hLl];simp only[List.getD_eq_getElem?_getD,hx];rfl
  rw[h1];exact bcs_set (by omega) _
 obtain ⟨P,hP⟩:∃P,padF d=P:=⟨_,rfl⟩;rw[hP] at hst hPl hB;have hby:=byL_cs P;have htk:(jc4 P).take 136=jc4 P:=List.take_of_length_le (by rw[jl9]; omega);have hbl:(jc4 P).length=136:=by rw[jl9]; exact hPl
 refine jau follows (fun args w=>Tryz.call58 args w) Tryz.func58 rfl 51 rfl rfl ?_;refine runD trivial ?_;refine jb0 gr131a ?_;refine ji3 (fun y:Nat×Nat=>136<=y.2/\y.2<=maxLen) ⟨[0,3],[999000,20],[],[]⟩ (fun y=>⟨51,[(0,.p 999000 0),(3,.v (.val (.slice (some ⟨y.1,0,none⟩) 136 y.2)))],[(999000,.var (hshC s d n)),(20,.var (jc4 Lst) (some y.1) (some (5,1,y.2)))],[]⟩) (fun st st' hk h=>jei _ hk h) ?_ (fun K' hK=> ?_)
 rotate_left
 ·refine ja9 H.d25 ?_
  try simp only[and_self_left]
  repeat' (with_reducible refine ai ?_ ?_)
  all_goals
   refine call hR ?_;refine ja9 (ai H.d25 (ai hL hcat)) ?_
   try simp only[and_self,and_self_left,and_self_right,jbc,jbp]
   repeat' (with_reducible refine ai ?_ ?_)
   all_goals
    unfold bytK;intro r cap hnm h1 h2;rw[hLl] at h1 ⊢;refine ja9 trivial ?_;exact leafK hK (r,cap) ⟨h1,h2⟩
 rintro ⟨r,cap⟩ ⟨hc1,hc2⟩;simp only;have hLb:(jc4 Lst).length=136:=by rw[jl9]; exact hLl
 refine runD (ai hd1 (ai hst hLb)) ?_;refine jb0 gr131b ?_;refine ji3 (fun _:Unit=>True) ⟨[0,4],[999000,4],[],[]⟩ (fun _=>⟨51,[(0,.p 999000 0),(4,.p 4 0)],[(999000,.var (hshC s d n)),(4,.var (wds q))],[]⟩) (fun st st' hk h=>jei _ hk h) ?_ (fun K' hK=> ?_)
 rotate_left
 ·refine ja9 (ai H.t25 (ai hbl (ai htk hby))) ?_
  try simp only[and_self,and_self_right]
  repeat' (with_reducible refine ai ?_ ?_)
  all_goals
   refine call hB ?_;refine ja9 (ai hBl zdrop) ?_
   try simp only[and_self,and_self_left,and_self_right,jbc,jbp]
   repeat' (with_reducible refine ai ?_ ?_)
   all_goals exact leafK hK () trivial
 intro _ _;refine run ?_
 refine loop ⟨[0,4,5,33],[999000,4],[5],[(5,5,1)]⟩ (fun k:Nat=>k<=32) (fun k=>32-k)
  (fun k=>⟨51,[(0,.p 999000 0),(4,.p 4 0),(5,.v (bys (digF q k))),(33,.v (vi k))],[(999000,.var (hshC s d n)),(4,.var (wds q))],[(5,[5])]⟩) 0 (Nat.zero_le _) ?_
 intro k hk;by_cases hlt:k<32
 ·have q1:((k:Nat):Int).tdiv 8=((k / 8:Nat):Int):=jkm k 8;have q2:((k:Nat):Int).tmod 8=((k % 8:Nat):Int):=jd5 k 8;have d1:=jct (l:=q) (k:=k / 8) (by omega)
  have hap:(digF q k).map Cby++[[vb8 (IntKind.u8.wrap (shF false .u64 (atU q (k / 8)) (8*((k % 8:Nat):Int))))]]=(digF q (k+1)).map Cby:=by
   rw[digF_succ,List.map_append,List.map_singleton];simp only[Cby,vb8,byte_back]
  have hdl:(digF q k).length=k:=by unfold digF; rw[List.length_map,List.length_range]
  refine runW (ai q1 (ai q2 (ai d1 hap))) ?_;exact round (k+1) hlt (by omega)
 ·have hk:k=32:=by omega
  subst hk;have hby:=byL_cs (digF q 32);rw[<- bys_flat] at hby;refine runW hby ?_;exact jrr (.v (.refl _))
theorem jnf (L:LibT T) (d:Str) (hd:d.length<=1073741824):Den Tryz.prog T 22 [.str d] (.str (sumD d)):=by
 have hz:jc5.length=25:=rfl;have hW:=denS_Write (T:=T) jc5 d hz hd;have h1:=absF_len d.length jc5 d (Nat.le_refl _);have h2:=jsu d.length jc5 d hz;have hS:=denS_HashSum L (absF d.length jc5 d).1 (absF d.length jc5 d).2 (d.length:Int) h2 h1;have he:digF (jdf (absF d.length jc5 d).1 (padF (absF d.length jc5 d).2)) 32=sumD d:=rfl;rw[he] at hS;obtain ⟨⟨s,r⟩,hp⟩:∃p,absF d.length jc5 d=p:=⟨_,rfl⟩;rw[hp] at hW hS;refine ja0 follows (fun args w=>Tryz.call22 args w) Tryz.func22 rfl 11 rfl ?_;refine run ?_;refine jq3 (callU 4 denU_New ?_ ?_)
 ·rintro r ⟨b,h,-⟩;cases h
 rintro k v ⟨b,hk,rfl⟩ hnm;cases hk;refine run ?_;refine jq3 (callS [(999000,4)] hW (.cons (.pn rfl rfl) (.cons (.v _) .nil)) ?_ ?_)
 ·intro y hy;simp only[List.mem_singleton] at hy;subst hy;exact ⟨4,_,rfl,rfl,rfl,.inl rfl,rfl⟩
 refine run ?_;refine jq3 (callS [(999000,4)] hS (.cons (.pn rfl rfl) .nil) ?_ ?_)
 ·intro y hy;simp only[List.mem_singleton] at hy;subst hy;exact ⟨4,_,rfl,rfl,rfl,.inl rfl,rfl⟩
 refine run ?_;exact fin rfl
end Go.Arc
set_option maxRecDepth 100000
namespace Go.Arc
open Go.Ab Go.RowKit Go.Proofs
variable {T : Lay}
theorem jb2 (n a b:Int):Den Tryz.prog T 40 [vi n,vi a,vi b] (vb (decide (a<=n) && decide (n<=b))):=by
 refine ja0 follows (fun args w=>Tryz.call40 args w) Tryz.func40 rfl 15 rfl ?_;by_cases h1:a<=n <;> by_cases h2:n<=b <;> (refine run ?_; refine fin (jad ?_); simp; try omega)
theorem idB_and (n:Int):(decide (1<=n) && decide (n<=1073741824))=idB n:=by unfold idB; simp
theorem jbv (n:Int):Den Tryz.prog T 74 [vi n] (vb (idB n)):=by
 rw[<- idB_and];refine ja0 follows (fun args w=>Tryz.call74 args w) Tryz.func74 rfl 5 rfl ?_;refine run ?_;refine call (jb2 n 1 1073741824) ?_;refine run ?_;exact fin rfl
theorem jog (n:Int):Den Tryz.prog T 27 [vi n] (vb (dayG n)):=by
 refine ja0 follows (fun args w=>Tryz.call27 args w) Tryz.func27 rfl 5 rfl ?_;refine run ?_;refine call (jb2 n 0 1048575) ?_;refine run ?_;exact fin rfl
theorem js1 (l:List Int) (hl:l.length<=1048576):Den Tryz.prog T 82 [ints l] (vb (risI l)):=by
 refine ja0 follows (fun args w=>Tryz.call82 args w) Tryz.func82 rfl 21 rfl ?_;refine run ?_
 refine loop ⟨[0,6,7],[],[],[]⟩ (fun k:Nat=>k<=l.length/\∀j,j<k->∀x y,l[j]? = some x->l[j+1]? = some y->x<y) (fun k=>l.length-k)
  (fun k=>⟨21,[(0,.v (ints l)),(6,.v (vi ((l.length:Int)-1))),(7,.v (vi k))],[],[]⟩) 0 ⟨Nat.zero_le _,fun j hj=>absurd hj (Nat.not_lt_zero j)⟩ ?_
 rintro k ⟨hk,hall⟩;by_cases hlt:k+1<l.length
 ·obtain ⟨x,hx,-,-⟩:=ja8 (l:=l) (k:=k) (by omega);obtain ⟨y,hy,-,-⟩:=ja8 (l:=l) (k:=k+1) hlt;by_cases hxy:x<y
  ·refine runW (ai hx hy) ?_;refine round (k+1) ⟨by omega,fun j hj u v hu hv=> ?_⟩ (by omega);rcases Nat.lt_or_ge j k with h | h
   ·exact hall j h u v hu hv
   ·have:j=k:=by omega
    subst this;rw[hx] at hu; rw[hy] at hv;cases hu; cases hv;exact hxy
  ·refine runW (ai hx hy) ?_;refine fin (jad ?_)
   symm
   rw[Bool.eq_false_iff];intro h;exact hxy ((jmp l).1 h k x y hx hy)
 ·refine run ?_;refine fin (jad ?_)
  symm
  rw[jmp];intro j x y hx hy;have:=(List.getElem?_eq_some_iff.1 hy).1;exact hall j (by omega) x y hx hy
def dig7 (c:Crt):List Str:=[[99,101,114,116,105,102,105,99,97,116,101],decS c.num,[112,114,111,112,111,115,97,108],decS c.prp,[100,97,121],decS c.day,[102,105,108,101,115]]
theorem jqr {α:Type} {l:List α} {k:Nat} {x:α} (h:l[k]? = some x):l.take (k+1)=l.take k++[x]:=by
 obtain ⟨hlt,rfl⟩:=List.getElem?_eq_some_iff.1 h;rw[List.take_succ_eq_append_getElem hlt]
theorem join_snoc:∀(l:List Str) (x sep:Str),l≠[]->Lib.join (l++[x]) sep=Lib.join l sep++sep++x
 | [],_,_,h=>absurd rfl h
 | [a],x,sep,_=>by simp[Lib.join,List.intercalate]
 | a::b::r,x,sep,_=>by
  have ih:=join_snoc (b::r) x sep (List.cons_ne_nil _ _);simp only[Lib.join,List.intercalate,List.cons_append,List.intersperse_cons_cons,List.flatten_cons] at ih ⊢;rw[ih];simp only[List.append_assoc]
theorem join_fls (l:List Str) (hl:l≠[]):∀fs:List Int,Lib.join (l++fs.map decS) [32]=Lib.join l [32]++flsT fs:=by
 intro fs
 induction fs generalizing l with
 | nil=>simp[flsT]
 | cons f fs ih=>
  have:=ih (l++[decS f]) (by simp);rw[List.map_cons,show l++decS f::fs.map decS=l++[decS f]++fs.map decS by simp,this,join_snoc l (decS f) [32] hl];simp[flsT]
theorem join_dig (c:Crt):Lib.join (dig7 c++c.fls.map decS) [32]++[10]++c.bef=crtT c:=by
 rw[join_fls _ (by simp[dig7])];unfold crtT dig7 xCert jqk xDayS xFiles;simp[Lib.join,List.intercalate,List.intersperse]
structure CrtOk (c:Crt):Prop where
 num:idB c.num=true
 prp:idB c.prp=true
 day:dayG c.day=true
 ne:1<=c.fls.length
 le:c.fls.length<=256
 ris:risI c.fls=true
 ids:c.fls.all idB=true
 bef:c.bef.length=32
theorem jqi (c:Crt):crtB c=true↔CrtOk c:=by
 unfold crtB;simp only[Bool.and_eq_true,decide_eq_true_eq];constructor
 ·rintro ⟨⟨⟨⟨⟨⟨⟨a,b⟩,d⟩,e⟩,f⟩,g⟩,h⟩,i⟩;exact ⟨a,b,d,e,f,g,h,i⟩
 ·rintro ⟨a,b,d,e,f,g,h,i⟩;exact ⟨⟨⟨⟨⟨⟨⟨a,b⟩,d⟩,e⟩,f⟩,g⟩,h⟩,i⟩
abbrev digV (c:Crt):V:= .tup [.str (digR c).1,vi (digR c).2]
theorem ji6 {c:Crt} (h:¬CrtOk c):digV c= .tup [.str [],vi 1]:=by
 have:¬crtB c=true:=fun e=>h ((jqi c).1 e);unfold digV digR;rw[if_neg this]
theorem digV_ok {c:Crt} (h:CrtOk c):digV c= .tup [.str (sumD (crtT c)),vi 0]:=by
 unfold digV digR;rw[if_pos ((jqi c).2 h)]
theorem jpe {n:Int} (h:idB n=true):1<=n/\n<=1073741824:=by unfold idB at h; exact of_decide_eq_true h
theorem dayG_in {n:Int} (h:dayG n=true):0<=n/\n<=1048575:=by unfold dayG at h; simpa using h
theorem decN_lenD {n:Nat} (h:n<10000000000):(Lib.decDigits n).length<=10:=by
 rw[Lib.decDigits_length];refine Nat.le_of_not_lt fun hlt=> ?_
 have key:∀(k u:Nat),u<10 ^ (k+1)->Lib.nDigits u<=k+1:=by
  intro k
  induction k with
  | zero=>intro u hu; rw[Lib.nDigits_small (by simpa using hu)]; exact Nat.le_refl _
  | succ k ih=>
   intro u hu;by_cases h10:u<10
   ·rw[Lib.nDigits_small h10]; omega
   ·rw[Lib.nDigits_big h10];have:=ih (u / 10) (by rw[Nat.pow_succ] at hu; omega);omega
 exact absurd (key 9 n h) (by omega)
theorem jnh {n:Int} (h:0<=n/\n<=1073741824):(decS n).length<=10:=by
 rw[decS_nn (by omega)];exact decN_lenD (by omega)
theorem flat_le {m:Nat} : ∀ {l:List Str},(∀p∈l,p.length<=m)->l.flatten.length<=l.length*m
 | [],_=>by simp
 | p::l,h=>by
  have h1:=h p List.mem_cons_self;have h2:=flat_le (l:=l) fun q hq=>h q (List.mem_cons_of_mem _ hq);simp only[List.flatten_cons,List.length_append,List.length_cons,Nat.add_mul];omega
theorem crtT_len {c:Crt} (h:CrtOk c):(crtT c).length<=10000:=by
 have h1:=jnh (n:=c.num) (by have:=jpe h.num; omega);have h2:=jnh (n:=c.prp) (by have:=jpe h.prp; omega);have h3:=jnh (n:=c.day) (by have:=dayG_in h.day; omega)
 have h4:(flsT c.fls).length<=256*11:=by
  have:(flsT c.fls).length<=(c.fls.map fun f=>32::decS f).length*11:=flat_le fun p hp=>by
   obtain ⟨f,hf,rfl⟩:=List.mem_map.1 hp;have:=jnh (n:=f) (by have:=jpe (List.all_eq_true.1 h.ids f hf); omega);simp only[List.length_cons];omega
  rw[List.length_map] at this;have:=h.le;omega
 have h5:=h.bef;unfold crtT xCert jqk xDayS xFiles;simp only[List.length_append,List.length_cons,List.length_nil];omega
abbrev gr132:List Gent:=⟨bz 11 0,11,.one 0 0⟩::⟨bz 11 1,10,.one 3 0⟩::⟨bz 11 9,9,.one 6 0⟩::⟨bz 11 73,8,.alt [(1,1),(4,0),(7,2)]⟩::⟨bz 11 89,7,.alt [(1,5),(7,4)]⟩::⟨bz 11 75,7,.alt [(2,2),(4,4),(7,1)]⟩::⟨bz 11 201,7,.alt [(1,0),(4,2)]⟩::⟨bz 11 203,6,.alt [(2,5),(4,4)]⟩::⟨bz 11 79,6,.alt [(4,2),(7,4)]⟩::⟨bz 11 217,6,.alt [(1,2)]⟩::⟨bz 11 91,6,.alt [(2,0),(7,1)]⟩::⟨bz 11 95,5,.alt [(5,2),(7,3)]⟩::⟨bz 11 219,5,.alt [(2,2)]⟩::⟨bz 11 207,5,.alt [(4,1)]⟩::⟨bz 11 127,4,.alt [(7,1)]⟩::⟨bz 11 223,4,.alt [(5,0)]⟩::⟨bz 11 255,3,.alt [(8,0)]⟩::⟨bz 11 511,2,.alt [(9,0)]⟩::⟨bz 11 1023,1,.alt [(10,0)]⟩::⟨bz 11 2047,0,.fin⟩::[]
theorem nth_first {l:List Int} (h:1<=l.length):∃a,l[0]? = some a:=⟨_,gge (by omega)⟩
set_option maxHeartbeats 8000000 in
theorem jsd (L:LibT T) (c:Crt) (hf:c.fls.length<=1048576) (_hb:c.bef.length<=1048576):Den Tryz.prog T 54 [.agg c.cs] (digV c):=by
 refine ja0 follows (fun args w=>Tryz.call54 args w) Tryz.func54 rfl 90 rfl ?_;refine run ?_;refine call (jbv c.num) ?_;cases h1:idB c.num
 ·rw[ji6 fun h=>by have:=h.num; rw[h1] at this; cases this];refine run ?_;exact fin rfl
 refine run ?_;refine call (jbv c.prp) ?_;cases h2:idB c.prp
 ·rw[ji6 fun h=>by have:=h.prp; rw[h2] at this; cases this];refine run ?_;exact fin rfl
 refine run ?_;refine call (jog c.day) ?_;cases h3:dayG c.day
 ·rw[ji6 fun h=>by have:=h.day; rw[h3] at this; cases this];refine run ?_;exact fin rfl
 refine run ?_;refine call (jb2 (c.fls.length:Int) 1 256) ?_;cases h4:(decide ((1:Int)<=(c.fls.length:Int)) && decide ((c.fls.length:Int)<=256))
 ·rw[ji6 fun h=>by
   have e1:=h.ne;have e2:=h.le;simp at h4
   omega]
  refine run ?_;exact fin rfl
 have h4:1<=c.fls.length/\c.fls.length<=256:=by simp at h4; omega
 refine run ?_;refine call (js1 c.fls hf) ?_;cases h5:risI c.fls
 ·rw[ji6 fun h=>by have:=h.ris; rw[h5] at this; cases this];refine run ?_;exact fin rfl
 obtain ⟨a,ha⟩:=nth_first h4.1;obtain ⟨b,hbl⟩:∃b,c.fls[c.fls.length-1]? = some b:=⟨_,gge (by omega)⟩;have hids:=rise_idB h5 ha hbl;have ein:((c.fls.length:Int)-1).toNat=c.fls.length-1:=by omega
 have nn:(0:Int)<=(c.fls.length:Int)-1:=by omega
 have el:(c.fls.map Cint)[c.fls.length-1]? = some [vi b]:=by rw[List.getElem?_map,hbl]; rfl
 have e0:(c.fls.map Cint)[0]? = some [vi a]:=by rw[List.getElem?_map,ha]; rfl
 by_cases h6:a<1
 ·rw[ji6 fun h=>by
   have:=h.ids;rw[hids] at this;simp at this
   omega]
  refine runW (ai ha e0) ?_;exact fin rfl
 by_cases h7:1073741824<b
 ·rw[ji6 fun h=>by
   have:=h.ids;rw[hids] at this;simp at this
   omega]
  refine runW (ai ha (ai e0 (ai hbl (ai ein el)))) ?_;exact fin rfl
 by_cases h8:c.bef.length=32
 case neg=>
  rw[ji6 fun h=>h8 h.bef];refine runW (ai ha (ai e0 (ai hbl (ai ein el)))) ?_;exact fin rfl
 have hok:CrtOk c:=⟨h1,h2,h3,h4.1,h4.2,h5,by rw[hids]; simp; omega,h8⟩;rw[digV_ok hok];have i1:=jmv L c.num (by have:=jpe h1; omega) (by have:=jpe h1; omega);have i2:=jmv L c.prp (by have:=jpe h2; omega) (by have:=jpe h2; omega);have i3:=jmv L c.day (by have:=dayG_in h3; omega) (by have:=dayG_in h3; omega)
 have i4:∀f∈c.fls,Den Tryz.prog T 117 [vi f] (.str (decS f)):=fun f hfm=>by
  have:=jpe (List.all_eq_true.1 hok.ids f hfm);exact jmv L f (by omega) (by omega)
 have hjd:=join_dig c;have hlen:=crtT_len hok
 have hjl:(Lib.join (dig7 c++c.fls.map decS) [32]).length<=10000:=by
  have:=congrArg List.length hjd;simp only[List.length_append] at this;omega
 have hJ:=lib_join L (dig7 c++c.fls.map decS) [32] (by simp[dig7]; omega) (by omega);have hS:=jnf L (crtT c) (by omega);have hd7:dig7 c=[[99,101,114,116,105,102,105,99,97,116,101],decS c.num,[112,114,111,112,111,115,97,108],decS c.prp,[100,97,121],decS c.day,[102,105,108,101,115]]:=rfl;have hd7l:(dig7 c).length=7:=rfl;obtain ⟨n1,hn1⟩:∃n,decS c.num=n:=⟨_,rfl⟩;obtain ⟨n2,hn2⟩:∃n,decS c.prp=n:=⟨_,rfl⟩;obtain ⟨n3,hn3⟩:∃n,decS c.day=n:=⟨_,rfl⟩;simp only[hn1,hn2,hn3] at i1 i2 i3 hd7;obtain ⟨D,hD⟩:∃D,dig7 c=D:=⟨_,rfl⟩;rw[hD] at hd7 hJ hjd hjl hd7l;have hcst:(.slice 1 [Cst [99,101,114,116,105,102,105,99,97,116,101],Cst n1,Cst [112,114,111,112,111,115,97,108],Cst n2,Cst [100,97,121],Cst n3,Cst [102,105,108,101,115]]:V)=strs D:=by rw[hd7]; rfl
 refine runD (ai ha (ai e0 (ai hbl (ai ein el)))) ?_;refine jb0 gr132 ?_;refine ji3 (fun _:Unit=>True) ⟨[1,4],[1],[4],[]⟩ (fun _=>⟨90,[(1,.p 1 0),(4,.v (strs D))],[(1,.var c.cs)],[(9,[4])]⟩) (fun st st' hk h=>jei _ hk h) ?_ (fun K' hK=> ?_)
 rotate_left
 ·refine ja9 trivial ?_
  try simp only[and_self_right]
  repeat' (with_reducible refine ai ?_ ?_)
  all_goals
   refine call i1 ?_;refine ja9 trivial ?_
   try simp only[and_self_right]
   repeat' (with_reducible refine ai ?_ ?_)
   all_goals
    refine call i2 ?_;refine ja9 trivial ?_
    try simp only[and_self,and_self_left,and_self_right,jbc,jbp]
    repeat' (with_reducible refine ai ?_ ?_)
    all_goals
     refine call i3 ?_;refine ja9 trivial ?_
     try simp only[and_self,and_self_left,and_self_right,jbc,jbp]
     repeat' (with_reducible refine ai ?_ ?_)
     all_goals
      refine leafK hK () trivial ?_;rw[<- hcst];rfl
 intro _ _;refine run ?_
 refine loop ⟨[1,4,71,72,73],[1],[4],[]⟩ (fun k:Nat=>k<=c.fls.length) (fun k=>c.fls.length-k)
  (fun k=>⟨90,[(1,.p 1 0),(4,.v (strs (D++(c.fls.take k).map decS))),(71,.v (ints c.fls)),(72,.v (vi c.fls.length)),(73,.v (vi k))],[(1,.var c.cs)],[(9,[4])]⟩) 0 (Nat.zero_le _) ?_ ?_
 ·intro k hk;by_cases hlt:k<c.fls.length
  ·obtain ⟨f,hfx,-,hfm⟩:=ja8 hlt
   have hap:(D++(c.fls.take k).map decS).map Cst++[[V.str (decS f)]]=(D++(c.fls.take (k+1)).map decS).map Cst:=by
    rw[jqr hfx];simp
   have hle:(D++(c.fls.take k).map decS).length<=300:=by rw[List.length_append,List.length_map,List.length_take]; omega
   refine runW hfx ?_;refine call (i4 f hfm) ?_;refine runW (ai hap hle) ?_;exact round (k+1) hlt (by omega)
  ·have hk:k=c.fls.length:=by omega
   subst hk;rw[List.take_length];refine run ?_;refine call hJ ?_;refine runW hjd ?_;refine call hS ?_;refine run ?_;exact fin rfl
 ·simp only[List.take_zero,List.map_nil,List.append_nil];rfl
theorem js9 (L:LibT T) (l:List Crt) (i:Nat) (hl:l.length<=1048576) (hi:i<=l.length):Den Tryz.prog T 53 [crts l,vi i] (.str (befC l i)):=by
 refine ja0 follows (fun args w=>Tryz.call53 args w) Tryz.func53 rfl 14 rfl ?_;unfold befC jay;by_cases h0:i=0
 ·subst h0;rw[if_pos rfl];refine run ?_;refine call (jrc L 32 (by omega)) ?_;refine run ?_;exact fin rfl
 ·rw[if_neg h0];obtain ⟨x,hx,-,-⟩:=ja8 (l:=l) (k:=i-1) (by omega);rw[hx];refine runW hx ?_;exact fin rfl
theorem den_linked (L:LibT T) (l:List Crt) (i:Nat) (hl:l.length<=1048576/\∀c∈l,c.fls.length<=1048576/\c.bef.length<=1048576/\c.dig.length<=1048576) (hi:i<l.length):Den Tryz.prog T 59 [crts l,vi i] (vb (jlh l i)):=by
 have hl0:=hl.1;obtain ⟨c,hc,-,hm⟩:=ja8 hi;have hfc:=hl.2 c hm;have hD:=jsd L c hfc.1 hfc.2.1;have hlk:jlh l i=linkC (befC l i) i c:=by unfold jlh; rw[hc]
 rw[hlk];refine ja0 follows (fun args w=>Tryz.call59 args w) Tryz.func59 rfl 40 rfl ?_;refine runW hc ?_;refine call hD ?_;unfold linkC digV digR;cases h1:crtB c
 ·rw[if_neg (by decide)];refine run ?_;exact fin rfl
 rw[if_pos rfl];by_cases h2:c.num=(i:Int)+1
 ·cases h3:c.dig == sumD (crtT c)
  ·refine runW (ai (eq_true h2) h3) ?_;refine fin (jad ?_);simp
  ·refine runW (ai (eq_true h2) h3) ?_;refine call (js9 L l i hl0 (by omega)) ?_;refine runW (ai (eq_true h2) h3) ?_;refine fin (jad ?_);simp
 ·refine runW (eq_false h2) ?_;refine fin (jad ?_);simp
theorem den_ChainD (L:LibT T) (l:List Crt) (hl:l.length<=1048576/\∀c∈l,c.fls.length<=1048576/\c.bef.length<=1048576/\c.dig.length<=1048576):Den Tryz.prog T 23 [crts l] (chkV (chainR l)):=by
 have hl0:=hl.1;refine ja0 follows (fun args w=>Tryz.call23 args w) Tryz.func23 rfl 19 rfl ?_;unfold chainR;by_cases h16:1024<l.length
 ·refine run ?_;refine fin ?_;simp only[chkV,jeq h16]
 refine run ?_
 refine loop ⟨[0,9,10],[],[],[]⟩ (fun k:Nat=>k<=l.length/\∀i,i<k->(if jlh l i=true then (0:Int) else 14)=0) (fun k=>l.length-k)
  (fun k=>⟨19,[(0,.v (crts l)),(9,.v (vi l.length)),(10,.v (vi k))],[],[]⟩) 0 ⟨Nat.zero_le _,fun i hi=>absurd hi (Nat.not_lt_zero i)⟩ ?_
 rintro k ⟨hk,hall⟩;by_cases hlt:k<l.length
 ·refine run ?_;refine call (den_linked L l k hl hlt) ?_;cases hz:jlh l k
  ·have hbad:=jon (lim:=1024) (f:=fun i=>if jlh l i=true then (0:Int) else 14) h16 hlt hall (by rw[hz]; decide);rw[hz] at hbad;refine run ?_;refine fin ?_;simp only[chkV,hbad];rfl
  ·refine run ?_;refine round (k+1) ⟨by omega,fun i hi=> ?_⟩ (by omega);by_cases e:i=k
   ·rw[e,hz]; rfl
   ·exact hall i (by omega)
 ·refine run ?_;refine fin ?_;simp only[chkV,jnk h16 fun i hi=>hall i (by omega)]
end Go.Arc
set_option maxRecDepth 100000
namespace Go.Arc
open Go.Ab Go.RowKit Go.Proofs
variable {T : Lay}
theorem den_ixClk (l:List Clk) (f:FuncId) (cap:List V) (p:Clk->Bool) (hl:l.length<=1048576) (hp:∀e∈l,Den Tryz.prog T f (.agg e.cs::cap) (vb (p e))):
   Den Tryz.prog T 13 [clks l,.func f cap] (vi (ix p l)):=by
  refine ja0 follows (fun args w=>Tryz.call13 args w) Tryz.func13 rfl 19 rfl ?_;refine run ?_
  refine loop ⟨[0,1,7,8],[],[],[]⟩ (fun k:Nat=>k<=l.length/\∀e∈l.take k,p e=false) (fun k=>l.length-k)
    (fun k=>⟨19,[(0,.v (clks l)),(1,.v (.func f cap)),(7,.v (vi l.length)),(8,.v (vi k))],[],[]⟩) 0 ⟨by omega,by simp⟩ ?_
  rintro k ⟨hk,hall⟩;by_cases hlt:k<l.length
  · obtain ⟨x,hx,-,hm⟩:=ja8 hlt;refine runW hx ?_;refine call (hp x hm) ?_;cases hpc:p x
    · refine run ?_;exact round (k+1) ⟨by omega,jac hall hx hpc⟩ (by omega)
    · refine run ?_;exact fin (jai (ji1 hall hx hpc))
  · refine run ?_;exact fin (jai (jc1 hall hlt))
theorem den_anyClk (l:List Clk) (f:FuncId) (cap:List V) (p:Clk->Bool) (hl:l.length<=1048576) (hp:∀e∈l,Den Tryz.prog T f (.agg e.cs::cap) (vb (p e))):
   Den Tryz.prog T 122 [clks l,.func f cap] (vb (l.any p)):=by
  refine ja0 follows (fun args w=>Tryz.call122 args w) Tryz.func122 rfl 9 rfl ?_;refine run ?_;refine call (den_ixClk l f cap p hl hp) ?_;refine run ?_;exact fin (jad (jmy p l))
theorem js4 (l:List Prp) (f:FuncId) (cap:List V) (p:Prp->Bool) (hl:l.length<=1048576) (hp:∀e∈l,Den Tryz.prog T f (.agg e.cs::cap) (vb (p e))):
   Den Tryz.prog T 9 [prps l,.func f cap] (vi (ix p l)):=by
  refine ja0 follows (fun args w=>Tryz.call9 args w) Tryz.func9 rfl 19 rfl ?_;refine run ?_
  refine loop ⟨[0,1,7,8],[],[],[]⟩ (fun k:Nat=>k<=l.length/\∀e∈l.take k,p e=false) (fun k=>l.length-k)
    (fun k=>⟨19,[(0,.v (prps l)),(1,.v (.func f cap)),(7,.v (vi l.length)),(8,.v (vi k))],[],[]⟩) 0 ⟨by omega,by simp⟩ ?_
  rintro k ⟨hk,hall⟩;by_cases hlt:k<l.length
  · obtain ⟨x,hx,-,hm⟩:=ja8 hlt;refine runW hx ?_;refine call (hp x hm) ?_;cases hpc:p x
    · refine run ?_;exact round (k+1) ⟨by omega,jac hall hx hpc⟩ (by omega)
    · refine run ?_;exact fin (jai (ji1 hall hx hpc))
  · refine run ?_;exact fin (jai (jc1 hall hlt))
theorem den_anyPrp (l:List Prp) (f:FuncId) (cap:List V) (p:Prp->Bool) (hl:l.length<=1048576) (hp:∀e∈l,Den Tryz.prog T f (.agg e.cs::cap) (vb (p e))):
   Den Tryz.prog T 77 [prps l,.func f cap] (vb (l.any p)):=by
  refine ja0 follows (fun args w=>Tryz.call77 args w) Tryz.func77 rfl 9 rfl ?_;refine run ?_;refine call (js4 l f cap p hl hp) ?_;refine run ?_;exact fin (jad (jmy p l))
theorem den_ixApv (l:List Apv) (f:FuncId) (cap:List V) (p:Apv->Bool) (hl:l.length<=1048576) (hp:∀e∈l,Den Tryz.prog T f (.agg e.cs::cap) (vb (p e))):
   Den Tryz.prog T 112 [apvs l,.func f cap] (vi (ix p l)):=by
  refine ja0 follows (fun args w=>Tryz.call112 args w) Tryz.func112 rfl 19 rfl ?_;refine run ?_
  refine loop ⟨[0,1,7,8],[],[],[]⟩ (fun k:Nat=>k<=l.length/\∀e∈l.take k,p e=false) (fun k=>l.length-k)
    (fun k=>⟨19,[(0,.v (apvs l)),(1,.v (.func f cap)),(7,.v (vi l.length)),(8,.v (vi k))],[],[]⟩) 0 ⟨by omega,by simp⟩ ?_
  rintro k ⟨hk,hall⟩;by_cases hlt:k<l.length
  · obtain ⟨x,hx,-,hm⟩:=ja8 hlt;refine runW hx ?_;refine call (hp x hm) ?_;cases hpc:p x
    · refine run ?_;exact round (k+1) ⟨by omega,jac hall hx hpc⟩ (by omega)
    · refine run ?_;exact fin (jai (ji1 hall hx hpc))
  · refine run ?_;exact fin (jai (jc1 hall hlt))
theorem den_anyApv (l:List Apv) (f:FuncId) (cap:List V) (p:Apv->Bool) (hl:l.length<=1048576) (hp:∀e∈l,Den Tryz.prog T f (.agg e.cs::cap) (vb (p e))):
   Den Tryz.prog T 42 [apvs l,.func f cap] (vb (l.any p)):=by
  refine ja0 follows (fun args w=>Tryz.call42 args w) Tryz.func42 rfl 9 rfl ?_;refine run ?_;refine call (den_ixApv l f cap p hl hp) ?_;refine run ?_;exact fin (jad (jmy p l))
abbrev rowV (x:Bool×Int):V:= .agg [vb x.1,vi x.2]
theorem ja5 (b:Bool) (e:Int):Den Tryz.prog T 67 [vb b,vi e] (.func 121 [.row [vb b],.row [vi e]]):=by
 refine ja0 follows (fun args w=>Tryz.call67 args w) Tryz.func67 rfl 6 rfl ?_;refine run ?_;exact fin rfl
theorem jas (b:Bool) (e:Int):Den Tryz.prog T 121 [.row [vb b],.row [vi e]] (rowV (b,e)):=by
 refine ja0 follows (fun args w=>Tryz.call121 args w) Tryz.func121 rfl 6 rfl ?_;refine run ?_;exact finC1 (.refl _)
def fstB:List (Bool×Int)->Int
 | []=>0
 | x::r=>if x.1=true then x.2 else fstB r
theorem fstB_drop {l:List (Bool×Int)} {k:Nat} {x:Bool×Int} (h:l[k]? = some x):fstB (l.drop k)=if x.1=true then x.2 else fstB (l.drop (k+1)):=by
 obtain ⟨hlt,rfl⟩:=List.getElem?_eq_some_iff.1 h;rw[List.drop_eq_getElem_cons hlt];rfl
inductive RowsD (T:Lay):List (List V)->List (Bool×Int)->Prop
 | nil:RowsD T [] []
 | cons {f:FuncId} {cap:List V} {x:Bool×Int} {l:List (List V)} {m:List (Bool×Int)} (h:Den Tryz.prog T f cap (rowV x)) (t:RowsD T l m):RowsD T ([.func f cap]::l) (x::m)
theorem RowsD.len {l:List (List V)} {m:List (Bool×Int)} (h:RowsD T l m):l.length=m.length:=by
 induction h with
 | nil=>rfl
 | cons _ _ ih=>simp[ih]
theorem RowsD.at {l:List (List V)} {m:List (Bool×Int)} (h:RowsD T l m):∀ {k:Nat},k<l.length->∃f cap x,l[k]? = some [.func f cap]/\m[k]? = some x/\Den Tryz.prog T f cap (rowV x):=by
 induction h with
 | nil=>intro k hk; exact absurd hk (Nat.not_lt_zero k)
 | cons hd _ ih=>
  intro k hk;cases k with
  | zero=>exact ⟨_,_,_,rfl,rfl,hd⟩
  | succ k=>exact ih (by simpa using hk)
theorem jhg (l:List (List V)) (m:List (Bool×Int)) (h:RowsD T l m) (hl:l.length<=1048576):Den Tryz.prog T 66 [.slice 1 l] (vi (fstB m)):=by
 have hlen:=h.len;refine ja0 follows (fun args w=>Tryz.call66 args w) Tryz.func66 rfl 19 rfl ?_;refine run ?_
 refine loop ⟨[6,7,8],[],[],[]⟩ (fun k:Nat=>k<=l.length/\fstB m=fstB (m.drop k)) (fun k=>l.length-k)
  (fun k=>⟨19,[(6,.v (.slice 1 l)),(7,.v (vi l.length)),(8,.v (vi k))],[],[]⟩) 0 ⟨Nat.zero_le _,rfl⟩ ?_
 rintro k ⟨hk,hall⟩;by_cases hlt:k<l.length
 ·obtain ⟨f,cap,⟨b,e⟩,h1,h2,h3⟩:=h.at hlt;have hd:=fstB_drop h2;refine runW h1 ?_;refine call h3 ?_;cases b
  ·refine run ?_;exact round (k+1) ⟨hlt,by rw[hall,hd]; rfl⟩ (by omega)
  ·refine run ?_;refine fin (jai ?_);rw[hall,hd];rfl
 ·refine run ?_;refine fin (jai ?_);rw[hall,List.drop_eq_nil_of_le (by omega)];rfl
theorem den_clerkOn1 (c:Clk) (n d:Int):Den Tryz.prog T 141 [.agg c.cs,.row [vi n],.row [vi d]] (vb (jpp n d c)):=by
 refine ja0 follows (fun args w=>Tryz.call141 args w) Tryz.func141 rfl 23 rfl ?_;unfold jpp inS;by_cases h1:c.id=n
 ·by_cases h2:c.frm<=d
  ·refine run ?_;refine fin (jad ?_);simp[h2]
  ·refine run ?_;refine fin (jad ?_);simp[h2]
 ·refine runW (eq_false h1) ?_;refine fin (jad ?_);simp
theorem js7 (r:Rgs) (h:r.Fit) (n d:Int):Den Tryz.prog T 79 [.agg r.cs,vi n,vi d] (vb (clkOn r.cks n d)):=by
 refine ja0 follows (fun args w=>Tryz.call79 args w) Tryz.func79 rfl 11 rfl ?_;refine run ?_;refine call (den_anyClk r.cks _ _ (jpp n d) h.cks.1 fun c _=>den_clerkOn1 c n d) ?_;refine run ?_;exact fin rfl
theorem den_findD1 (p:Prp) (n:Int):Den Tryz.prog T 65 [.agg p.cs,.row [vi n]] (vb (je3 n p)):=by
 refine ja0 follows (fun args w=>Tryz.call65 args w) Tryz.func65 rfl 8 rfl ?_;refine run ?_;exact fin rfl
theorem jn9 (r:Rgs) (h:r.Fit) (n:Int):Den Tryz.prog T 26 [.agg r.cs,vi n] (vi (findP r.pps n)):=by
 refine ja0 follows (fun args w=>Tryz.call26 args w) Tryz.func26 rfl 9 rfl ?_;refine run ?_;refine call (js4 r.pps _ _ (je3 n) h.pps.1 fun p _=>den_findD1 p n) ?_;refine run ?_;exact fin rfl
theorem den_certified1 (c:Crt) (n:Int):Den Tryz.prog T 111 [.agg c.cs,.row [vi n]] (vb (isCrtP n c)):=by
 refine ja0 follows (fun args w=>Tryz.call111 args w) Tryz.func111 rfl 8 rfl ?_;refine run ?_;exact fin rfl
theorem den_certified (r:Rgs) (h:r.Fit) (n:Int):Den Tryz.prog T 41 [.agg r.cs,vi n] (vb (certd r.crs n)):=by
 refine ja0 follows (fun args w=>Tryz.call41 args w) Tryz.func41 rfl 9 rfl ?_;refine run ?_;refine call (joh r.crs _ _ (isCrtP n) h.crs.1 fun c _=>den_certified1 c n) ?_;refine run ?_;exact fin rfl
theorem ja1 (i:Nat):(if (0:Int) > (i:Int)-1 then (0:Int) else (i:Int)-1)=((i-1:Nat):Int):=by split <;> omega
def clkRows (q:Option Clk) (c:Clk):List (Bool×Int):=[(!idB c.id || !(decide (1<=c.role) && decide (c.role<=3)) || decide (c.frm<0) || decide (c.til<=c.frm) || decide (1048576<c.til),2),(!name c.name,4),(earlyC q c,5)]
theorem clkRows_ok {l:List Clk} {i:Nat} {c:Clk} (h:l[i]? = some c):fstB (clkRows (jay l i) c)=jil l i:=by
 unfold jil clkRows;rw[h];simp only[fstB]
 have hg:(!idB c.id || !(decide (1<=c.role) && decide (c.role<=3)) || decide (c.frm<0) || decide (c.til<=c.frm) || decide (1048576<c.til))=true↔(idB c.id=false\/c.role<1\/3<c.role\/jce c.frm c.til=false):=by
  unfold jce;cases idB c.id <;> simp <;> omega
 by_cases h1:idB c.id=false\/c.role<1\/3<c.role\/jce c.frm c.til=false
 ·rw[if_pos (hg.2 h1),if_pos h1]
 ·rw[if_neg (fun e=>h1 (hg.1 e)),if_neg h1];cases name c.name <;> rfl
set_option maxHeartbeats 8000000 in
theorem den_clerkD (L:LibC T) (r:Rgs) (h:r.Fit) (i:Nat) (hi:i<r.cks.length):Den Tryz.prog T 30 [.agg r.cs,vi i] (vi (jil r.cks i)):=by
 have hl:=h.cks.1;obtain ⟨c,hc,-,hm⟩:=ja8 hi;have hN:=ji7 L c.name (h.cks.2 c hm);rw[<- clkRows_ok hc]
 have hrow:∀b2 b3,RowsD T [[.func 121 [.row [vb b2],.row [vi 2]]],[.func 121 [.row [vb (!name c.name)],.row [vi 4]]],[.func 121 [.row [vb b3],.row [vi 5]]]] [(b2,2),(!name c.name,4),(b3,5)]:=fun b2 b3=>
  .cons (jas _ _) (.cons (jas _ _) (.cons (jas _ _) .nil))
 have hF:∀b2 b3,Den Tryz.prog T 66 [.slice 1 [[.func 121 [.row [vb b2],.row [vi 2]]],[.func 121 [.row [vb (!name c.name)],.row [vi 4]]],[.func 121 [.row [vb b3],.row [vi 5]]]]] (vi (fstB [(b2,2),(!name c.name,4),(b3,5)])):=fun b2 b3=>jhg _ _ (hrow b2 b3) (by show (3:Nat)<=1048576; decide)
 have hp:(i=0/\earlyC (jay r.cks i) c=false)\/(i≠0/\∃q,r.cks[i-1]? = some q/\earlyC (jay r.cks i) c=decide (c.id<=q.id)):=by
  by_cases h0:i=0
  ·left; subst h0; exact ⟨rfl,rfl⟩
  ·right;obtain ⟨q,hq,-,-⟩:=ja8 (l:=r.cks) (k:=i-1) (by omega);refine ⟨h0,q,hq,?_⟩;unfold jay;rw[if_neg h0,hq];rfl
 have hcs:(idB c.id=false)\/(idB c.id=true/\(decide (1<=c.role) && decide (c.role<=3))=false)\/(idB c.id=true/\(decide (1<=c.role) && decide (c.role<=3))=true/\c.frm<0)\/(idB c.id=true/\(decide (1<=c.role) && decide (c.role<=3))=true/\¬c.frm<0/\c.til<=c.frm)\/(idB c.id=true/\(decide (1<=c.role) && decide (c.role<=3))=true/\¬c.frm<0/\¬c.til<=c.frm):=by
  cases idB c.id
  ·exact .inl rfl
  ·cases (decide (1<=c.role) && decide (c.role<=3))
   ·exact .inr (.inl ⟨rfl,rfl⟩)
   ·by_cases h1:c.frm<0
    ·exact .inr (.inr (.inl ⟨rfl,rfl,h1⟩))
    ·by_cases h2:c.til<=c.frm
     ·exact .inr (.inr (.inr (.inl ⟨rfl,rfl,h1,h2⟩)))
     ·exact .inr (.inr (.inr (.inr ⟨rfl,rfl,h1,h2⟩)))
 unfold clkRows;refine ja0 follows (fun args w=>Tryz.call30 args w) Tryz.func30 rfl 66 rfl ?_;rcases hp with ⟨rfl,hpv⟩ | ⟨h0,q,hq,hpv⟩ <;> rw[hpv]
 ·rcases hcs with h1 | ⟨h1,h2⟩ | ⟨h1,h2,h3⟩ | ⟨h1,h2,h3,h4⟩ | ⟨h1,h2,h3,h4⟩
  ·refine runW hc ?_;refine call (jbv c.id) ?_;rw[h1];refine runW hc ?_;refine call (ja5 _ 2) ?_;refine runW hc ?_;refine call hN ?_;refine runW hc ?_;refine call (ja5 _ 4) ?_;refine runW hc ?_;refine call (ja5 _ 5) ?_;refine runW hc ?_;refine call (hF _ _) ?_;refine runW hc ?_;refine fin (jai ?_);simp
  ·refine runW hc ?_;refine call (jbv c.id) ?_;rw[h1];refine runW hc ?_;refine call (jb2 c.role 1 3) ?_;rw[h2];refine runW hc ?_;refine call (ja5 _ 2) ?_;refine runW hc ?_;refine call hN ?_;refine runW hc ?_;refine call (ja5 _ 4) ?_;refine runW hc ?_;refine call (ja5 _ 5) ?_;refine runW hc ?_;refine call (hF _ _) ?_;refine runW hc ?_;refine fin (jai ?_);simp only
  ·refine runW hc ?_;refine call (jbv c.id) ?_;rw[h1];refine runW hc ?_;refine call (jb2 c.role 1 3) ?_;rw[h2];refine runW hc ?_;refine call (ja5 _ 2) ?_;refine runW hc ?_;refine call hN ?_;refine runW hc ?_;refine call (ja5 _ 4) ?_;refine runW hc ?_;refine call (ja5 _ 5) ?_;refine runW hc ?_;refine call (hF _ _) ?_;refine runW hc ?_;refine fin (jai ?_);simp only
  ·refine runW hc ?_;refine call (jbv c.id) ?_;rw[h1];refine runW hc ?_;refine call (jb2 c.role 1 3) ?_;rw[h2];refine runW hc ?_;refine call (ja5 _ 2) ?_;refine runW hc ?_;refine call hN ?_;refine runW hc ?_;refine call (ja5 _ 4) ?_;refine runW hc ?_;refine call (ja5 _ 5) ?_;refine runW hc ?_;refine call (hF _ _) ?_;refine runW hc ?_;refine fin (jai ?_);simp only
  ·refine runW hc ?_;refine call (jbv c.id) ?_;rw[h1];refine runW hc ?_;refine call (jb2 c.role 1 3) ?_;rw[h2];refine runW hc ?_;refine call (ja5 _ 2) ?_;refine runW hc ?_;refine call hN ?_;refine runW hc ?_;refine call (ja5 _ 4) ?_;refine runW hc ?_;refine call (ja5 _ 5) ?_;refine runW hc ?_;refine call (hF _ _) ?_;refine runW hc ?_;refine fin (jai ?_);simp only
 ·rcases hcs with h1 | ⟨h1,h2⟩ | ⟨h1,h2,h3⟩ | ⟨h1,h2,h3,h4⟩ | ⟨h1,h2,h3,h4⟩
  ·refine runW (ai hc (ai hq (ja1 i))) ?_;refine call (jbv c.id) ?_;rw[h1];refine runW (ai hc (ai hq (ja1 i))) ?_;refine call (ja5 _ 2) ?_;refine runW (ai hc (ai hq (ja1 i))) ?_;refine call hN ?_;refine runW (ai hc (ai hq (ja1 i))) ?_;refine call (ja5 _ 4) ?_;refine runW (ai hc (ai hq (ja1 i))) ?_;refine call (ja5 _ 5) ?_;refine runW (ai hc (ai hq (ja1 i))) ?_;refine call (hF _ _) ?_;refine runW (ai hc (ai hq (ja1 i))) ?_;refine fin (jai ?_);simp[]
  ·refine runW (ai hc (ai hq (ja1 i))) ?_;refine call (jbv c.id) ?_;rw[h1];refine runW (ai hc (ai hq (ja1 i))) ?_;refine call (jb2 c.role 1 3) ?_;rw[h2];refine runW (ai hc (ai hq (ja1 i))) ?_;refine call (ja5 _ 2) ?_;refine runW (ai hc (ai hq (ja1 i))) ?_;refine call hN ?_;refine runW (ai hc (ai hq (ja1 i))) ?_;refine call (ja5 _ 4) ?_;refine runW (ai hc (ai hq (ja1 i))) ?_;refine call (ja5 _ 5) ?_;refine runW (ai hc (ai hq (ja1 i))) ?_;refine call (hF _ _) ?_;refine runW (ai hc (ai hq (ja1 i))) ?_;refine fin (jai ?_);simp only
  ·refine runW (ai hc (ai hq (ja1 i))) ?_;refine call (jbv c.id) ?_;rw[h1];refine runW (ai hc (ai hq (ja1 i))) ?_;refine call (jb2 c.role 1 3) ?_;rw[h2];refine runW (ai hc (ai hq (ja1 i))) ?_;refine call (ja5 _ 2) ?_;refine runW (ai hc (ai hq (ja1 i))) ?_;refine call hN ?_;refine runW (ai hc (ai hq (ja1 i))) ?_;refine call (ja5 _ 4) ?_;refine runW (ai hc (ai hq (ja1 i))) ?_;refine call (ja5 _ 5) ?_;refine runW (ai hc (ai hq (ja1 i))) ?_;refine call (hF _ _) ?_;refine runW (ai hc (ai hq (ja1 i))) ?_;refine fin (jai ?_);simp only
  ·refine runW (ai hc (ai hq (ja1 i))) ?_;refine call (jbv c.id) ?_;rw[h1];refine runW (ai hc (ai hq (ja1 i))) ?_;refine call (jb2 c.role 1 3) ?_;rw[h2];refine runW (ai hc (ai hq (ja1 i))) ?_;refine call (ja5 _ 2) ?_;refine runW (ai hc (ai hq (ja1 i))) ?_;refine call hN ?_;refine runW (ai hc (ai hq (ja1 i))) ?_;refine call (ja5 _ 4) ?_;refine runW (ai hc (ai hq (ja1 i))) ?_;refine call (ja5 _ 5) ?_;refine runW (ai hc (ai hq (ja1 i))) ?_;refine call (hF _ _) ?_;refine runW (ai hc (ai hq (ja1 i))) ?_;refine fin (jai ?_);simp only
  ·refine runW (ai hc (ai hq (ja1 i))) ?_;refine call (jbv c.id) ?_;rw[h1];refine runW (ai hc (ai hq (ja1 i))) ?_;refine call (jb2 c.role 1 3) ?_;rw[h2];refine runW (ai hc (ai hq (ja1 i))) ?_;refine call (ja5 _ 2) ?_;refine runW (ai hc (ai hq (ja1 i))) ?_;refine call hN ?_;refine runW (ai hc (ai hq (ja1 i))) ?_;refine call (ja5 _ 4) ?_;refine runW (ai hc (ai hq (ja1 i))) ?_;refine call (ja5 _ 5) ?_;refine runW (ai hc (ai hq (ja1 i))) ?_;refine call (hF _ _) ?_;refine runW (ai hc (ai hq (ja1 i))) ?_;refine fin (jai ?_);simp only
def prpRows (r:Rgs) (pre:List Prp) (q:Option Prp) (p:Prp):List (Bool×Int):=
 [(!idB p.id || !dayG p.day || !wdrB p,2),(jk2 q p,5),(!clkOn r.cks p.clk p.day,7),(decide ((p.fls.length:Int)=0),9),(p.fls.any fun f=>decide (jhc r.fls f<0),7),(!risI p.fls,5),(p.fls.any (takenP pre p.day),6)]
theorem hasF_findD (l:List Fil) (n:Int):hasF l n= !decide (jhc l n<0):=by
 unfold hasF jhc;rcases jln (jrh n) l with ⟨h1,h2⟩ | ⟨k,x,h1,-,-,h4,h5⟩
 ·rw[h1];have:l.any (fun f=>decide (f.id=n))=false:=List.any_eq_false.2 fun x hx e=>List.find?_eq_none.1 h2 x hx e;rw[this]; rfl
 ·rw[h1];have:l.any (fun f=>decide (f.id=n))=true:=List.any_eq_true.2 ⟨x,h4,List.find?_some (p:=jrh n) h5⟩;rw[this];simp
theorem prpRows_ok (r:Rgs) (pre:List Prp) (q:Option Prp) (p:Prp):fstB (prpRows r pre q p)=prpE r pre q p:=by
 unfold prpE prpRows;simp only[fstB]
 have e1:(!idB p.id || !dayG p.day || !wdrB p)=true↔(idB p.id=false\/dayG p.day=false\/wdrB p=false):=by
  cases idB p.id <;> cases dayG p.day <;> cases wdrB p <;> simp
 have e4:decide ((p.fls.length:Int)=0)=true↔p.fls=[]:=by
  rw[decide_eq_true_eq];constructor
  ·intro h; exact List.eq_nil_of_length_eq_zero (by omega)
  ·intro h; rw[h]; rfl
 have e5:(p.fls.any fun f=>decide (jhc r.fls f<0))=true↔p.fls.all (hasF r.fls)=false:=by
  rw[List.any_eq_true,List.all_eq_false];constructor
  ·rintro ⟨f,hf,h⟩;exact ⟨f,hf,by rw[hasF_findD,h]; decide⟩
  ·rintro ⟨f,hf,h⟩;refine ⟨f,hf,?_⟩;rw[hasF_findD] at h;simpa using h
 by_cases h1:idB p.id=false\/dayG p.day=false\/wdrB p=false
 ·rw[if_pos (e1.2 h1),if_pos h1]
 rw[if_neg (fun e=>h1 (e1.1 e)),if_neg h1];by_cases h2:jk2 q p=true
 ·rw[if_pos h2,if_pos h2]
 rw[if_neg h2,if_neg h2];cases h3:clkOn r.cks p.clk p.day
 ·rfl
 simp only[Bool.not_true,Bool.false_eq_true,reduceCtorEq,if_false];by_cases h4:p.fls=[]
 ·rw[if_pos (e4.2 h4),if_pos h4]
 rw[if_neg (fun e=>h4 (e4.1 e)),if_neg h4];by_cases h5:p.fls.all (hasF r.fls)=false
 ·rw[if_pos (e5.2 h5),if_pos h5]
 rw[if_neg (fun e=>h5 (e5.1 e)),if_neg h5];cases h6:risI p.fls
 ·rfl
 ·simp only[Bool.not_true,Bool.false_eq_true,reduceCtorEq,if_false]
theorem den_prop2 (r:Rgs) (h:r.Fit) (f:Int):Den Tryz.prog T 80 [vi f,.row r.cs] (vb (decide (jhc r.fls f<0))):=by
 have hl:=h.fls.1;refine ja0 follows (fun args w=>Tryz.call80 args w) Tryz.func80 rfl 9 rfl ?_;refine run ?_;refine call (jsc r.fls f hl) ?_;refine run ?_;exact fin rfl
theorem den_prop11 (q p:Prp) (f:Int) (hq:q.fls.length<=1048576):Den Tryz.prog T 78 [.agg q.cs,.row p.cs,.row [vi f]] (vb (holdP p.day f q)):=by
 refine ja0 follows (fun args w=>Tryz.call78 args w) Tryz.func78 rfl 16 rfl ?_;unfold holdP;by_cases h1:p.day<q.wdr
 ·refine run ?_;refine call (jl3 q.fls f hq) ?_;refine run ?_;refine fin (jad ?_);simp only[hasI];congr 1
  funext y
  exact decide_eq_decide.2 eq_comm
 ·refine run ?_;refine fin (jad ?_);simp[]
theorem den_prop1 (r:Rgs) (h:r.Fit) (i:Nat) (hi:i<=r.pps.length) (p:Prp) (f:Int):Den Tryz.prog T 76 [vi f,.row r.cs,.row [vi i],.row p.cs] (vb (takenP (r.pps.take i) p.day f)):=by
 have hl:=h.pps.1;have hA:=den_anyPrp (T:=T) (r.pps.take i) 78 [.row p.cs,.row [vi f]] (holdP p.day f) (by rw[List.length_take]; omega) fun q hq=>den_prop11 q p f (h.pps.2 q (List.mem_of_mem_take hq));have ht:(r.pps.map Prp.cs).take i=(r.pps.take i).map Prp.cs:=by rw[List.map_take]
 refine ja0 follows (fun args w=>Tryz.call76 args w) Tryz.func76 rfl 12 rfl ?_;refine runW ht ?_;refine call hA ?_;refine run ?_;exact fin rfl
end Go.Arc
set_option maxRecDepth 100000
namespace Go.Arc
open Go.Ab Go.RowKit Go.Proofs
variable {T : Lay}
abbrev wRow (b:Bool) (e:Int):List V:=[.func 121 [.row [vb b],.row [vi e]]]
abbrev gr133:List Gent:=⟨bz 16 0,16,.one 0 0⟩::⟨bz 16 1,15,.one 5 0⟩::⟨bz 16 33,14,.alt [(1,1),(2,0),(6,3),(7,2),(12,4),(13,5)]⟩::⟨bz 16 37,13,.alt [(1,6),(6,11),(7,12),(12,13),(13,14)]⟩::⟨bz 16 35,13,.alt [(2,5),(6,6),(7,7),(12,4),(13,9)]⟩::⟨bz 16 161,13,.one 8 13⟩::⟨bz 16 97,13,.alt [(1,4),(2,8),(7,6),(12,13),(13,14)]⟩::⟨bz 16 4129,13,.alt [(1,1),(2,9),(6,12),(7,15),(13,14)]⟩::⟨bz 16 8225,13,.alt [(1,5),(2,9),(6,12),(7,15),(12,13)]⟩::⟨bz 16 4131,12,.alt [(2,22),(6,19),(7,23),(13,24)]⟩::⟨bz 16 39,12,.one 3 14⟩::⟨bz 16 99,12,.alt [(2,15),(7,16),(12,17),(13,18)]⟩::⟨bz 16 163,12,.one 8 18⟩::⟨bz 16 225,12,.one 8 30⟩::⟨bz 16 8227,12,.alt [(2,20),(6,15),(7,21),(12,19)]⟩::⟨bz 16 101,12,.alt [(1,11),(7,21),(12,22),(13,10)]⟩::⟨bz 16 165,12,.one 8 23⟩::⟨bz 16 4133,12,.alt [(1,14),(6,20),(7,23),(13,24)]⟩::⟨bz 16 8229,12,.alt [(1,16),(6,7),(7,24),(12,23)]⟩::⟨bz 16 417,12,.one 9 25⟩::⟨bz 16 4193,12,.alt [(1,8),(2,17),(7,18),(13,25)]⟩::⟨bz 16 8289,12,.alt [(1,8),(2,4),(7,25),(12,24)]⟩::⟨bz 16 12321,12,.alt [(1,11),(2,19),(6,23),(7,25)]⟩::⟨bz 16 4257,12,.one 8 25⟩::⟨bz 16 8353,12,.one 8 25⟩::⟨bz 16 47,11,.alt [(4,26),(6,27),(7,28),(12,29),(13,30)]⟩::⟨bz 16 8293,11,.alt [(1,34),(7,44),(12,30)]⟩::⟨bz 16 103,11,.one 3 25⟩::⟨bz 16 227,11,.one 8 29⟩::⟨bz 16 4195,11,.alt [(2,21),(7,29),(13,30)]⟩::⟨bz 16 8291,11,.alt [(2,30),(7,31),(12,29)]⟩::⟨bz 16 419,11,.one 9 31⟩::⟨bz 16 4135,11,.one 3 22⟩::⟨bz 16 4259,11,.one 8 30⟩::⟨bz 16 12323,11,.alt [(2,30),(6,25),(7,31)]⟩::⟨bz 16 8231,11,.one 3 20⟩::⟨bz 16 8355,11,.one 8 30⟩::⟨bz 16 229,11,.one 8 30⟩::⟨bz 16 4197,11,.alt [(1,12),(7,30),(13,18)]⟩::⟨bz 16 4321,11,.one 8 37⟩::⟨bz 16 421,11,.one 9 31⟩::⟨bz 16 4261,11,.one 8 31⟩::⟨bz 16 12325,11,.alt [(1,22),(6,14),(7,31)]⟩::⟨bz 16 8357,11,.one 8 31⟩::⟨bz 16 481,11,.one 9 25⟩::⟨bz 16 929,11,.alt [(1,17),(2,26),(6,24),(12,34),(13,33)]⟩::⟨bz 16 12385,11,.alt [(1,13),(2,10),(7,31)]⟩::⟨bz 16 8417,11,.one 8 28⟩::⟨bz 16 12449,11,.one 8 32⟩::⟨bz 16 4513,11,.one 9 30⟩::⟨bz 16 8609,11,.one 9 28⟩::⟨bz 16 4199,10,.one 3 36⟩::⟨bz 16 63,10,.alt [(6,30),(7,31),(12,32),(13,29)]⟩::⟨bz 16 111,10,.alt [(4,29),(7,33),(12,34),(13,35)]⟩::⟨bz 16 175,10,.one 8 35⟩::⟨bz 16 4143,10,.alt [(4,29),(6,32),(7,35),(13,36)]⟩::⟨bz 16 8239,10,.alt [(4,25),(6,32),(7,36),(12,35)]⟩::⟨bz 16 12389,10,.alt [(1,38),(7,47)]⟩::⟨bz 16 483,10,.one 9 35⟩::⟨bz 16 4323,10,.one 8 35⟩::⟨bz 16 12387,10,.alt [(2,35),(7,36)]⟩::⟨bz 16 8295,10,.one 3 27⟩::⟨bz 16 8419,10,.one 8 35⟩::⟨bz 16 931,10,.alt [(2,35),(6,30),(12,22),(13,37)]⟩::⟨bz 16 4515,10,.one 9 21⟩::⟨bz 16 12327,10,.one 3 26⟩::⟨bz 16 12451,10,.one 8 35⟩::⟨bz 16 8611,10,.one 9 33⟩::⟨bz 16 485,10,.one 9 34⟩::⟨bz 16 4325,10,.one 8 34⟩::⟨bz 16 993,10,.one 10 39⟩::⟨bz 16 8421,10,.one 8 34⟩::⟨bz 16 933,10,.alt [(1,26),(6,30),(12,27),(13,35)]⟩::⟨bz 16 4517,10,.one 9 26⟩::⟨bz 16 12453,10,.one 8 34⟩::⟨bz 16 8613,10,.one 9 32⟩::⟨bz 16 8673,10,.one 9 34⟩::⟨bz 16 4577,10,.one 9 29⟩::⟨bz 16 12513,10,.one 8 33⟩::⟨bz 16 9121,10,.alt [(1,21),(2,28),(6,31),(12,33)]⟩::⟨bz 16 5025,10,.alt [(1,5),(2,19),(6,26),(13,32)]⟩::⟨bz 16 12705,10,.one 9 31⟩::⟨bz 16 8255,9,.alt [(6,31),(7,38),(12,37)]⟩::⟨bz 16 127,9,.alt [(7,31),(12,33),(13,30)]⟩::⟨bz 16 191,9,.one 8 33⟩::⟨bz 16 4159,9,.alt [(6,31),(7,33),(13,34)]⟩::⟨bz 16 5027,9,.alt [(2,47),(6,29),(13,48)]⟩::⟨bz 16 239,9,.one 8 34⟩::⟨bz 16 4207,9,.alt [(4,28),(7,34),(13,35)]⟩::⟨bz 16 8303,9,.alt [(4,24),(7,35),(12,34)]⟩::⟨bz 16 431,9,.one 9 35⟩::⟨bz 16 4271,9,.one 8 35⟩::⟨bz 16 12335,9,.alt [(4,27),(6,31),(7,35)]⟩::⟨bz 16 8367,9,.one 8 35⟩::⟨bz 16 995,9,.one 10 35⟩::⟨bz 16 4579,9,.one 9 20⟩::⟨bz 16 12391,9,.one 3 27⟩::⟨bz 16 12515,9,.one 8 34⟩::⟨bz 16 8675,9,.one 9 34⟩::⟨bz 16 935,9,.one 3 26⟩::⟨bz 16 5029,9,.alt [(1,33),(6,30),(13,40)]⟩::⟨bz 16 9123,9,.alt [(2,34),(6,31),(12,33)]⟩::⟨bz 16 12707,9,.one 9 32⟩::⟨bz 16 997,9,.one 10 33⟩::⟨bz 16 4581,9,.one 9 26⟩::⟨bz 16 12517,9,.one 8 33⟩::⟨bz 16 8677,9,.one 9 33⟩::⟨bz 16 5089,9,.one 10 35⟩::⟨bz 16 9125,9,.alt [(1,27),(6,31),(12,32)]⟩::⟨bz 16 12709,9,.one 9 31⟩::⟨bz 16 2017,9,.alt [(1,19),(2,26),(11,27),(12,32),(13,31)]⟩::⟨bz 16 9185,9,.one 10 30⟩::⟨bz 16 12769,9,.one 9 31⟩::⟨bz 16 13217,9,.alt [(1,21),(2,27),(6,30)]⟩::⟨bz 16 8319,8,.alt [(7,34),(12,33)]⟩::⟨bz 16 255,8,.one 8 29⟩::⟨bz 16 5091,8,.one 10 47⟩::⟨bz 16 4223,8,.alt [(7,29),(13,30)]⟩::⟨bz 16 447,8,.one 9 31⟩::⟨bz 16 4287,8,.one 8 31⟩::⟨bz 16 12351,8,.alt [(6,27),(7,31),(14,32)]⟩::⟨bz 16 8383,8,.one 8 32⟩::⟨bz 16 495,8,.one 9 32⟩::⟨bz 16 4335,8,.one 8 32⟩::⟨bz 16 12399,8,.alt [(4,23),(7,32)]⟩::⟨bz 16 8431,8,.one 8 32⟩::⟨bz 16 943,8,.alt [(4,23),(6,28),(12,32),(13,33)]⟩::⟨bz 16 4527,8,.one 9 31⟩::⟨bz 16 12463,8,.one 8 17⟩::⟨bz 16 8623,8,.one 9 30⟩::⟨bz 16 2019,8,.alt [(2,31),(11,32),(12,33),(13,34)]⟩::⟨bz 16 5093,8,.one 10 37⟩::⟨bz 16 12771,8,.one 9 33⟩::⟨bz 16 9187,8,.one 10 31⟩::⟨bz 16 5031,8,.one 3 24⟩::⟨bz 16 13219,8,.alt [(2,31),(6,30)]⟩::⟨bz 16 9127,8,.one 3 23⟩::⟨bz 16 2021,8,.alt [(1,24),(11,23),(12,31),(13,32)]⟩::⟨bz 16 4065,8,.alt [(1,24),(2,22),(12,33),(13,32)]⟩::⟨bz 16 12773,8,.one 9 28⟩::⟨bz 16 9189,8,.one 10 29⟩::⟨bz 16 13221,8,.alt [(1,25),(6,26)]⟩::⟨bz 16 10209,8,.alt [(1,22),(2,27),(11,28),(12,30)]⟩::⟨bz 16 6113,8,.alt [(1,20),(2,25),(11,28),(13,29)]⟩::⟨bz 16 13281,8,.one 10 28⟩::⟨bz 16 511,7,.one 9 28⟩::⟨bz 16 12719,7,.one 9 41⟩::⟨bz 16 4351,7,.one 8 28⟩::⟨bz 16 12415,7,.alt [(7,28),(14,29)]⟩::⟨bz 16 8447,7,.one 8 29⟩::⟨bz 16 959,7,.alt [(6,23),(12,29),(13,30)]⟩::⟨bz 16 4543,7,.one 9 28⟩::⟨bz 16 12479,7,.one 8 29⟩::⟨bz 16 28735,7,.alt [(6,24),(7,29)]⟩::⟨bz 16 8639,7,.one 9 26⟩::⟨bz 16 1007,7,.one 10 28⟩::⟨bz 16 4591,7,.one 9 28⟩::⟨bz 16 12527,7,.one 8 28⟩::⟨bz 16 8687,7,.one 9 16⟩::⟨bz 16 5039,7,.alt [(4,20),(6,25),(13,28)]⟩::⟨bz 16 9135,7,.alt [(4,20),(6,14),(12,27)]⟩::⟨bz 16 4069,7,.alt [(1,27),(12,33),(13,31)]⟩::⟨bz 16 2023,7,.one 3 21⟩::⟨bz 16 4067,7,.alt [(2,25),(12,26),(13,27)]⟩::⟨bz 16 6115,7,.alt [(2,27),(11,25),(13,22)]⟩::⟨bz 16 10211,7,.alt [(2,28),(11,25),(12,21)]⟩::⟨bz 16 13283,7,.one 10 20⟩::⟨bz 16 13223,7,.one 3 20⟩::⟨bz 16 13285,7,.one 10 27⟩::⟨bz 16 6117,7,.alt [(1,22),(11,25),(13,26)]⟩::⟨bz 16 10213,7,.alt [(1,23),(11,22),(12,25)]⟩::⟨bz 16 12257,7,.alt [(1,19),(2,21),(12,25)]⟩::⟨bz 16 8161,7,.alt [(1,17),(2,22),(13,24)]⟩::⟨bz 16 14305,7,.alt [(1,13),(2,22),(11,23)]⟩::⟨bz 16 1023,6,.one 10 24⟩::⟨bz 16 9199,6,.one 10 32⟩::⟨bz 16 4607,6,.one 9 23⟩::⟨bz 16 12543,6,.one 8 23⟩::⟨bz 16 28799,6,.alt [(7,23)]⟩::⟨bz 16 8703,6,.one 9 24⟩::⟨bz 16 5055,6,.alt [(6,19),(13,17)]⟩::⟨bz 16 9151,6,.alt [(6,22),(12,16)]⟩::⟨bz 16 12735,6,.one 9 15⟩::⟨bz 16 28863,6,.one 8 21⟩::⟨bz 16 2031,6,.alt [(4,14),(11,21),(12,22),(13,23)]⟩::⟨bz 16 5103,6,.one 10 21⟩::⟨bz 16 12783,6,.one 9 16⟩::⟨bz 16 14307,6,.alt [(2,24),(11,23)]⟩::⟨bz 16 13231,6,.alt [(4,9),(6,14)]⟩::⟨bz 16 4071,6,.one 3 16⟩::⟨bz 16 8163,6,.alt [(2,19),(13,20)]⟩::⟨bz 16 12259,6,.alt [(2,17),(12,19)]⟩::⟨bz 16 6119,6,.one 3 14⟩::⟨bz 16 12261,6,.alt [(1,15),(12,19)]⟩::⟨bz 16 10215,6,.one 3 13⟩::⟨bz 16 8165,6,.alt [(1,14),(13,17)]⟩::⟨bz 16 14309,6,.alt [(1,15),(11,16)]⟩::⟨bz 16 16353,6,.alt [(1,13),(2,15)]⟩::⟨bz 16 13247,5,.alt [(6,15),(14,21)]⟩::⟨bz 16 2047,5,.alt [(11,15),(12,16),(13,18)]⟩::⟨bz 16 5119,5,.one 10 15⟩::⟨bz 16 12799,5,.one 9 12⟩::⟨bz 16 28927,5,.one 8 16⟩::⟨bz 16 13295,5,.one 10 17⟩::⟨bz 16 9215,5,.one 10 13⟩::⟨bz 16 29119,5,.one 9 14⟩::⟨bz 16 4079,5,.alt [(4,8),(12,10),(13,15)]⟩::⟨bz 16 6127,5,.alt [(4,8),(11,9),(13,13)]⟩::⟨bz 16 10223,5,.alt [(4,9),(11,13),(12,12)]⟩::⟨bz 16 12263,5,.one 3 12⟩::⟨bz 16 8167,5,.one 3 6⟩::⟨bz 16 16355,5,.alt [(2,11)]⟩::⟨bz 16 14311,5,.one 3 8⟩::⟨bz 16 16357,5,.alt [(1,9)]⟩::⟨bz 16 13311,4,.one 10 12⟩::⟨bz 16 4095,4,.alt [(12,8),(13,10)]⟩::⟨bz 16 6143,4,.alt [(11,7),(13,10)]⟩::⟨bz 16 8175,4,.alt [(4,6),(13,7)]⟩::⟨bz 16 10239,4,.alt [(11,7),(12,8)]⟩::⟨bz 16 29183,4,.one 9 8⟩::⟨bz 16 29631,4,.alt [(6,7)]⟩::⟨bz 16 14319,4,.alt [(4,5),(11,3)]⟩::⟨bz 16 12271,4,.alt [(4,3),(12,2)]⟩::⟨bz 16 16359,4,.one 3 1⟩::⟨bz 16 8191,3,.alt [(13,5)]⟩::⟨bz 16 16367,3,.alt [(4,4)]⟩::⟨bz 16 12287,3,.alt [(12,3)]⟩::⟨bz 16 14335,3,.alt [(11,2),(14,1)]⟩::⟨bz 16 29695,3,.one 10 0⟩::⟨bz 16 30719,2,.alt [(11,1)]⟩::⟨bz 16 16383,2,.alt [(14,0)]⟩::⟨bz 16 32767,1,.alt [(15,0)]⟩::⟨bz 16 65535,0,.fin⟩::[]
set_option maxHeartbeats 16000000 in
theorem den_proposalD (r:Rgs) (h:r.Fit) (i:Nat) (hi:i<r.pps.length):Den Tryz.prog T 31 [.agg r.cs,vi i] (vi (jjd r i)):=by
 have hl:=h.pps.1;obtain ⟨p,hc,-,hm⟩:=ja8 hi;have hfl:=h.pps.2 p hm
 have he:jjd r i=fstB (prpRows r (r.pps.take i) (jay r.pps i) p):=by
  rw[prpRows_ok];unfold jjd;rw[hc]
 rw[he];have hA:=jhh (T:=T) p.fls 80 [.row r.cs] (fun f=>decide (jhc r.fls f<0)) hfl fun f _=>den_prop2 r h f;have hB:=jhh (T:=T) p.fls 76 [.row r.cs,.row [vi i],.row p.cs] (takenP (r.pps.take i) p.day) hfl fun f _=>den_prop1 r h i (by omega) p f;have hC:=js7 (T:=T) r h p.clk p.day;have hR:=js1 (T:=T) p.fls hfl
 have hF:∀b1 b2 b3 b4 b5 b6 b7,Den Tryz.prog T 66 [.slice 1 [wRow b1 2,wRow b2 5,wRow b3 7,wRow b4 9,wRow b5 7,wRow b6 5,wRow b7 6]] (vi (fstB [(b1,2),(b2,5),(b3,7),(b4,9),(b5,7),(b6,5),(b7,6)])):=fun b1 b2 b3 b4 b5 b6 b7=>
  jhg _ _ (.cons (jas _ _) (.cons (jas _ _) (.cons (jas _ _) (.cons (jas _ _) (.cons (jas _ _) (.cons (jas _ _) (.cons (jas _ _) .nil))))))) (by show (7:Nat)<=1048576; decide)
 have hI:=fun n=>jbv (T:=T) n;have hDy:=fun n=>jog (T:=T) n;have hIn:=jb2 (T:=T) p.wdr p.day 1048575;obtain ⟨q,hq,-,-⟩:=ja8 (l:=r.pps) (k:=i-1) (by omega)
 have hp:(¬ 0<(i:Int)/\jk2 (jay r.pps i) p=false)\/(0<(i:Int)/\p.id<=q.id/\jk2 (jay r.pps i) p=true)\/(0<(i:Int)/\¬p.id<=q.id/\jk2 (jay r.pps i) p=decide (p.day<q.day)):=by
  by_cases h0:i=0
  ·left; subst h0; exact ⟨by decide,rfl⟩
  ·right
   have:jk2 (jay r.pps i) p=(decide (p.id<=q.id) || decide (p.day<q.day)):=by
    unfold jay;rw[if_neg h0,hq];rfl
   by_cases h1:p.id<=q.id
   ·left; exact ⟨by omega,h1,by rw[this]; simp[h1]⟩
   ·right; exact ⟨by omega,h1,by rw[this]; simp[h1]⟩
 have hw:wdrB p=((decide (p.day<=p.wdr) && decide (p.wdr<=1048575)) || decide (p.wdr=1048576)):=rfl;unfold prpRows;refine ja0 follows (fun args w=>Tryz.call31 args w) Tryz.func31 rfl 92 rfl ?_;refine runD (ai hc hq) ?_;refine jb0 gr133 ?_;refine ji3 (fun _:Unit=>True) ⟨[2,3,5,6],[2,3,5,6],[],[]⟩ (fun _=>⟨92,[(2,.p 2 0),(3,.p 3 0),(5,.p 5 0),(6,.p 6 0)],[(2,.var r.cs),(3,.var [vi i]),(5,.var p.cs),(6,.var q.cs)],[]⟩) (fun st st' hk h=>jei _ hk h) ?_ (fun K' hK=> ?_)
 rotate_left
 ·refine ja9 (ai hc (ai hq (ja1 i))) ?_
  try simp only[and_self,and_self_left,and_self_right,jbc,jbp]
  repeat' (with_reducible refine ai ?_ ?_)
  all_goals exact leafK hK () trivial
 intro _ _;refine runD trivial ?_;refine jpt (h':=[(2,.con r.cs),(3,.con [vi i]),(5,.con p.cs),(6,.var q.cs)]) (by rfl) rfl (by kernel_rfl) (by rfl) (by kernel_rfl) ?_;simp only[List.append_eq,List.cons_append,List.nil_append]
 have hs:(idB p.id=false)\/(idB p.id=true/\dayG p.day=false)\/(idB p.id=true/\dayG p.day=true/\(decide (p.day<=p.wdr) && decide (p.wdr<=1048575))=true)\/(idB p.id=true/\dayG p.day=true/\(decide (p.day<=p.wdr) && decide (p.wdr<=1048575))=false):=by
  cases idB p.id
  ·exact .inl rfl
  ·cases dayG p.day
   ·exact .inr (.inl ⟨rfl,rfl⟩)
   ·cases (decide (p.day<=p.wdr) && decide (p.wdr<=1048575))
    ·exact .inr (.inr (.inr ⟨rfl,rfl,rfl⟩))
    ·exact .inr (.inr (.inl ⟨rfl,rfl,rfl⟩))
 rcases hp with ⟨h0,hpv⟩ | ⟨h0,hle,hpv⟩ | ⟨h0,hle,hpv⟩
 ·rcases hs with h1 | ⟨h1,h2⟩ | ⟨h1,h2,h3⟩ | ⟨h1,h2,h3⟩
  ·refine runW (ai hc (ai hq (ja1 i))) ?_;refine call (hI p.id) ?_;rw[h1];refine runW (ai hc (ai hq (ja1 i))) ?_;refine call (ja5 _ 2) ?_;refine runW (ai hc (ai hq (ja1 i))) ?_;refine call (ja5 _ 5) ?_;refine runW (ai hc (ai hq (ja1 i))) ?_;refine call hC ?_;refine runW (ai hc (ai hq (ja1 i))) ?_;refine call (ja5 _ 7) ?_;refine runW (ai hc (ai hq (ja1 i))) ?_;refine call (ja5 _ 9) ?_;refine runW (ai hc (ai hq (ja1 i))) ?_;refine call hA ?_;refine runW (ai hc (ai hq (ja1 i))) ?_;refine call (ja5 _ 7) ?_;refine runW (ai hc (ai hq (ja1 i))) ?_;refine call hR ?_;refine runW (ai hc (ai hq (ja1 i))) ?_;refine call (ja5 _ 5) ?_;refine runW (ai hc (ai hq (ja1 i))) ?_;refine call hB ?_;refine runW (ai hc (ai hq (ja1 i))) ?_;refine call (ja5 _ 6) ?_;refine runW (ai hc (ai hq (ja1 i))) ?_;refine call (hF _ _ _ _ _ _ _) ?_;refine run ?_;refine fin ?_;rw[hpv]
  ·refine runW (ai hc (ai hq (ja1 i))) ?_;refine call (hI p.id) ?_;rw[h1];refine runW (ai hc (ai hq (ja1 i))) ?_;refine call (hDy p.day) ?_;rw[h2];refine runW (ai hc (ai hq (ja1 i))) ?_;refine call (ja5 _ 2) ?_;refine runW (ai hc (ai hq (ja1 i))) ?_;refine call (ja5 _ 5) ?_;refine runW (ai hc (ai hq (ja1 i))) ?_;refine call hC ?_;refine runW (ai hc (ai hq (ja1 i))) ?_;refine call (ja5 _ 7) ?_;refine runW (ai hc (ai hq (ja1 i))) ?_;refine call (ja5 _ 9) ?_;refine runW (ai hc (ai hq (ja1 i))) ?_;refine call hA ?_;refine runW (ai hc (ai hq (ja1 i))) ?_;refine call (ja5 _ 7) ?_;refine runW (ai hc (ai hq (ja1 i))) ?_;refine call hR ?_;refine runW (ai hc (ai hq (ja1 i))) ?_;refine call (ja5 _ 5) ?_;refine runW (ai hc (ai hq (ja1 i))) ?_;refine call hB ?_;refine runW (ai hc (ai hq (ja1 i))) ?_;refine call (ja5 _ 6) ?_;refine runW (ai hc (ai hq (ja1 i))) ?_;refine call (hF _ _ _ _ _ _ _) ?_;refine run ?_;refine fin ?_;rw[hpv]
  ·refine runW (ai hc (ai hq (ja1 i))) ?_;refine call (hI p.id) ?_;rw[h1];refine runW (ai hc (ai hq (ja1 i))) ?_;refine call (hDy p.day) ?_;rw[h2];refine runW (ai hc (ai hq (ja1 i))) ?_;refine call hIn ?_;rw[h3];refine runW (ai hc (ai hq (ja1 i))) ?_;refine call (ja5 _ 2) ?_;refine runW (ai hc (ai hq (ja1 i))) ?_;refine call (ja5 _ 5) ?_;refine runW (ai hc (ai hq (ja1 i))) ?_;refine call hC ?_;refine runW (ai hc (ai hq (ja1 i))) ?_;refine call (ja5 _ 7) ?_;refine runW (ai hc (ai hq (ja1 i))) ?_;refine call (ja5 _ 9) ?_;refine runW (ai hc (ai hq (ja1 i))) ?_;refine call hA ?_;refine runW (ai hc (ai hq (ja1 i))) ?_;refine call (ja5 _ 7) ?_;refine runW (ai hc (ai hq (ja1 i))) ?_;refine call hR ?_;refine runW (ai hc (ai hq (ja1 i))) ?_;refine call (ja5 _ 5) ?_;refine runW (ai hc (ai hq (ja1 i))) ?_;refine call hB ?_;refine runW (ai hc (ai hq (ja1 i))) ?_;refine call (ja5 _ 6) ?_;refine runW (ai hc (ai hq (ja1 i))) ?_;refine call (hF _ _ _ _ _ _ _) ?_;refine run ?_;refine fin ?_;simp[hpv,hw,h3]
  ·refine runW (ai hc (ai hq (ja1 i))) ?_;refine call (hI p.id) ?_;rw[h1];refine runW (ai hc (ai hq (ja1 i))) ?_;refine call (hDy p.day) ?_;rw[h2];refine runW (ai hc (ai hq (ja1 i))) ?_;refine call hIn ?_;rw[h3];refine runW (ai hc (ai hq (ja1 i))) ?_;refine call (ja5 _ 2) ?_;refine runW (ai hc (ai hq (ja1 i))) ?_;refine call (ja5 _ 5) ?_;refine runW (ai hc (ai hq (ja1 i))) ?_;refine call hC ?_;refine runW (ai hc (ai hq (ja1 i))) ?_;refine call (ja5 _ 7) ?_;refine runW (ai hc (ai hq (ja1 i))) ?_;refine call (ja5 _ 9) ?_;refine runW (ai hc (ai hq (ja1 i))) ?_;refine call hA ?_;refine runW (ai hc (ai hq (ja1 i))) ?_;refine call (ja5 _ 7) ?_;refine runW (ai hc (ai hq (ja1 i))) ?_;refine call hR ?_;refine runW (ai hc (ai hq (ja1 i))) ?_;refine call (ja5 _ 5) ?_;refine runW (ai hc (ai hq (ja1 i))) ?_;refine call hB ?_;refine runW (ai hc (ai hq (ja1 i))) ?_;refine call (ja5 _ 6) ?_;refine runW (ai hc (ai hq (ja1 i))) ?_;refine call (hF _ _ _ _ _ _ _) ?_;refine run ?_;refine fin ?_;simp[hpv,hw,h3]
 ·rcases hs with h1 | ⟨h1,h2⟩ | ⟨h1,h2,h3⟩ | ⟨h1,h2,h3⟩
  ·refine runW (ai hc (ai hq (ja1 i))) ?_;refine call (hI p.id) ?_;rw[h1];refine runW (ai hc (ai hq (ja1 i))) ?_;refine call (ja5 _ 2) ?_;refine runW (ai hc (ai hq (ja1 i))) ?_;refine call (ja5 _ 5) ?_;refine runW (ai hc (ai hq (ja1 i))) ?_;refine call hC ?_;refine runW (ai hc (ai hq (ja1 i))) ?_;refine call (ja5 _ 7) ?_;refine runW (ai hc (ai hq (ja1 i))) ?_;refine call (ja5 _ 9) ?_;refine runW (ai hc (ai hq (ja1 i))) ?_;refine call hA ?_;refine runW (ai hc (ai hq (ja1 i))) ?_;refine call (ja5 _ 7) ?_;refine runW (ai hc (ai hq (ja1 i))) ?_;refine call hR ?_;refine runW (ai hc (ai hq (ja1 i))) ?_;refine call (ja5 _ 5) ?_;refine runW (ai hc (ai hq (ja1 i))) ?_;refine call hB ?_;refine runW (ai hc (ai hq (ja1 i))) ?_;refine call (ja5 _ 6) ?_;refine runW (ai hc (ai hq (ja1 i))) ?_;refine call (hF _ _ _ _ _ _ _) ?_;refine run ?_;refine fin ?_;rw[hpv]
  ·refine runW (ai hc (ai hq (ja1 i))) ?_;refine call (hI p.id) ?_;rw[h1];refine runW (ai hc (ai hq (ja1 i))) ?_;refine call (hDy p.day) ?_;rw[h2];refine runW (ai hc (ai hq (ja1 i))) ?_;refine call (ja5 _ 2) ?_;refine runW (ai hc (ai hq (ja1 i))) ?_;refine call (ja5 _ 5) ?_;refine runW (ai hc (ai hq (ja1 i))) ?_;refine call hC ?_;refine runW (ai hc (ai hq (ja1 i))) ?_;refine call (ja5 _ 7) ?_;refine runW (ai hc (ai hq (ja1 i))) ?_;refine call (ja5 _ 9) ?_;refine runW (ai hc (ai hq (ja1 i))) ?_;refine call hA ?_;refine runW (ai hc (ai hq (ja1 i))) ?_;refine call (ja5 _ 7) ?_;refine runW (ai hc (ai hq (ja1 i))) ?_;refine call hR ?_;refine runW (ai hc (ai hq (ja1 i))) ?_;refine call (ja5 _ 5) ?_;refine runW (ai hc (ai hq (ja1 i))) ?_;refine call hB ?_;refine runW (ai hc (ai hq (ja1 i))) ?_;refine call (ja5 _ 6) ?_;refine runW (ai hc (ai hq (ja1 i))) ?_;refine call (hF _ _ _ _ _ _ _) ?_;refine run ?_;refine fin ?_;rw[hpv]
  ·refine runW (ai hc (ai hq (ja1 i))) ?_;refine call (hI p.id) ?_;rw[h1];refine runW (ai hc (ai hq (ja1 i))) ?_;refine call (hDy p.day) ?_;rw[h2];refine runW (ai hc (ai hq (ja1 i))) ?_;refine call hIn ?_;rw[h3];refine runW (ai hc (ai hq (ja1 i))) ?_;refine call (ja5 _ 2) ?_;refine runW (ai hc (ai hq (ja1 i))) ?_;refine call (ja5 _ 5) ?_;refine runW (ai hc (ai hq (ja1 i))) ?_;refine call hC ?_;refine runW (ai hc (ai hq (ja1 i))) ?_;refine call (ja5 _ 7) ?_;refine runW (ai hc (ai hq (ja1 i))) ?_;refine call (ja5 _ 9) ?_;refine runW (ai hc (ai hq (ja1 i))) ?_;refine call hA ?_;refine runW (ai hc (ai hq (ja1 i))) ?_;refine call (ja5 _ 7) ?_;refine runW (ai hc (ai hq (ja1 i))) ?_;refine call hR ?_;refine runW (ai hc (ai hq (ja1 i))) ?_;refine call (ja5 _ 5) ?_;refine runW (ai hc (ai hq (ja1 i))) ?_;refine call hB ?_;refine runW (ai hc (ai hq (ja1 i))) ?_;refine call (ja5 _ 6) ?_;refine runW (ai hc (ai hq (ja1 i))) ?_;refine call (hF _ _ _ _ _ _ _) ?_;refine run ?_;refine fin ?_;simp[hpv,hw,h3]
  ·refine runW (ai hc (ai hq (ja1 i))) ?_;refine call (hI p.id) ?_;rw[h1];refine runW (ai hc (ai hq (ja1 i))) ?_;refine call (hDy p.day) ?_;rw[h2];refine runW (ai hc (ai hq (ja1 i))) ?_;refine call hIn ?_;rw[h3];refine runW (ai hc (ai hq (ja1 i))) ?_;refine call (ja5 _ 2) ?_;refine runW (ai hc (ai hq (ja1 i))) ?_;refine call (ja5 _ 5) ?_;refine runW (ai hc (ai hq (ja1 i))) ?_;refine call hC ?_;refine runW (ai hc (ai hq (ja1 i))) ?_;refine call (ja5 _ 7) ?_;refine runW (ai hc (ai hq (ja1 i))) ?_;refine call (ja5 _ 9) ?_;refine runW (ai hc (ai hq (ja1 i))) ?_;refine call hA ?_;refine runW (ai hc (ai hq (ja1 i))) ?_;refine call (ja5 _ 7) ?_;refine runW (ai hc (ai hq (ja1 i))) ?_;refine call hR ?_;refine runW (ai hc (ai hq (ja1 i))) ?_;refine call (ja5 _ 5) ?_;refine runW (ai hc (ai hq (ja1 i))) ?_;refine call hB ?_;refine runW (ai hc (ai hq (ja1 i))) ?_;refine call (ja5 _ 6) ?_;refine runW (ai hc (ai hq (ja1 i))) ?_;refine call (hF _ _ _ _ _ _ _) ?_;refine run ?_;refine fin ?_;simp[hpv,hw,h3]
 ·rcases hs with h1 | ⟨h1,h2⟩ | ⟨h1,h2,h3⟩ | ⟨h1,h2,h3⟩
  ·refine runW (ai hc (ai hq (ja1 i))) ?_;refine call (hI p.id) ?_;rw[h1];refine runW (ai hc (ai hq (ja1 i))) ?_;refine call (ja5 _ 2) ?_;refine runW (ai hc (ai hq (ja1 i))) ?_;refine call (ja5 _ 5) ?_;refine runW (ai hc (ai hq (ja1 i))) ?_;refine call hC ?_;refine runW (ai hc (ai hq (ja1 i))) ?_;refine call (ja5 _ 7) ?_;refine runW (ai hc (ai hq (ja1 i))) ?_;refine call (ja5 _ 9) ?_;refine runW (ai hc (ai hq (ja1 i))) ?_;refine call hA ?_;refine runW (ai hc (ai hq (ja1 i))) ?_;refine call (ja5 _ 7) ?_;refine runW (ai hc (ai hq (ja1 i))) ?_;refine call hR ?_;refine runW (ai hc (ai hq (ja1 i))) ?_;refine call (ja5 _ 5) ?_;refine runW (ai hc (ai hq (ja1 i))) ?_;refine call hB ?_;refine runW (ai hc (ai hq (ja1 i))) ?_;refine call (ja5 _ 6) ?_;refine runW (ai hc (ai hq (ja1 i))) ?_;refine call (hF _ _ _ _ _ _ _) ?_;refine run ?_;refine fin ?_;rw[hpv]
  ·refine runW (ai hc (ai hq (ja1 i))) ?_;refine call (hI p.id) ?_;rw[h1];refine runW (ai hc (ai hq (ja1 i))) ?_;refine call (hDy p.day) ?_;rw[h2];refine runW (ai hc (ai hq (ja1 i))) ?_;refine call (ja5 _ 2) ?_;refine runW (ai hc (ai hq (ja1 i))) ?_;refine call (ja5 _ 5) ?_;refine runW (ai hc (ai hq (ja1 i))) ?_;refine call hC ?_;refine runW (ai hc (ai hq (ja1 i))) ?_;refine call (ja5 _ 7) ?_;refine runW (ai hc (ai hq (ja1 i))) ?_;refine call (ja5 _ 9) ?_;refine runW (ai hc (ai hq (ja1 i))) ?_;refine call hA ?_;refine runW (ai hc (ai hq (ja1 i))) ?_;refine call (ja5 _ 7) ?_;refine runW (ai hc (ai hq (ja1 i))) ?_;refine call hR ?_;refine runW (ai hc (ai hq (ja1 i))) ?_;refine call (ja5 _ 5) ?_;refine runW (ai hc (ai hq (ja1 i))) ?_;refine call hB ?_;refine runW (ai hc (ai hq (ja1 i))) ?_;refine call (ja5 _ 6) ?_;refine runW (ai hc (ai hq (ja1 i))) ?_;refine call (hF _ _ _ _ _ _ _) ?_;refine run ?_;refine fin ?_;rw[hpv]
  ·refine runW (ai hc (ai hq (ja1 i))) ?_;refine call (hI p.id) ?_;rw[h1];refine runW (ai hc (ai hq (ja1 i))) ?_;refine call (hDy p.day) ?_;rw[h2];refine runW (ai hc (ai hq (ja1 i))) ?_;refine call hIn ?_;rw[h3];refine runW (ai hc (ai hq (ja1 i))) ?_;refine call (ja5 _ 2) ?_;refine runW (ai hc (ai hq (ja1 i))) ?_;refine call (ja5 _ 5) ?_;refine runW (ai hc (ai hq (ja1 i))) ?_;refine call hC ?_;refine runW (ai hc (ai hq (ja1 i))) ?_;refine call (ja5 _ 7) ?_;refine runW (ai hc (ai hq (ja1 i))) ?_;refine call (ja5 _ 9) ?_;refine runW (ai hc (ai hq (ja1 i))) ?_;refine call hA ?_;refine runW (ai hc (ai hq (ja1 i))) ?_;refine call (ja5 _ 7) ?_;refine runW (ai hc (ai hq (ja1 i))) ?_;refine call hR ?_;refine runW (ai hc (ai hq (ja1 i))) ?_;refine call (ja5 _ 5) ?_;refine runW (ai hc (ai hq (ja1 i))) ?_;refine call hB ?_;refine runW (ai hc (ai hq (ja1 i))) ?_;refine call (ja5 _ 6) ?_;refine runW (ai hc (ai hq (ja1 i))) ?_;refine call (hF _ _ _ _ _ _ _) ?_;refine run ?_;refine fin ?_;simp[hpv,hw,h3]
  ·refine runW (ai hc (ai hq (ja1 i))) ?_;refine call (hI p.id) ?_;rw[h1];refine runW (ai hc (ai hq (ja1 i))) ?_;refine call (hDy p.day) ?_;rw[h2];refine runW (ai hc (ai hq (ja1 i))) ?_;refine call hIn ?_;rw[h3];refine runW (ai hc (ai hq (ja1 i))) ?_;refine call (ja5 _ 2) ?_;refine runW (ai hc (ai hq (ja1 i))) ?_;refine call (ja5 _ 5) ?_;refine runW (ai hc (ai hq (ja1 i))) ?_;refine call hC ?_;refine runW (ai hc (ai hq (ja1 i))) ?_;refine call (ja5 _ 7) ?_;refine runW (ai hc (ai hq (ja1 i))) ?_;refine call (ja5 _ 9) ?_;refine runW (ai hc (ai hq (ja1 i))) ?_;refine call hA ?_;refine runW (ai hc (ai hq (ja1 i))) ?_;refine call (ja5 _ 7) ?_;refine runW (ai hc (ai hq (ja1 i))) ?_;refine call hR ?_;refine runW (ai hc (ai hq (ja1 i))) ?_;refine call (ja5 _ 5) ?_;refine runW (ai hc (ai hq (ja1 i))) ?_;refine call hB ?_;refine runW (ai hc (ai hq (ja1 i))) ?_;refine call (ja5 _ 6) ?_;refine runW (ai hc (ai hq (ja1 i))) ?_;refine call (hF _ _ _ _ _ _ _) ?_;refine run ?_;refine fin ?_;simp[hpv,hw,h3]
end Go.Arc
set_option maxRecDepth 100000
namespace Go.Arc
open Go.Ab Go.RowKit Go.Proofs
variable {T : Lay}
def apvRows (r:Rgs) (pre:List Apv) (q:Option Apv) (a:Apv) (p:Prp):List (Bool×Int):=
 [(!(decide (p.day<=a.day) && decide (a.day<=1048575)),2),(earlyA q a,5),(decide (p.wdr<=a.day),11),(!clkOn r.cks a.clk a.day,7),(decide (a.clk=p.clk),22),(pre.any (isApv a),6)]
theorem apvRows_ok (r:Rgs) (pre:List Apv) (q:Option Apv) (a:Apv) (p:Prp):fstB (apvRows r pre q a p)=apvE r pre q a p:=by
 unfold apvE apvRows;simp only[fstB];by_cases h1:a.day<p.day\/1048575<a.day
 ·rw[if_pos h1,if_pos (by simp; omega)]
 rw[if_neg h1,if_neg (by simp; omega)];by_cases h2:earlyA q a=true
 ·rw[if_pos h2,if_pos h2]
 rw[if_neg h2,if_neg h2];by_cases h3:p.wdr<=a.day
 ·rw[if_pos h3,if_pos (decide_eq_true h3)]
 rw[if_neg h3,if_neg (by simp; omega)];cases h4:clkOn r.cks a.clk a.day
 ·rfl
 simp only[Bool.not_true,Bool.false_eq_true,reduceCtorEq,if_false];by_cases h5:a.clk=p.clk
 ·rw[if_pos h5,if_pos (decide_eq_true h5)]
 rw[if_neg h5,if_neg (by simp[h5])]
theorem den_apv1 (b a:Apv):Den Tryz.prog T 83 [.agg b.cs,.row a.cs] (vb (isApv a b)):=by
 refine ja0 follows (fun args w=>Tryz.call83 args w) Tryz.func83 rfl 16 rfl ?_;unfold isApv;by_cases h1:b.prp=a.prp
 ·refine runW (eq_true h1) ?_;refine fin (jad ?_);simp
 ·refine runW (eq_false h1) ?_;refine fin (jad ?_);simp
abbrev gr134:List Gent:=⟨bz 25 0,25,.one 0 0⟩::⟨bz 25 1,24,.ld 1 0⟩::⟨bz 25 3,23,.one 2 0⟩::⟨bz 25 7,22,.one 3 0⟩::⟨bz 25 15,21,.ld 4 0⟩::⟨bz 25 31,20,.one 5 0⟩::⟨bz 25 63,19,.ld 6 0⟩::⟨bz 25 127,18,.one 7 0⟩::⟨bz 25 255,17,.one 8 0⟩::⟨bz 25 511,16,.one 9 0⟩::⟨bz 25 1023,15,.one 10 0⟩::⟨bz 25 2047,14,.ld 11 0⟩::⟨bz 25 4095,13,.ld 12 0⟩::⟨bz 25 8191,12,.one 13 0⟩::⟨bz 25 16383,11,.ld 14 0⟩::⟨bz 25 32767,10,.one 15 0⟩::⟨bz 25 65535,9,.one 16 0⟩::⟨bz 25 131071,8,.one 17 0⟩::⟨bz 25 262143,7,.ld 18 0⟩::⟨bz 25 524287,6,.alt [(19,1),(20,2),(21,0)]⟩::⟨bz 25 2621439,5,.alt [(19,4),(20,2)]⟩::⟨bz 25 1048575,5,.alt [(20,2),(21,3)]⟩::⟨bz 25 1572863,5,.alt [(19,1),(21,0)]⟩::⟨bz 25 3670015,4,.alt [(19,2)]⟩::⟨bz 25 2097151,4,.alt [(21,1)]⟩::⟨bz 25 3145727,4,.alt [(20,0)]⟩::⟨bz 25 4194303,3,.alt [(22,0)]⟩::⟨bz 25 8388607,2,.alt [(23,0)]⟩::⟨bz 25 16777215,1,.alt [(24,0)]⟩::⟨bz 25 33554431,0,.fin⟩::[]
set_option maxHeartbeats 16000000 in
theorem den_approvalD (r:Rgs) (h:r.Fit) (i:Nat) (hi:i<r.aps.length):Den Tryz.prog T 32 [.agg r.cs,vi i] (vi (jhp r i)):=by
 have hl:=h.aps;have hpl:=h.pps.1;obtain ⟨a,hc,-,hm⟩:=ja8 hi;obtain ⟨q,hq,-,-⟩:=ja8 (l:=r.aps) (k:=i-1) (by omega);have hfind:=jn9 (T:=T) r h a.prp;have ht:(r.aps.map Apv.cs).take i=(r.aps.take i).map Apv.cs:=by rw[List.map_take]
 refine ja0 follows (fun args w=>Tryz.call32 args w) Tryz.func32 rfl 82 rfl ?_;refine runD (ai hc hq) ?_;refine aw_frz 2 ?_;refine jei (st':=⟨82,[(1,.v (vi i)),(2,.p 2 0)],[(2,.con r.cs)],[]⟩) ⟨[1,2],[2],[],[]⟩ rfl ?_;refine jb0 gr134 ?_;refine ji3 (fun _:Unit=>True) ⟨[1,2,5,6,7],[2,5,6],[],[]⟩ (fun _=>⟨82,[(1,.v (vi i)),(2,.p 2 0),(5,.p 5 0),(6,.p 6 0),(7,.v (vi (findP r.pps a.prp)))],[(2,.con r.cs),(5,.var a.cs),(6,.var q.cs)],[]⟩) (fun st st' hk h=>jei _ hk h) ?_ (fun K' hK=> ?_)
 rotate_left
 ·refine ja9 (ai hc (ai hq (ja1 i))) ?_
  try simp only[and_assoc]
  apply viaA
  ·have hX:=fun k kn m h=>call (k:=k) (kn:=kn) (m:=m) hfind h
   repeat' (first | with_reducible apply And.imp | exact hX _ _ _)
  refine ja9 (ai hc (ai hq (ja1 i))) ?_
  try simp only[and_self,and_self_left]
  repeat' (with_reducible refine ai ?_ ?_)
  all_goals exact leafK hK () trivial
 intro _ _;rcases jln (je3 a.prp) r.pps with ⟨h1,h2⟩ | ⟨k,p,h1,hk,hx,hpm,h2⟩
 ·have he:jhp r i=7:=by unfold jhp; rw[hc]; simp only; rw[h2]
  rw[he];have h1:findP r.pps a.prp= -1:=h1;rw[h1];refine run ?_;exact fin rfl
 have he:jhp r i=fstB (apvRows r (r.aps.take i) (jay r.aps i) a p):=by
  rw[apvRows_ok];unfold jhp;rw[hc];simp only;rw[h2]
 rw[he];have h1:findP r.pps a.prp=(k:Int):=h1;rw[h1];have hA:=den_anyApv (T:=T) (r.aps.take i) 83 [.row a.cs] (isApv a) (by rw[List.length_take]; omega) fun b _=>den_apv1 b a;have hC:=js7 (T:=T) r h a.clk a.day;have hIn:=jb2 (T:=T) a.day p.day 1048575
 have hF:∀b1 b2 b3 b4 b5 b6,Den Tryz.prog T 66 [.slice 1 [wRow b1 2,wRow b2 5,wRow b3 11,wRow b4 7,wRow b5 22,wRow b6 6]] (vi (fstB [(b1,2),(b2,5),(b3,11),(b4,7),(b5,22),(b6,6)])):=fun b1 b2 b3 b4 b5 b6=>
  jhg _ _ (.cons (jas _ _) (.cons (jas _ _) (.cons (jas _ _) (.cons (jas _ _) (.cons (jas _ _) (.cons (jas _ _) .nil)))))) (by show (6:Nat)<=1048576; decide)
 unfold apvRows
 have hp:(¬ 0<(i:Int)/\earlyA (jay r.aps i) a=false)\/(0<(i:Int)/\earlyA (jay r.aps i) a=decide (a.day<q.day)):=by
  by_cases h0:i=0
  ·left; subst h0; exact ⟨by decide,rfl⟩
  ·right;refine ⟨by omega,?_⟩;unfold jay;rw[if_neg h0,hq];rfl
 refine runD hx ?_;refine jpt (h':=[(8,.var p.cs),(2,.con r.cs),(5,.con a.cs),(6,.var q.cs)]) (by rfl) rfl (by kernel_rfl) (by rfl) (by kernel_rfl) ?_;rcases hp with ⟨h0,hpv⟩ | ⟨h0,hpv⟩ <;> rw[hpv] <;>
 ·refine runW (ai hx ht) ?_;refine call hIn ?_;refine runW ht ?_;refine call (ja5 _ 2) ?_;refine runW ht ?_;refine call (ja5 _ 5) ?_;refine runW ht ?_;refine call (ja5 _ 11) ?_;refine runW ht ?_;refine call hC ?_;refine runW ht ?_;refine call (ja5 _ 7) ?_;refine runW ht ?_;refine call (ja5 _ 22) ?_;refine runW ht ?_;refine call hA ?_;refine runW ht ?_;refine call (ja5 _ 6) ?_;refine runW ht ?_;refine call (hF _ _ _ _ _ _) ?_;refine run ?_;exact fin rfl
end Go.Arc
set_option maxRecDepth 100000
namespace Go.Arc
open Go.Ab Go.RowKit Go.Proofs
variable {T : Lay}
theorem den_cert1 (L:LibT T) (r:Rgs) (h:r.Fit) (i:Nat) (hi:i<r.crs.length):Den Tryz.prog T 85 [.row r.cs,.row [vi i]] (rowV (!linkB r.crs i,14)):=by
 refine ja0 follows (fun args w=>Tryz.call85 args w) Tryz.func85 rfl 9 rfl ?_;refine run ?_;refine call (den_linked L r.crs i h.crs hi) ?_;refine run ?_;exact finC1 (.refl _)
set_option maxHeartbeats 4000000 in
theorem jq2 (L:LibT T) (r:Rgs) (h:r.Fit) (i:Nat) (hi:i<r.crs.length):Den Tryz.prog T 33 [.agg r.cs,vi i] (vi (jf7 r i)):=by
 have hl:=h.crs.1;have hpl:=h.pps.1;obtain ⟨c,hc,-,hm⟩:=ja8 hi;have hfc:=(h.crs.2 c hm).1;refine ja0 follows (fun args w=>Tryz.call33 args w) Tryz.func33 rfl 32 rfl ?_;refine runW hc ?_;refine call (jn9 r h c.prp) ?_;rcases jln (je3 c.prp) r.pps with ⟨h1,h2⟩ | ⟨k,p,h1,hk,hx,hpm,h2⟩
 ·have he:jf7 r i=7:=by unfold jf7; rw[hc]; simp only; rw[h2]
  rw[he];have h1:findP r.pps c.prp= -1:=h1;rw[h1];refine run ?_;exact fin rfl
 have he:jf7 r i=fstB [(!decide (c.fls=p.fls),10),(!linkB r.crs i,14)]:=by
  unfold jf7;rw[hc];simp only;rw[h2];simp only[fstB];by_cases h1:c.fls=p.fls
  ·simp[h1]
  ·simp[h1]
 rw[he];have h1:findP r.pps c.prp=(k:Int):=h1;rw[h1]
 have hF:∀b,Den Tryz.prog T 66 [.slice 1 [wRow b 10,[.func 85 [.row r.cs,.row [vi i]]]]] (vi (fstB [(b,10),(!linkB r.crs i,14)])):=fun b=>
  jhg _ _ (.cons (jas _ _) (.cons (den_cert1 L r h i hi) .nil)) (by show (2:Nat)<=1048576; decide)
 refine runW hx ?_;refine call (den_eqInts c.fls p.fls hfc) ?_;refine run ?_;refine call (ja5 _ 10) ?_;refine run ?_;refine call (hF _) ?_;refine run ?_;exact fin rfl
theorem jnc (r:Rgs) (n:Nat) (f:FuncId) (cap:List V) (g:Nat->Int) (hn:n<=1048576) (hg:∀i,i<n->Den Tryz.prog T f (.agg r.cs::vi i::cap) (vi (g i))):Den Tryz.prog T 34 [.agg r.cs,vi n,.func f cap] (vi (chk n n g).2):=by
 refine ja0 follows (fun args w=>Tryz.call34 args w) Tryz.func34 rfl 21 rfl ?_;refine run ?_
 refine loop ⟨[2,3,9,10],[3],[],[]⟩ (fun k:Nat=>k<=n/\∀i,i<k->g i=0) (fun k=>n-k)
  (fun k=>⟨21,[(2,.v (.func f cap)),(3,.p 3 0),(9,.v (vi n)),(10,.v (vi k))],[(3,.var r.cs)],[]⟩) 0 ⟨Nat.zero_le _,fun i hi=>absurd hi (Nat.not_lt_zero i)⟩ ?_
 rintro k ⟨hk,hall⟩;by_cases hlt:k<n
 ·refine run ?_;refine call (hg k hlt) ?_;by_cases hz:g k=0
  ·refine runW hz ?_;refine round (k+1) ⟨by omega,fun i hi=> ?_⟩ (by omega);by_cases e:i=k
   ·rw[e]; exact hz
   ·exact hall i (by omega)
  ·refine runW (eq_false hz) ?_;refine fin (jai ?_);rw[jon (Nat.lt_irrefl n) hlt hall hz]
 ·refine run ?_;refine fin (jai ?_);rw[jnk (Nat.lt_irrefl n) fun i hi=>hall i (by omega)]
theorem jom {lim n:Nat} {f:Nat->Int} (h:¬lim<n):(chk lim n f).2=(chk n n f).2:=by unfold chk; rw[if_neg h,if_neg (Nat.lt_irrefl n)]
theorem fstE_drop {l:List Int} {k:Nat} {x:Int} (h:l[k]? = some x):fstE (l.drop k)=if x≠0 then x else fstE (l.drop (k+1)):=by
 obtain ⟨hlt,rfl⟩:=List.getElem?_eq_some_iff.1 h;rw[List.drop_eq_getElem_cons hlt];rfl
abbrev lstV (n m:Int) (f:FuncId):List V:=[vi n,vi m,.func f []]
set_option maxHeartbeats 8000000 in
theorem ji8 (L:LibT T) (r:Rgs) (h:r.Fit):Den Tryz.prog T 11 [.agg r.cs] (vi (jhl r)):=by
 have LC:=libC L;have hck:=h.cks.1;have hpp:=h.pps.1;have hap:=h.aps;have hcr:=h.crs.1;refine ja0 follows (fun args w=>Tryz.call11 args w) Tryz.func11 rfl 54 rfl ?_;refine run ?_;refine call (den_CheckG LC r h) ?_;unfold jhl;by_cases hg:checkG r=0
 case neg=>
  have he:fstE (checkG r::chkN r)=checkG r:=by show (if checkG r≠0 then _ else _)=_; rw[if_pos hg]
  rw[he];refine runW (eq_false hg) ?_;exact fin rfl
 have he:fstE (checkG r::chkN r)=fstE (chkN r):=by show (if checkG r≠0 then _ else _)=_; rw[if_neg (fun e=>e hg)]
 rw[he];refine runW hg ?_;obtain ⟨LL,hLL⟩:∃l:List (List V),[lstV r.cks.length 32 30,lstV r.pps.length 1024 31,lstV r.aps.length 1024 32,lstV r.crs.length r.crs.length 33]=l:=⟨_,rfl⟩;have l0:LL[0]? = some (lstV r.cks.length 32 30):=by rw[<- hLL]; rfl
 have l1:LL[1]? = some (lstV r.pps.length 1024 31):=by rw[<- hLL]; rfl
 have l2:LL[2]? = some (lstV r.aps.length 1024 32):=by rw[<- hLL]; rfl
 have l3:LL[3]? = some (lstV r.crs.length r.crs.length 33):=by rw[<- hLL]; rfl
 have e0:=jnc (T:=T) r r.cks.length 30 [] (jil r.cks) hck fun i hi=>den_clerkD LC r h i hi;have e1:=jnc (T:=T) r r.pps.length 31 [] (jjd r) hpp fun i hi=>den_proposalD r h i hi;have e2:=jnc (T:=T) r r.aps.length 32 [] (jhp r) hap fun i hi=>den_approvalD r h i hi;have e3:=jnc (T:=T) r r.crs.length 33 [] (jf7 r) hcr fun i hi=>jq2 L r h i hi
 refine loop ⟨[1,33,34,35],[1],[],[]⟩ (fun k:Nat=>k<=4/\fstE (chkN r)=fstE ((chkN r).drop k)) (fun k=>4-k)
  (fun k=>⟨54,[(1,.p 1 0),(33,.v (.slice 3 LL)),(34,.v (vi 4)),(35,.v (vi k))],[(1,.var r.cs)],[]⟩) 0 ⟨Nat.zero_le _,rfl⟩ ?_ ?_
 ·rintro k ⟨hk,hall⟩
  have next:∀ {x:Int},(chkN r)[k]? = some x->x=0->fstE (chkN r)=fstE ((chkN r).drop (k+1)):=fun {x} hx hz=>by
   rw[hall,fstE_drop hx,if_neg (fun e=>e hz)]
  have out:∀ {x y:Int},(chkN r)[k]? = some x->x=y->y≠0->(vi y:V)=vi (fstE (chkN r)):=fun {x y} hx hxy hz=>by
   subst hxy;rw[hall,fstE_drop hx,if_pos hz]
  have hcs:k=0\/k=1\/k=2\/k=3\/k=4:=by omega
  rcases hcs with rfl | rfl | rfl | rfl | rfl
  ·by_cases hm:32<r.cks.length
   ·refine runW l0 ?_;exact fin (out (x:=(chk 32 r.cks.length (jil r.cks)).2) rfl (by rw[jeq hm]) (by decide))
   ·refine runW l0 ?_;refine call e0 ?_;by_cases hz:(chk r.cks.length r.cks.length (jil r.cks)).2=0
    ·refine runW hz ?_;exact round 1 ⟨by omega,next (x:=(chk 32 r.cks.length (jil r.cks)).2) rfl (by rw[jom hm]; exact hz)⟩ (by omega)
    ·refine runW (eq_false hz) ?_;exact fin (out (x:=(chk 32 r.cks.length (jil r.cks)).2) rfl (jom hm) hz)
  ·by_cases hm:1024<r.pps.length
   ·refine runW l1 ?_;exact fin (out (x:=(chk 1024 r.pps.length (jjd r)).2) rfl (by rw[jeq hm]) (by decide))
   ·refine runW l1 ?_;refine call e1 ?_;by_cases hz:(chk r.pps.length r.pps.length (jjd r)).2=0
    ·refine runW hz ?_;exact round 2 ⟨by omega,next (x:=(chk 1024 r.pps.length (jjd r)).2) rfl (by rw[jom hm]; exact hz)⟩ (by omega)
    ·refine runW (eq_false hz) ?_;exact fin (out (x:=(chk 1024 r.pps.length (jjd r)).2) rfl (jom hm) hz)
  ·by_cases hm:1024<r.aps.length
   ·refine runW l2 ?_;exact fin (out (x:=(chk 1024 r.aps.length (jhp r)).2) rfl (by rw[jeq hm]) (by decide))
   ·refine runW l2 ?_;refine call e2 ?_;by_cases hz:(chk r.aps.length r.aps.length (jhp r)).2=0
    ·refine runW hz ?_;exact round 3 ⟨by omega,next (x:=(chk 1024 r.aps.length (jhp r)).2) rfl (by rw[jom hm]; exact hz)⟩ (by omega)
    ·refine runW (eq_false hz) ?_;exact fin (out (x:=(chk 1024 r.aps.length (jhp r)).2) rfl (jom hm) hz)
  ·refine runW l3 ?_;refine call e3 ?_;by_cases hz:(chk r.crs.length r.crs.length (jf7 r)).2=0
   ·refine runW hz ?_;exact round 4 ⟨by omega,next (x:=(chk r.crs.length r.crs.length (jf7 r)).2) rfl hz⟩ (by omega)
   ·refine runW (eq_false hz) ?_;exact fin (out (x:=(chk r.crs.length r.crs.length (jf7 r)).2) rfl rfl hz)
  ·refine run ?_;refine fin (jai ?_);rw[hall];rfl
 ·rw[<- hLL];rfl
end Go.Arc
set_option maxRecDepth 100000
namespace Go.Arc
open Go.Ab Go.RowKit Go.Proofs
variable {T : Lay}
def cs_k (r:Rgs) (s:Option (Nat×Nat)):List V:=[ofcs r.ofs,jcb r.pls,fils r.fls,ruls r.rls,hlds r.hls,clks r.cks,sels r.sls,prps r.pps,apvs r.aps,sOpt r.crs.length s,deps r.dps,vi r.chg]
def row_k (r:Rgs) (s:Option (Nat×Nat)):Option Blk:=s.map fun x=> .var (r.crs.map Crt.cs).flatten (some x.1) (some (60,6,x.2))
theorem denU_clone_k (r:Rgs) (h:r.Fit):DenU Tryz.prog T 113 [.agg r.cs] (fun ro v=>∃s,okB r.crs.length s/\ro=row_k r s/\v= .agg (cs_k r s)):=by
 refine denU_cloneD r h _ ?_;rintro y ⟨hO,hP,hF,hU,hD,hC,hS,hQ,hA,hK,hM⟩ M F0 w0 F ρ a w S;obtain ⟨F,S⟩:=jdv (j:=8) S hA rfl (by rw[jbr (cs:=Apv.cs) (z:=3) (fun _=>rfl)]; exact Nat.le_refl _) (ja7 (ja2 (q:=176) _) (ja7 (ja2 (q:=92) _) (ja7 (ja2 (q:=95) _) (ja7 (ja2 (q:=98) _) (ja7 (ja2 (q:=11) _) (ja7 (ja2 (q:=14) _) (ja7 (ja2 (q:=17) _) (ja7 (ja2 (q:=104) _) (ja7 (ja2 (q:=107) _) (ja2 (q:=110) _))))))))));rw[jc8 (cs:=Apv.cs) (z:=3) (fun _=>rfl)] at S
 replace S:SimS Tryz.prog T M F0 w0 F ρ ⟨180,[(2,.p 2 0)],(2,Blk.var [sOpt r.ofs.length y.sO,sOpt r.pls.length y.sP,sOpt r.fls.length y.sF,sOpt r.rls.length y.sU,sOpt r.hls.length y.sD,sOpt r.cks.length y.sC,sOpt r.sls.length y.sS,sOpt r.pps.length y.sQ,apvs r.aps,sOpt r.crs.length y.sK,sOpt r.dps.length y.sM,vi r.chg])::((rowB 176 (r.dps.map Dep.cs).flatten 105 2 y.sM)++((rowB 92 (r.rls.map Rul.cs).flatten 120 8 y.sU)++((rowB 95 (r.hls.map Hld.cs).flatten 122 7 y.sD)++((rowB 98 (r.cks.map Clk.cs).flatten 56 5 y.sC)++((rowB 11 (r.ofs.map Ofc.cs).flatten 112 5 y.sO)++((rowB 14 (r.pls.map Plan.cs).flatten 118 5 y.sP)++((rowB 17 (r.fls.map Fil.cs).flatten 86 8 y.sF)++((rowB 104 (r.sls.map Sel.cs).flatten 134 3 y.sS)++((rowB 107 (r.pps.map Prp.cs).flatten 42 5 y.sQ)++(rowB 110 (r.crs.map Crt.cs).flatten 60 6 y.sK)))))))))),[]⟩ a w:=S
 obtain ⟨F,S⟩:=jdv (j:=10) S hM rfl (by rw[jbr (cs:=Dep.cs) (z:=2) (fun _=>rfl)]; exact Nat.le_refl _) (ja7 (ja2 (q:=92) _) (ja7 (ja2 (q:=95) _) (ja7 (ja2 (q:=98) _) (ja7 (ja2 (q:=11) _) (ja7 (ja2 (q:=14) _) (ja7 (ja2 (q:=17) _) (ja7 (ja2 (q:=104) _) (ja7 (ja2 (q:=107) _) (ja2 (q:=110) _)))))))));rw[jc8 (cs:=Dep.cs) (z:=2) (fun _=>rfl)] at S
 replace S:SimS Tryz.prog T M F0 w0 F ρ ⟨180,[(2,.p 2 0)],(2,Blk.var [sOpt r.ofs.length y.sO,sOpt r.pls.length y.sP,sOpt r.fls.length y.sF,sOpt r.rls.length y.sU,sOpt r.hls.length y.sD,sOpt r.cks.length y.sC,sOpt r.sls.length y.sS,sOpt r.pps.length y.sQ,apvs r.aps,sOpt r.crs.length y.sK,deps r.dps,vi r.chg])::((rowB 92 (r.rls.map Rul.cs).flatten 120 8 y.sU)++((rowB 95 (r.hls.map Hld.cs).flatten 122 7 y.sD)++((rowB 98 (r.cks.map Clk.cs).flatten 56 5 y.sC)++((rowB 11 (r.ofs.map Ofc.cs).flatten 112 5 y.sO)++((rowB 14 (r.pls.map Plan.cs).flatten 118 5 y.sP)++((rowB 17 (r.fls.map Fil.cs).flatten 86 8 y.sF)++((rowB 104 (r.sls.map Sel.cs).flatten 134 3 y.sS)++((rowB 107 (r.pps.map Prp.cs).flatten 42 5 y.sQ)++(rowB 110 (r.crs.map Crt.cs).flatten 60 6 y.sK))))))))),[]⟩ a w:=S
 obtain ⟨F,S⟩:=jdv (j:=3) S hU rfl (by rw[jbr (cs:=Rul.cs) (z:=8) (fun _=>rfl)]; exact Nat.le_refl _) (ja7 (ja2 (q:=95) _) (ja7 (ja2 (q:=98) _) (ja7 (ja2 (q:=11) _) (ja7 (ja2 (q:=14) _) (ja7 (ja2 (q:=17) _) (ja7 (ja2 (q:=104) _) (ja7 (ja2 (q:=107) _) (ja2 (q:=110) _))))))));rw[jc8 (cs:=Rul.cs) (z:=8) (fun _=>rfl)] at S
 replace S:SimS Tryz.prog T M F0 w0 F ρ ⟨180,[(2,.p 2 0)],(2,Blk.var [sOpt r.ofs.length y.sO,sOpt r.pls.length y.sP,sOpt r.fls.length y.sF,ruls r.rls,sOpt r.hls.length y.sD,sOpt r.cks.length y.sC,sOpt r.sls.length y.sS,sOpt r.pps.length y.sQ,apvs r.aps,sOpt r.crs.length y.sK,deps r.dps,vi r.chg])::((rowB 95 (r.hls.map Hld.cs).flatten 122 7 y.sD)++((rowB 98 (r.cks.map Clk.cs).flatten 56 5 y.sC)++((rowB 11 (r.ofs.map Ofc.cs).flatten 112 5 y.sO)++((rowB 14 (r.pls.map Plan.cs).flatten 118 5 y.sP)++((rowB 17 (r.fls.map Fil.cs).flatten 86 8 y.sF)++((rowB 104 (r.sls.map Sel.cs).flatten 134 3 y.sS)++((rowB 107 (r.pps.map Prp.cs).flatten 42 5 y.sQ)++(rowB 110 (r.crs.map Crt.cs).flatten 60 6 y.sK)))))))),[]⟩ a w:=S
 obtain ⟨F,S⟩:=jdv (j:=4) S hD rfl (by rw[jbr (cs:=Hld.cs) (z:=7) (fun _=>rfl)]; exact Nat.le_refl _) (ja7 (ja2 (q:=98) _) (ja7 (ja2 (q:=11) _) (ja7 (ja2 (q:=14) _) (ja7 (ja2 (q:=17) _) (ja7 (ja2 (q:=104) _) (ja7 (ja2 (q:=107) _) (ja2 (q:=110) _)))))));rw[jc8 (cs:=Hld.cs) (z:=7) (fun _=>rfl)] at S
 replace S:SimS Tryz.prog T M F0 w0 F ρ ⟨180,[(2,.p 2 0)],(2,Blk.var [sOpt r.ofs.length y.sO,sOpt r.pls.length y.sP,sOpt r.fls.length y.sF,ruls r.rls,hlds r.hls,sOpt r.cks.length y.sC,sOpt r.sls.length y.sS,sOpt r.pps.length y.sQ,apvs r.aps,sOpt r.crs.length y.sK,deps r.dps,vi r.chg])::((rowB 98 (r.cks.map Clk.cs).flatten 56 5 y.sC)++((rowB 11 (r.ofs.map Ofc.cs).flatten 112 5 y.sO)++((rowB 14 (r.pls.map Plan.cs).flatten 118 5 y.sP)++((rowB 17 (r.fls.map Fil.cs).flatten 86 8 y.sF)++((rowB 104 (r.sls.map Sel.cs).flatten 134 3 y.sS)++((rowB 107 (r.pps.map Prp.cs).flatten 42 5 y.sQ)++(rowB 110 (r.crs.map Crt.cs).flatten 60 6 y.sK))))))),[]⟩ a w:=S
 obtain ⟨F,S⟩:=jdv (j:=5) S hC rfl (by rw[jbr (cs:=Clk.cs) (z:=5) (fun _=>rfl)]; exact Nat.le_refl _) (ja7 (ja2 (q:=11) _) (ja7 (ja2 (q:=14) _) (ja7 (ja2 (q:=17) _) (ja7 (ja2 (q:=104) _) (ja7 (ja2 (q:=107) _) (ja2 (q:=110) _))))));rw[jc8 (cs:=Clk.cs) (z:=5) (fun _=>rfl)] at S
 replace S:SimS Tryz.prog T M F0 w0 F ρ ⟨180,[(2,.p 2 0)],(2,Blk.var [sOpt r.ofs.length y.sO,sOpt r.pls.length y.sP,sOpt r.fls.length y.sF,ruls r.rls,hlds r.hls,clks r.cks,sOpt r.sls.length y.sS,sOpt r.pps.length y.sQ,apvs r.aps,sOpt r.crs.length y.sK,deps r.dps,vi r.chg])::((rowB 11 (r.ofs.map Ofc.cs).flatten 112 5 y.sO)++((rowB 14 (r.pls.map Plan.cs).flatten 118 5 y.sP)++((rowB 17 (r.fls.map Fil.cs).flatten 86 8 y.sF)++((rowB 104 (r.sls.map Sel.cs).flatten 134 3 y.sS)++((rowB 107 (r.pps.map Prp.cs).flatten 42 5 y.sQ)++(rowB 110 (r.crs.map Crt.cs).flatten 60 6 y.sK)))))),[]⟩ a w:=S
 obtain ⟨F,S⟩:=jdv (j:=0) S hO rfl (by rw[jbr (cs:=Ofc.cs) (z:=5) (fun _=>rfl)]; exact Nat.le_refl _) (ja7 (ja2 (q:=14) _) (ja7 (ja2 (q:=17) _) (ja7 (ja2 (q:=104) _) (ja7 (ja2 (q:=107) _) (ja2 (q:=110) _)))));rw[jc8 (cs:=Ofc.cs) (z:=5) (fun _=>rfl)] at S
 replace S:SimS Tryz.prog T M F0 w0 F ρ ⟨180,[(2,.p 2 0)],(2,Blk.var [ofcs r.ofs,sOpt r.pls.length y.sP,sOpt r.fls.length y.sF,ruls r.rls,hlds r.hls,clks r.cks,sOpt r.sls.length y.sS,sOpt r.pps.length y.sQ,apvs r.aps,sOpt r.crs.length y.sK,deps r.dps,vi r.chg])::((rowB 14 (r.pls.map Plan.cs).flatten 118 5 y.sP)++((rowB 17 (r.fls.map Fil.cs).flatten 86 8 y.sF)++((rowB 104 (r.sls.map Sel.cs).flatten 134 3 y.sS)++((rowB 107 (r.pps.map Prp.cs).flatten 42 5 y.sQ)++(rowB 110 (r.crs.map Crt.cs).flatten 60 6 y.sK))))),[]⟩ a w:=S
 obtain ⟨F,S⟩:=jdv (j:=1) S hP rfl (by rw[jbr (cs:=Plan.cs) (z:=5) (fun _=>rfl)]; exact Nat.le_refl _) (ja7 (ja2 (q:=17) _) (ja7 (ja2 (q:=104) _) (ja7 (ja2 (q:=107) _) (ja2 (q:=110) _))));rw[jc8 (cs:=Plan.cs) (z:=5) (fun _=>rfl)] at S
 replace S:SimS Tryz.prog T M F0 w0 F ρ ⟨180,[(2,.p 2 0)],(2,Blk.var [ofcs r.ofs,jcb r.pls,sOpt r.fls.length y.sF,ruls r.rls,hlds r.hls,clks r.cks,sOpt r.sls.length y.sS,sOpt r.pps.length y.sQ,apvs r.aps,sOpt r.crs.length y.sK,deps r.dps,vi r.chg])::((rowB 17 (r.fls.map Fil.cs).flatten 86 8 y.sF)++((rowB 104 (r.sls.map Sel.cs).flatten 134 3 y.sS)++((rowB 107 (r.pps.map Prp.cs).flatten 42 5 y.sQ)++(rowB 110 (r.crs.map Crt.cs).flatten 60 6 y.sK)))),[]⟩ a w:=S
 obtain ⟨F,S⟩:=jdv (j:=2) S hF rfl (by rw[jbr (cs:=Fil.cs) (z:=8) (fun _=>rfl)]; exact Nat.le_refl _) (ja7 (ja2 (q:=104) _) (ja7 (ja2 (q:=107) _) (ja2 (q:=110) _)));rw[jc8 (cs:=Fil.cs) (z:=8) (fun _=>rfl)] at S
 replace S:SimS Tryz.prog T M F0 w0 F ρ ⟨180,[(2,.p 2 0)],(2,Blk.var [ofcs r.ofs,jcb r.pls,fils r.fls,ruls r.rls,hlds r.hls,clks r.cks,sOpt r.sls.length y.sS,sOpt r.pps.length y.sQ,apvs r.aps,sOpt r.crs.length y.sK,deps r.dps,vi r.chg])::((rowB 104 (r.sls.map Sel.cs).flatten 134 3 y.sS)++((rowB 107 (r.pps.map Prp.cs).flatten 42 5 y.sQ)++(rowB 110 (r.crs.map Crt.cs).flatten 60 6 y.sK))),[]⟩ a w:=S
 obtain ⟨F,S⟩:=jdv (j:=6) S hS rfl (by rw[jbr (cs:=Sel.cs) (z:=3) (fun _=>rfl)]; exact Nat.le_refl _) (ja7 (ja2 (q:=107) _) (ja2 (q:=110) _));rw[jc8 (cs:=Sel.cs) (z:=3) (fun _=>rfl)] at S
 replace S:SimS Tryz.prog T M F0 w0 F ρ ⟨180,[(2,.p 2 0)],(2,Blk.var [ofcs r.ofs,jcb r.pls,fils r.fls,ruls r.rls,hlds r.hls,clks r.cks,sels r.sls,sOpt r.pps.length y.sQ,apvs r.aps,sOpt r.crs.length y.sK,deps r.dps,vi r.chg])::((rowB 107 (r.pps.map Prp.cs).flatten 42 5 y.sQ)++(rowB 110 (r.crs.map Crt.cs).flatten 60 6 y.sK)),[]⟩ a w:=S
 obtain ⟨F,S⟩:=jdv (j:=7) S hQ rfl (by rw[jbr (cs:=Prp.cs) (z:=5) (fun _=>rfl)]; exact Nat.le_refl _) (ja2 (q:=110) _);rw[jc8 (cs:=Prp.cs) (z:=5) (fun _=>rfl)] at S
 replace S:SimS Tryz.prog T M F0 w0 F ρ ⟨180,[(2,.p 2 0)],(2,Blk.var [ofcs r.ofs,jcb r.pls,fils r.fls,ruls r.rls,hlds r.hls,clks r.cks,sels r.sls,prps r.pps,apvs r.aps,sOpt r.crs.length y.sK,deps r.dps,vi r.chg])::(rowB 110 (r.crs.map Crt.cs).flatten 60 6 y.sK),[]⟩ a w:=S
 refine ⟨F,ρ,_,S,fun i=>(cs_k r y.sK).getD i (vi 0),rfl,?_⟩;cases hs:y.sK with
 | none=>rw[hs] at hK; exact .inl ⟨none,hK,rfl,rfl⟩
 | some z=>rw[hs] at hK; exact .inr ⟨110,_,z.1,by rfl,rfl,some z,hK,rfl,rfl⟩
end Go.Arc
set_option maxRecDepth 100000
namespace Go.Arc
open Go.Ab Go.RowKit Go.Proofs
variable {T : Lay}
abbrev jqj:List V:=[.val (.slice none 0 0),.val (.slice none 0 0),.val (.slice none 0 0),.val (.slice none 0 0),.val (.slice none 0 0),.val (.slice none 0 0),.val (.slice none 0 0),.val (.slice none 0 0),.val (.slice none 0 0),.val (.slice none 0 0),.val (.slice none 0 0),vi 0]
theorem wk_zeroC:Wk (.agg jqj) (.agg jlf.cs):= .agg rfl (fun c hc=>by
  have:∀c∈jlf.cs,c.one=true:=by
   intro c hc;simp only[Rgs.cs,List.mem_cons,List.not_mem_nil,or_false] at hc;rcases hc with rfl | rfl | rfl | rfl | rfl | rfl | rfl | rfl | rfl | rfl | rfl | rfl <;> rfl
  exact this c hc) fun j v u e1 e2=>by
 match j with
 | 0=>cases e1; cases e2; exact .nil _
 | 1=>cases e1; cases e2; exact .nil _
 | 2=>cases e1; cases e2; exact .nil _
 | 3=>cases e1; cases e2; exact .nil _
 | 4=>cases e1; cases e2; exact .nil _
 | 5=>cases e1; cases e2; exact .nil _
 | 6=>cases e1; cases e2; exact .nil _
 | 7=>cases e1; cases e2; exact .nil _
 | 8=>cases e1; cases e2; exact .nil _
 | 9=>cases e1; cases e2; exact .nil _
 | 10=>cases e1; cases e2; exact .nil _
 | 11=>cases e1; cases e2; exact .refl _
 | j+12=>cases e1
theorem wk_zero2 (e:Int):Wk (.tup [.agg jqj,vi e]) (.tup [.agg jlf.cs,vi e]):= .t2 wk_zeroC (.refl _)
end Go.Arc
set_option maxRecDepth 100000
namespace Go.Arc
open Go.Ab Go.RowKit Go.Proofs
variable {T : Lay}
end Go.Arc
set_option maxRecDepth 100000
namespace Go.Arc
open Go.Ab Go.RowKit Go.Proofs
variable {T : Lay}
def PostC2 (res:Rgs) (u:Crt) (ks:List (Nat×Blk)) (b:Blk) (v:V):Prop:=ks=[(999000,.var res.cs),(999001,.var u.cs)]/\(∃cs,b= .con cs)/\v= .tup []
theorem postC2_ok {res:Rgs} {u:Crt} {ks:List (Nat×Blk)} {b:Blk} {v:V} (h:PostC2 res u ks b v):okZ ks=true/\Ab.look 999050 ks=none:=by
 obtain ⟨rfl,-,-⟩:=h;exact ⟨rfl,rfl⟩
theorem finVc2 {P:Program} {res:Rgs} {u:Crt} {st:St} {i:Nat} {cs:List V} (h1:Ab.look 999000 st.h=some (.var res.cs)) (h0:Ab.look 999001 st.h=some (.var u.cs)) (h2:Ab.look i st.h=some (.con cs)) (hi:i ∉ [999000,999001]:=by decide):fpostV P [] (PostC2 res u) .nm st:=by
 refine ⟨[(999000,.var res.cs),(999001,.var u.cs)],.con cs,.tup [],⟨rfl,⟨cs,rfl⟩,rfl⟩,?_,⟨i,.con cs,h2,?_,hi⟩,.tup [],rfl,.refl _⟩
 ·intro x hx;simp only[List.mem_cons,List.not_mem_nil,or_false] at hx;rcases hx with rfl | rfl
  ·exact ⟨_,h1,WkB.self _ _ _⟩
  ·exact ⟨_,h0,WkB.self _ _ _⟩
 ·have:=WkB.con (ex:=[]) (Wks.refl cs);rw[List.append_nil] at this;exact this
abbrev gr143:List Gent:=⟨bz 11 0,11,.one 0 0⟩::⟨bz 11 1,10,.one 1 0⟩::⟨bz 11 3,9,.alt [(2,1),(5,0)]⟩::⟨bz 11 35,8,.alt [(2,1),(6,3)]⟩::⟨bz 11 7,8,.one 3 1⟩::⟨bz 11 39,7,.one 3 4⟩::⟨bz 11 15,7,.alt [(4,1),(5,3)]⟩::⟨bz 11 99,7,.alt [(2,1)]⟩::⟨bz 11 31,6,.alt [(5,2)]⟩::⟨bz 11 103,6,.one 3 2⟩::⟨bz 11 47,6,.alt [(4,0),(6,1)]⟩::⟨bz 11 63,5,.alt [(6,1)]⟩::⟨bz 11 111,5,.alt [(4,0)]⟩::⟨bz 11 127,4,.alt [(7,0)]⟩::⟨bz 11 255,3,.alt [(8,0)]⟩::⟨bz 11 511,2,.one 9 0⟩::⟨bz 11 1023,1,.alt [(10,0)]⟩::⟨bz 11 2047,0,.fin⟩::[]
set_option maxHeartbeats 8000000 in
theorem denV_k2 (r:Rgs) (u:Crt) (s:Option (Nat×Nat)) (hs:okB r.crs.length s) (hb:r.crs.length<=1048576):DenV Tryz.prog T 55 [(999000,.var (cs_k r s)),(999001,.var u.cs)] 999050 (row_k r s) [.p 999000 0,.p 999001 0] (PostC2 (morC r u) u):=by
 have post:∀(r:Rgs) (u:Crt),∀(M:Nat->Prop) (F0:Frz) (w0:World) (F:Frz) (ρ:Nat->Nat) (st:St) (a:Act) (w:World) (e:AX),SimS Tryz.prog T M F0 w0 F ρ st a w->endX Tryz.prog T .nm (fun x:Nat×Nat=>r.crs.length+1<=x.2/\x.2<=maxLen) (fun x:Nat×Nat=>⟨13,[],[(10,Blk.var ((r.crs++[u]).map Crt.cs).flatten (some x.1) (some (60,6,x.2))),(999000,Blk.var [ofcs r.ofs,jcb r.pls,fils r.fls,ruls r.rls,hlds r.hls,clks r.cks,sels r.sls,prps r.pps,apvs r.aps,.val (.slice (some ⟨x.1,0,none⟩) (r.crs.length+1) x.2),deps r.dps,vi r.chg]),(999001,Blk.var u.cs)],[]⟩) e st->∃F' ρ' st',SimS Tryz.prog T M F0 w0 F' ρ' st' a w/\fpostV Tryz.prog [] (PostC2 (morC r u) u) e st':=by
  rintro r u M F0 w0 F ρ st a w e X ⟨rfl,x,⟨hx1,hx2⟩,hs⟩;obtain ⟨F',X⟩:=cell_frz (k:=10) (id:=999000) (j:=9) (n:=r.crs.length+1) (size:=6) (hs _ _ _ _ _ _ _ X) rfl rfl (by decide) rfl hx1 hx2 (by rw[jbr (cs:=Crt.cs) (z:=6) (fun _=>rfl),List.length_append]; exact Nat.le_refl _);have hch:=jc8 (cs:=Crt.cs) (z:=6) (fun _=>rfl) (r.crs++[u]);rw[List.length_append] at hch;simp only[fcSt] at X;rw[show jeh 0 (r.crs.length+1) 6 ((r.crs++[u]).map Crt.cs).flatten=(r.crs++[u]).map Crt.cs from hch] at X;exact ⟨F',ρ,_,X,finVc2 (i:=10) rfl rfl rfl⟩
 rcases s with _ | ⟨b,c⟩
 ·have hz:r.crs=[]:=List.eq_nil_of_length_eq_zero hs;have hz1:r.crs.length+1=1:=by rw[hz]; rfl
  refine jpm follows (fun args w=>Tryz.call55 args w) Tryz.func55 rfl 13 rfl rfl ?_ (fun _ _ _ h=>postC2_ok h);have hrow0:([]:List V)++[Crt.cs u].flatten=((r.crs++[u]).map Crt.cs).flatten:=by rw[hz]; rfl
  ·show aw _ _ _ (St.mk 13 [(0,.p 999000 0),(1,.p 999001 0)] [(999000,.var [ofcs r.ofs,jcb r.pls,fils r.fls,ruls r.rls,hlds r.hls,clks r.cks,sels r.sls,prps r.pps,apvs r.aps,.val (.slice none 0 0),deps r.dps,vi r.chg]),(999001,.var u.cs)] []) _
   refine jie (aw_endX .nm (fun x:Nat×Nat=>r.crs.length+1<=x.2/\x.2<=maxLen) (fun x:Nat×Nat=>⟨13,[],[(10,Blk.var ((r.crs++[u]).map Crt.cs).flatten (some x.1) (some (60,6,x.2))),(999000,Blk.var [ofcs r.ofs,jcb r.pls,fils r.fls,ruls r.rls,hlds r.hls,clks r.cks,sels r.sls,prps r.pps,apvs r.aps,.val (.slice (some ⟨x.1,0,none⟩) (r.crs.length+1) x.2),deps r.dps,vi r.chg]),(999001,Blk.var u.cs)],[]⟩) ?_) (post r u);intro E hE;refine runD jb1 ?_;refine jb0 gr143 ?_;refine jh3 jb1 ?_
   try simp only[and_self,and_self_left,and_self_right,jbc,jbp]
   refine jhq ?_;unfold appR;refine jh3 jb1 ?_;intro r' cap' hnm h1 h2;rw[hrow0];refine jh3 jb1 ?_;refine ⟨rfl,?_⟩;refine hE (r',cap') _ ⟨by rw[hz]; exact h1,h2⟩ ?_;exact jbb [] [] rfl rfl rfl (fun _ _ e=>by rw[hz1] at e; exact e) rfl
 ·obtain ⟨hc1,hc2⟩:r.crs.length<=c/\c<=maxLen:=hs;have hw:=jbr (cs:=Crt.cs) (z:=6) (fun _=>rfl) r.crs;have hrow:(r.crs.map Crt.cs).flatten++[Crt.cs u].flatten=((r.crs++[u]).map Crt.cs).flatten:=by rw[List.map_append,List.flatten_append]; rfl
  refine jpm follows (fun args w=>Tryz.call55 args w) Tryz.func55 rfl 13 rfl rfl ?_ (fun _ _ _ h=>postC2_ok h)
  ·show aw _ _ _ (St.mk 13 [(0,.p 999000 0),(1,.p 999001 0)] [(999000,.var [ofcs r.ofs,jcb r.pls,fils r.fls,ruls r.rls,hlds r.hls,clks r.cks,sels r.sls,prps r.pps,apvs r.aps,.val (.slice (some ⟨b,0,none⟩) r.crs.length c),deps r.dps,vi r.chg]),(999001,.var u.cs),(999050,.var (r.crs.map Crt.cs).flatten (some b) (some (60,6,c)))] []) _
   refine jie (aw_endX .nm (fun x:Nat×Nat=>r.crs.length+1<=x.2/\x.2<=maxLen) (fun x:Nat×Nat=>⟨13,[],[(10,Blk.var ((r.crs++[u]).map Crt.cs).flatten (some x.1) (some (60,6,x.2))),(999000,Blk.var [ofcs r.ofs,jcb r.pls,fils r.fls,ruls r.rls,hlds r.hls,clks r.cks,sels r.sls,prps r.pps,apvs r.aps,.val (.slice (some ⟨x.1,0,none⟩) (r.crs.length+1) x.2),deps r.dps,vi r.chg]),(999001,Blk.var u.cs)],[]⟩) ?_) (post r u);intro E hE;refine runD (ai hw jb1) ?_;refine jb0 gr143 ?_;refine jh3 (ai hw jb1) ?_
   try simp only[and_self,and_self_left,and_self_right,jbc,jbp]
   refine jhq ?_;unfold appR;refine jh3 (ai hw jb1) ?_;refine ⟨hc1,⟨Nat.le_trans hb (by decide),by have:r.crs.length<=1048576:=hb; omega⟩,.inr trivial,?_⟩;intro r' cap' hnm h1 h2;rw[hrow];refine jh3 (ai hw jb1) ?_;refine ⟨rfl,?_⟩;refine hE (r',cap') _ ⟨h1,h2⟩ ?_;exact jbb [] [] rfl rfl rfl (fun _ _ e=>e) rfl
set_option maxHeartbeats 4000000 in
theorem denS_changed_k (L:LibT T) (r:Rgs) (h:r.Fit) (u:Crt) (hres:(morC r u).Fit) (p0:Nat):
  DenS Tryz.prog T 44 [(999000,.var u.cs (some p0))] [] [.v (.agg r.cs),.v (.func 55 [.val (.pointer (some ⟨p0,0,none⟩))])] [(999000,.var u.cs (some p0))] [] (.v (.tup [.agg (chgd (morC r u)).1.cs,vi (chgd (morC r u)).2])):=by
 have hck:=ji8 L (morC r u) hres;have hC:=denU_clone_k (T:=T) r h;refine jau follows (fun args w=>Tryz.call44 args w) Tryz.func44 rfl 19 rfl rfl ?_;refine run ?_;refine jq3 (callU 9 hC ?_ ?_)
 ·rintro rr ⟨s,hs,hro,rfl⟩;have hs0:s=none:=by cases s with | none=>rfl | some z=>cases hro
  subst hs0;have hD:=denV_k2 (T:=T) r u none hs h.crs.1;unfold cs_k at hD ⊢;refine runW jb1 ?_;refine callV ⟨[(999000,6),(999001,999000)],999050,10,_,_,_,_,hD,.cons (.p rfl) (.cons (.pn rfl rfl) .nil),rfl,rfl,?_,(fun _=>rfl),(by show (10:Nat)<19; decide),?_⟩
  ·intro x hx;simp only[rowL,row_k,Option.map_none,List.append_nil,List.mem_cons,List.not_mem_nil,or_false] at hx;rcases hx with rfl | rfl
   ·exact ⟨6,_,rfl,rfl,rfl,.inl rfl,rfl⟩
   ·exact ⟨999000,_,rfl,rfl,rfl,.inl rfl,rfl⟩
  rintro ks b v ⟨rfl,⟨cs,rfl⟩,rfl⟩;refine ⟨rfl,fun _=> ?_⟩;simp only[jbj,setb,lk,ja6,jbx,jgt,unT_v,unT_p,jgs,Nat.reduceEqDiff,↓reduceIte,Blk.wn,Blk.nm,remK,jdj,jdx,cond_false];refine run ?_;refine call hck ?_;by_cases hz:jhl (morC r u)=0
  ·refine runW hz ?_;have e:chgd (morC r u)=(morC r u,0):=by unfold chgd; rw[if_neg (fun h=>h hz)]
   rw[e];exact jrr (.v (.refl _))
  ·refine runW (eq_false hz) ?_;have e:chgd (morC r u)=(jlf,jhl (morC r u)):=by unfold chgd; rw[if_pos hz]
   rw[e];exact jrr (.v (wk_zero2 _))
 ·rintro b rr ⟨s,hs,hro,rfl⟩ hnm;obtain ⟨z,rfl⟩:∃z,s=some z:=by cases s with | none=>cases hro | some z=>exact ⟨z,rfl⟩
  have hD:=denV_k2 (T:=T) r u (some z) hs h.crs.1;cases hro;unfold cs_k at hD ⊢;refine runW jb1 ?_;refine callV ⟨[(999000,6),(999001,999000)],999050,9,_,some _,_,_,hD,.cons (.p rfl) (.cons (.pn rfl rfl) .nil),rfl,rfl,?_,(fun h=>nomatch h),(by show (9:Nat)<19; decide),?_⟩
  ·intro x hx;simp only[rowL,List.cons_append,List.nil_append,List.mem_cons,List.not_mem_nil,or_false] at hx;rcases hx with rfl | rfl | rfl
   ·exact ⟨6,_,rfl,rfl,rfl,.inl rfl,rfl⟩
   ·exact ⟨999000,_,rfl,rfl,rfl,.inl rfl,rfl⟩
   ·exact ⟨9,_,rfl,rfl,rfl,.inr rfl,rfl⟩
  rintro ks b2 v ⟨rfl,⟨cs,rfl⟩,rfl⟩;refine ⟨rfl,fun _=> ?_⟩;simp only[jbj,setb,lk,ja6,jbx,jgt,unT_v,unT_p,jgs,Nat.reduceEqDiff,↓reduceIte,Blk.wn,Blk.nm,remK,jdj,jdx,cond_false];refine run ?_;refine call hck ?_;by_cases hz:jhl (morC r u)=0
  ·refine runW hz ?_;have e:chgd (morC r u)=(morC r u,0):=by unfold chgd; rw[if_neg (fun h=>h hz)]
   rw[e];exact jrr (.v (.refl _))
  ·refine runW (eq_false hz) ?_;have e:chgd (morC r u)=(jlf,jhl (morC r u)):=by unfold chgd; rw[if_pos hz]
   rw[e];exact jrr (.v (wk_zero2 _))
end Go.Arc
set_option maxRecDepth 100000
namespace Go.Arc
open Go.Ab Go.RowKit Go.Proofs
variable {T : Lay}
theorem den_arch1 (c:Clk) (a:Apv):Den Tryz.prog T 123 [.agg c.cs,.row a.cs] (vb (archC a.clk c)):=by
 refine ja0 follows (fun args w=>Tryz.call123 args w) Tryz.func123 rfl 14 rfl ?_;unfold archC;by_cases h1:c.id=a.clk
 ·refine runW (eq_true h1) ?_;refine fin (jad ?_);simp
 ·refine runW (eq_false h1) ?_;refine fin (jad ?_);simp
abbrev apvL (r:Rgs) (n d:Int) (k:Nat):List Apv:=(r.aps.take k).filter (forA n d)
abbrev arcA (r:Rgs) (a:Apv):Bool:=r.cks.any (archC a.clk)
theorem apvL_in {r:Rgs} {n d:Int} {k:Nat} {a:Apv} (ha:r.aps[k]? = some a) (hf:forA n d a=true):apvL r n d (k+1)=apvL r n d k++[a]:=by
 unfold apvL;rw[jqr ha,List.filter_append,List.filter_cons_of_pos hf];rfl
theorem apvL_out {r:Rgs} {n d:Int} {k:Nat} {a:Apv} (ha:r.aps[k]? = some a) (hf:¬forA n d a=true):apvL r n d (k+1)=apvL r n d k:=by
 unfold apvL;rw[jqr ha,List.filter_append,List.filter_cons_of_neg hf];simp
theorem apvL_len (r:Rgs) (n d:Int) (k:Nat):(apvL r n d k).length<=k:=by
 have h1:=List.length_filter_le (forA n d) (r.aps.take k);have h2:(r.aps.take k).length<=k:=List.length_take_le _ _;exact Nat.le_trans h1 h2
set_option maxHeartbeats 4000000 in
theorem den_approvedD (r:Rgs) (h:r.Fit) (n d:Int):Den Tryz.prog T 68 [.agg r.cs,vi n,vi d] (vb (apvB r n d)):=by
 have hl:=h.aps;have hA:∀a:Apv,Den Tryz.prog T 122 [clks r.cks,.func 123 [.row a.cs]] (vb (arcA r a)):=fun a=>den_anyClk r.cks _ _ (archC a.clk) h.cks.1 fun c _=>den_arch1 c a;refine ja0 follows (fun args w=>Tryz.call68 args w) Tryz.func68 rfl 43 rfl ?_;refine run ?_
 refine loop ⟨[1,2,3,7,8,12,13,14],[3],[],[]⟩ (fun k:Nat=>k<=r.aps.length) (fun k=>r.aps.length-k)
  (fun k=>⟨43,[(1,.v (vi n)),(2,.v (vi d)),(3,.p 3 0),(7,.v (vi (apvL r n d k).length)),(8,.v (vb ((apvL r n d k).any (arcA r)))),(12,.v (apvs r.aps)),(13,.v (vi r.aps.length)),(14,.v (vi k))],[(3,.var r.cs)],[]⟩) 0 (Nat.zero_le _) ?_
 intro k hk;have hle:=apvL_len r n d k;by_cases hlt:k<r.aps.length
 ·obtain ⟨a,ha,-,-⟩:=ja8 hlt;have hin:=fun hf=>apvL_in (r:=r) (n:=n) (d:=d) ha hf;have hout:=fun hf=>apvL_out (r:=r) (n:=n) (d:=d) ha hf;obtain ⟨X,hX⟩:∃X,apvL r n d k=X:=⟨_,rfl⟩;rw[hX] at hle hin hout;by_cases h1:a.prp=n
  ·by_cases h2:d<a.day
   ·have hno:=hout (by unfold forA; simp; omega);refine runW (ai hX (ai ha (eq_true h1))) ?_;refine round (k+1) hlt (by omega) ?_;rw[hno];rfl
   ·have hyes:=hin (by unfold forA; simp; omega);have hyl:(apvL r n d (k+1)).length=X.length+1:=by rw[hyes,List.length_append]; rfl
    have hya:(apvL r n d (k+1)).any (arcA r)=(X.any (arcA r) || arcA r a):=by rw[hyes,List.any_append]; simp
    cases hX2:X.any (arcA r)
    ·refine runW (ai hX (ai ha (ai (eq_true h1) hX2))) ?_;refine call (hA a) ?_;refine run ?_;refine round (k+1) hlt (by omega) ?_;rw[hyl,hya,hX2,Bool.false_or];rfl
    ·refine runW (ai hX (ai ha (ai (eq_true h1) hX2))) ?_;refine round (k+1) hlt (by omega) ?_;rw[hyl,hya,hX2,Bool.true_or];rfl
  ·have hno:=hout (by unfold forA; simp[h1]);refine runW (ai hX (ai ha (eq_false h1))) ?_;refine round (k+1) hlt (by omega) ?_;rw[hno];rfl
 ·have hk:k=r.aps.length:=by omega
  subst hk;have he:apvL r n d r.aps.length=r.aps.filter (forA n d):=by unfold apvL; rw[List.take_length]
  have hB:apvB r n d=(decide (2<=(apvL r n d r.aps.length).length) && (apvL r n d r.aps.length).any (arcA r)):=by rw[he]; rfl
  rw[hB];obtain ⟨X,hX⟩:∃X,apvL r n d r.aps.length=X:=⟨_,rfl⟩;rw[hX] at hle ⊢;by_cases h2:2<=X.length
  ·refine runW hX ?_;refine fin (jad ?_);simp[h2]
  ·refine runW hX ?_;refine fin (jad ?_);simp[h2]
theorem den_ready11 (L:LibC T) (r:Rgs) (h:r.Fit) (f d:Int):Den Tryz.prog T 71 [vi f,.row r.cs,.row [vi d]] (vb (jq1 r d f)):=by
 have hO:=den_On L r h f d;unfold jq1;obtain ⟨v,hv⟩:∃v,onV r f d=v:=⟨_,rfl⟩;rw[hv] at hO ⊢;refine ja0 follows (fun args w=>Tryz.call71 args w) Tryz.func71 rfl 21 rfl ?_;refine run ?_;refine call hO ?_;by_cases h1:onE r f d=0
 ·rw[h1];refine run ?_;refine fin (jad ?_);simp
 ·refine runW (eq_false h1) ?_;refine fin (jad ?_);simp
theorem den_ready1 (L:LibC T) (r:Rgs) (h:r.Fit) (p:Prp) (hp:p.fls.length<=1048576) (d:Int):Den Tryz.prog T 69 [.row p.cs,.row r.cs,.row [vi d]] (rowV (p.fls.any (jq1 r d),21)):=by
 refine ja0 follows (fun args w=>Tryz.call69 args w) Tryz.func69 rfl 9 rfl ?_;refine run ?_;refine call (jhh p.fls _ _ (jq1 r d) hp fun f _=>den_ready11 L r h f d) ?_;refine run ?_;exact finC1 (.refl _)
set_option maxHeartbeats 4000000 in
theorem den_readyD (L:LibC T) (r:Rgs) (h:r.Fit) (p:Prp) (hp:p.fls.length<=1048576) (d:Int):Den Tryz.prog T 28 [.agg r.cs,.agg p.cs,vi d] (vi (readyE r p d)):=by
 have he:readyE r p d=fstB [(decide (d<p.day),5),(decide (p.wdr<=d) || certd r.crs p.id,11),(!apvB r p.id d,22),(p.fls.any (jq1 r d),21)]:=by
  unfold readyE;simp only[fstB];by_cases h1:d<p.day
  ·rw[if_pos h1,if_pos (decide_eq_true h1)]
  rw[if_neg h1,decide_eq_false h1];by_cases h2:p.wdr<=d\/certd r.crs p.id=true
  ·rw[if_pos h2,(by simpa using h2:(decide (p.wdr<=d) || certd r.crs p.id)=true)];rfl
  rw[if_neg h2,(by simpa using h2:(decide (p.wdr<=d) || certd r.crs p.id)=false)];cases apvB r p.id d <;> rfl
 rw[he]
 have hF:∀b1 b2 b3,Den Tryz.prog T 66 [.slice 1 [wRow b1 5,wRow b2 11,wRow b3 22,[.func 69 [.row p.cs,.row r.cs,.row [vi d]]]]] (vi (fstB [(b1,5),(b2,11),(b3,22),(p.fls.any (jq1 r d),21)])):=fun b1 b2 b3=>
  jhg _ _ (.cons (jas _ _) (.cons (jas _ _) (.cons (jas _ _) (.cons (den_ready1 L r h p hp d) .nil)))) (by show (4:Nat)<=1048576; decide)
 have hcd:=den_certified (T:=T) r h p.id;have hap:=den_approvedD (T:=T) r h p.id d;refine ja0 follows (fun args w=>Tryz.call28 args w) Tryz.func28 rfl 33 rfl ?_;by_cases h1:p.wdr<=d
 ·rw[decide_eq_true h1,Bool.true_or];refine run ?_;refine call (ja5 _ 5) ?_;refine run ?_;refine call (ja5 _ 11) ?_;refine run ?_;refine call hap ?_;refine run ?_;refine call (ja5 _ 22) ?_;refine run ?_;refine call (hF _ _ _) ?_;refine run ?_;exact fin rfl
 ·rw[decide_eq_false h1,Bool.false_or];refine run ?_;refine call (ja5 _ 5) ?_;refine run ?_;refine call hcd ?_;refine run ?_;refine call (ja5 _ 11) ?_;refine run ?_;refine call hap ?_;refine run ?_;refine call (ja5 _ 22) ?_;refine run ?_;refine call (hF _ _ _) ?_;refine run ?_;exact fin rfl
set_option maxHeartbeats 4000000 in
theorem jma (L:LibT T) (r:Rgs) (h:r.Fit) (n d:Int):Den Tryz.prog T 8 [.agg r.cs,vi n,vi d] (vi (jjc r n d)):=by
 have LC:=libC L;have hpl:=h.pps.1;refine ja0 follows (fun args w=>Tryz.call8 args w) Tryz.func8 rfl 30 rfl ?_;unfold jjc;refine run ?_;refine call (jn9 r h n) ?_;refine run ?_;refine call (ji8 L r h) ?_;by_cases hz:jhl r=0
 case neg=>
  rw[if_pos hz];refine runW (eq_false hz) ?_;exact fin rfl
 rw[if_neg (fun e=>e hz)];rcases jln (je3 n) r.pps with ⟨h1,h2⟩ | ⟨k,p,h1,hk,hx,hpm,h2⟩
 ·rw[h2];have h1:findP r.pps n= -1:=h1;rw[h1];refine runW hz ?_;exact fin rfl
 rw[h2];have h1:findP r.pps n=(k:Int):=h1;rw[h1];refine runW hz ?_;refine call (jog d) ?_;cases hd:dayG d
 ·refine run ?_;exact fin rfl
 ·rw[if_neg (by decide)];refine runW hx ?_;refine call (den_readyD LC r h p (h.pps.2 p hpm) d) ?_;refine run ?_;exact fin rfl
end Go.Arc
set_option maxRecDepth 100000
namespace Go.Arc
open Go.Ab Go.RowKit Go.Proofs
variable {T : Lay}
theorem fit_morC {r:Rgs} (h:r.Fit) {c:Crt} (hc:c.fls.length<=1048576/\c.bef.length<=1048576/\c.dig.length<=1048576) (hl:r.crs.length<1048576):(morC r c).Fit:=
  { ofs:=h.ofs,pls:=h.pls,fls:=h.fls,rls:=h.rls,hls:=h.hls,cks:=h.cks,sls:=h.sls,pps:=h.pps,aps:=h.aps,dps:=h.dps
    crs:=⟨by show (r.crs++[c]).length<=1048576; rw[List.length_append]; exact hl,fun q hq=>by
      rcases List.mem_append.1 hq with hq | hq
      · exact h.crs.2 q hq
      · rw[List.mem_singleton.1 hq]; exact hc⟩ }
abbrev zeroK:List V:=[vi 0,vi 0,vi 0,.val (.slice none 0 0),.str [],.str []]
theorem wk_zeroK:Wk (.agg zeroK) (.agg crtZ.cs):= .agg rfl (fun c hc=>by
  simp only[Crt.cs,List.mem_cons,List.not_mem_nil,or_false] at hc
  rcases hc with rfl | rfl | rfl | rfl | rfl | rfl <;> rfl) fun j v u e1 e2=>by
 match j with
 | 0=>cases e1; cases e2; exact .refl _
 | 1=>cases e1; cases e2; exact .refl _
 | 2=>cases e1; cases e2; exact .refl _
 | 3=>cases e1; cases e2; exact .nil _
 | 4=>cases e1; cases e2; exact .refl _
 | 5=>cases e1; cases e2; exact .refl _
 | j+6=>cases e1
theorem jmi (e:Int):Wk (.tup [.agg jqj,.agg zeroK,vi e]) (.tup [.agg jlf.cs,.agg crtZ.cs,vi e]):= .t3 wk_zeroC wk_zeroK (.refl _)
theorem jna (e:Int):Den Tryz.prog T 49 [vi e] (.tup [.agg jqj,.agg zeroK,vi e]):=by
 refine ja0 follows (fun args w=>Tryz.call49 args w) Tryz.func49 rfl 8 rfl ?_;refine run ?_;exact fin rfl
theorem den_depB (l:List Int) (hl:l.length<=1048576) (x:Dep):Den Tryz.prog T 51 [.agg x.cs,.row [ints l]] (vb (depB l x)):=by
 have hh:=jl3 (T:=T) l x.fil hl;refine ja0 follows (fun args w=>Tryz.call51 args w) Tryz.func51 rfl 8 rfl ?_;refine run ?_;refine call hh ?_;refine run ?_;refine fin (jad ?_);unfold depB hasI;congr 1
 funext y
 rw[decide_eq_decide];exact eq_comm
theorem aw_meetP {P:Program} {G:Prop} {c:Code} {Q:AX->St->Prop} (φ:Prop) (S:St) (h:(∀st,φ->Ab.Sub P T S st->aw P T c st Q)->G) (h2:φ->aw P T c S Q):G:=h fun _ hf hs=>aw_sub hs (h2 hf)
abbrev gr144a:List Gent:=⟨bz 14 0,14,.one 0 0⟩::⟨bz 14 1,13,.ld 1 0⟩::⟨bz 14 3,12,.ld 2 0⟩::⟨bz 14 7,11,.one 3 0⟩::⟨bz 14 15,10,.one 8 0⟩::⟨bz 14 271,9,.ld 9 0⟩::⟨bz 14 783,8,.alt [(4,0),(10,2),(11,1)]⟩::⟨bz 14 799,7,.one 5 3⟩::⟨bz 14 2831,7,.alt [(4,4),(10,3)]⟩::⟨bz 14 1807,7,.alt [(4,0),(11,2)]⟩::⟨bz 14 1823,6,.one 5 5⟩::⟨bz 14 831,6,.one 6 2⟩::⟨bz 14 3855,6,.alt [(4,2)]⟩::⟨bz 14 2847,6,.one 5 3⟩::⟨bz 14 895,5,.ld 7 4⟩::⟨bz 14 3871,5,.one 5 5⟩::⟨bz 14 1855,5,.one 6 3⟩::⟨bz 14 2879,5,.one 6 0⟩::⟨bz 14 2943,4,.ld 7 5⟩::⟨bz 14 1023,4,.alt [(10,3),(11,4)]⟩::⟨bz 14 1919,4,.ld 7 2⟩::⟨bz 14 3903,4,.one 6 0⟩::⟨bz 14 3967,3,.ld 7 3⟩::⟨bz 14 2047,3,.alt [(11,2)]⟩::⟨bz 14 3071,3,.alt [(10,1),(12,0)]⟩::⟨bz 14 7167,2,.alt [(10,1)]⟩::⟨bz 14 4095,2,.alt [(12,0)]⟩::⟨bz 14 8191,1,.alt [(13,0)]⟩::⟨bz 14 16383,0,.fin⟩::[]
abbrev gr144b:List Gent:=⟨bz 13 0,13,.one 0 0⟩::⟨bz 13 1,12,.one 1 0⟩::⟨bz 13 3,11,.one 2 0⟩::⟨bz 13 7,10,.one 3 0⟩::⟨bz 13 15,9,.ld 4 0⟩::⟨bz 13 31,8,.one 6 0⟩::⟨bz 13 95,7,.ld 7 0⟩::⟨bz 13 223,6,.one 8 0⟩::⟨bz 13 479,5,.alt [(5,1),(11,0)]⟩::⟨bz 13 2527,4,.alt [(5,1)]⟩::⟨bz 13 511,4,.alt [(9,1),(11,0)]⟩::⟨bz 13 2559,3,.alt [(9,1)]⟩::⟨bz 13 1023,3,.alt [(10,1),(11,0)]⟩::⟨bz 13 3071,2,.alt [(10,1)]⟩::⟨bz 13 2047,2,.alt [(11,0)]⟩::⟨bz 13 4095,1,.alt [(12,0)]⟩::⟨bz 13 8191,0,.fin⟩::[]
abbrev gr144c:List Gent:=⟨bz 5 0,5,.alt [(0,0),(1,1)]⟩::⟨bz 5 1,4,.alt [(1,1),(2,2)]⟩::⟨bz 5 2,4,.alt [(0,0)]⟩::⟨bz 5 3,3,.alt [(2,1)]⟩::⟨bz 5 5,3,.alt [(1,0)]⟩::⟨bz 5 7,2,.alt [(3,0)]⟩::⟨bz 5 15,1,.alt [(4,0)]⟩::⟨bz 5 31,0,.fin⟩::[]
set_option maxHeartbeats 16000000 in
theorem den_Destroy (L:LibT T) (r:Rgs) (h:r.Fit) (n d:Int) (hcr:r.crs.length<1048576):Den Tryz.prog T 20 [.agg r.cs,vi n,vi d] (.tup [.agg (desP r n d).1.cs,.agg (desP r n d).2.1.cs,vi (desP r n d).2.2]):=by
 have hrd:=jma L r h n d;have hcl:=h.crs.1;refine ja0 follows (fun args w=>Tryz.call20 args w) Tryz.func20 rfl 113 rfl ?_;refine run ?_;refine call hrd ?_;by_cases hz:jjc r n d=0
 ·obtain ⟨p,hR⟩:=jks.1 hz;have hfp:=hR.fp;rcases jln (je3 n) r.pps with ⟨-,h2⟩ | ⟨k,p',h1,hk,hx,hpm,h2⟩
  ·rw[h2] at hfp; cases hfp
  obtain rfl:p'=p:=by rw[h2] at hfp; exact Option.some.inj hfp
  have hfd:=jn9 (T:=T) r h n;rw[show findP r.pps n=(k:Int) from h1] at hfd;have hfl:=h.pps.2 p' hpm;have hpl:=h.pps.1;refine runD hz ?_;refine aw_frz 3 ?_;refine jei (st':=⟨113,[(1,.v (vi n)),(2,.v (vi d)),(3,.p 3 0),(6,.p 6 0),(7,.p 7 0),(8,.v (vi 0)),(9,.v (.func 49 []))],[(7,.var zeroK),(6,.var jqj),(3,.con r.cs)],[]⟩) ⟨[1,2,3,6,7,8,9],[7,6,3],[],[]⟩ rfl ?_;refine jlr .nm (fun _:Unit=>True) (fun _=>⟨113,[(1,.v (vi n)),(2,.v (vi d)),(3,.p 3 0),(6,.p 6 0),(7,.p 7 0),(8,.v (vi 0)),(9,.v (.func 49 [])),(11,.p 11 0),(12,.v (vi r.crs.length))],[(11,.var [ints p'.fls]),(7,.var zeroK),(6,.var jqj),(3,.con r.cs)],[]⟩) ?_ ?_
  ·intro E hE;refine jb0 gr144a ?_;refine ja9 hx ?_
   try simp only[jbc,and_assoc]
   apply viaA
   ·have hX:=fun k kn m h0=>call (T:=T) (k:=k) (kn:=kn) (m:=m) hfd h0
    repeat' (first | with_reducible apply And.imp | exact hX _ _ _)
   refine ja9 hx ?_
   try simp only[and_self,and_self_left,and_self_right,jbc,jbp]
   repeat' (with_reducible refine ai ?_ ?_)
   all_goals refine hE () _ trivial ?_
   all_goals exact jbb [3,6,7,11] [1,2,3,6,7,8,9,11,12] rfl rfl rfl (fun _ _ e=>e) rfl
  intro _ _
  show aw _ _ _ ⟨113,[(1,.v (vi n)),(2,.v (vi d)),(3,.p 3 0),(6,.p 6 0),(7,.p 7 0),(8,.v (vi 0)),(9,.v (.func 49 [])),(11,.p 11 0),(12,.v (vi r.crs.length))],[(11,.var [ints p'.fls]),(7,.var zeroK),(6,.var jqj),(3,.con r.cs)],[]⟩ _
  have hlate:(¬ 0<(r.crs.length:Int)/\lateC (jay r.crs r.crs.length) d=false)\/(0<(r.crs.length:Int)/\∃q,r.crs[r.crs.length-1]? = some q/\lateC (jay r.crs r.crs.length) d=decide (d<q.day)):=by
   unfold jay;by_cases h0:r.crs.length=0
   ·left;rw[if_pos h0];exact ⟨by omega,rfl⟩
   ·right;rw[if_neg h0];obtain ⟨q,hq,-,-⟩:=ja8 (l:=r.crs) (k:=r.crs.length-1) (by omega);rw[hq];exact ⟨by omega,q,rfl,rfl⟩
  have hE0:desE r n d=if lateC (jay r.crs r.crs.length) d=true then 5 else if r.dps.any (depB p'.fls)=true then 6 else 0:=by
   unfold desE;rw[if_neg (fun e=>e hz),hfp]
  have hfail:∀e,desE r n d=e->e≠0->desP r n d=(jlf,crtZ,e):=fun e h1 h2=>by
   unfold desP;rw[if_pos (by rw[h1]; exact h2),h1]
  apply aw_meetP (lateC (jay r.crs r.crs.length) d=false) ⟨113,[(1,.v (vi n)),(2,.v (vi d)),(3,.p 3 0),(6,.p 6 0),(7,.p 7 0),(8,.v (vi 0)),(9,.v (.func 49 [])),(11,.p 11 0),(12,.v (vi r.crs.length))],[(11,.var [ints p'.fls]),(7,.var zeroK),(6,.var jqj),(3,.con r.cs)],[]⟩
  ·intro tail;rcases hlate with ⟨h0,hl⟩ | ⟨h0,q,hq,hl⟩
   ·refine runMk (eq_false h0) ?_;refine tail _ hl ?_;exact jbb [3,6,7,11] [1,2,3,6,7,8,9,11,12] rfl rfl rfl (fun _ _ e=>e) rfl
   ·by_cases hdq:d<q.day
    ·rw[hfail 5 (by rw[hE0,hl,decide_eq_true hdq]; rfl) (by decide)];refine runW (ai hq hdq) ?_;refine call (jna _) ?_;refine run ?_;exact finW (jmi _)
    ·refine runMk (ai hq (eq_false hdq)) ?_;refine tail _ (by rw[hl,decide_eq_false hdq]) ?_;exact jbb [3,6,7,11] [1,2,3,6,7,8,9,11,12] rfl rfl rfl (fun _ _ e=>e) rfl
  intro hl;have hE:desE r n d=if r.dps.any (depB p'.fls)=true then 6 else 0:=by rw[hE0,if_neg (by rw[hl]; decide)]
  have hdepC:=den_anyDep (T:=T) r.dps 51 [.row [ints p'.fls]] (depB p'.fls) h.dps (fun e _=>den_depB p'.fls hfl e);refine run ?_;refine call hdepC ?_;by_cases hdep:r.dps.any (depB p'.fls)=true
  ·rw[hfail 6 (by rw[hE,if_pos hdep]) (by decide)];refine runW hdep ?_;refine call (jna _) ?_;refine run ?_;exact finW (jmi _)
  rw[if_neg hdep] at hE;have hfls:=flsP_some hfp
  have hP:desP r n d=if crtB (newC r n d p'.fls)=false then (jlf,crtZ,1) else
    if jhl (morC r (newD r n d p'.fls))≠0 then (jlf,crtZ,jhl (morC r (newD r n d p'.fls))) else (morC r (newD r n d p'.fls),newD r n d p'.fls,0):=by
   unfold desP;rw[if_neg (fun e=>e hE),hfls]
  have hbl:(befC r.crs r.crs.length).length=32:=befC_len hR.ok;have hcp:=(jf6 (T:=T) p'.fls hfl).den;have hbf:=js9 L r.crs r.crs.length hcl (Nat.le_refl _);refine runD (Bool.eq_false_iff.2 hdep) ?_;refine jlr .nm (fun _:Unit=>True) (fun _=>⟨113,[(1,.v (vi n)),(2,.v (vi d)),(3,.p 3 0),(6,.p 6 0),(7,.p 7 0),(8,.v (vi 0)),(9,.v (.func 49 [])),(13,.p 13 0)],[(13,.var (newC r n d p'.fls).cs),(11,.con [ints p'.fls]),(7,.var zeroK),(6,.var jqj),(3,.con r.cs)],[]⟩) ?_ ?_
  ·intro E hE1;refine jb0 gr144b ?_;refine ja9 trivial ?_
   try simp only[and_self,and_self_left,and_self_right,jbc,jbp,and_assoc]
   apply viaA
   ·have hX:=fun k kn m h0=>call (T:=T) (k:=k) (kn:=kn) (m:=m) hcp h0
    repeat' (first | with_reducible apply And.imp | exact hX _ _ _)
   refine ja9 trivial ?_
   try simp only[and_self_right]
   apply viaA
   ·have hX:=fun k kn m h0=>call (T:=T) (k:=k) (kn:=kn) (m:=m) hbf h0
    repeat' (first | with_reducible apply And.imp | exact hX _ _ _)
   refine ja9 trivial ?_
   try simp only[and_self,and_self_left,and_self_right,jbc,jbp]
   repeat' (with_reducible refine ai ?_ ?_)
   all_goals refine hE1 () _ trivial ?_
   all_goals exact jbb [3,6,7,11,13] [1,2,3,6,7,8,9,13] rfl rfl rfl (fun _ _ e=>e) rfl
  intro _ _
  show aw _ _ _ ⟨113,[(1,.v (vi n)),(2,.v (vi d)),(3,.p 3 0),(6,.p 6 0),(7,.p 7 0),(8,.v (vi 0)),(9,.v (.func 49 [])),(13,.p 13 0)],[(13,.var (newC r n d p'.fls).cs),(11,.con [ints p'.fls]),(7,.var zeroK),(6,.var jqj),(3,.con r.cs)],[]⟩ _
  refine aw_name 13 ?_;intro b _;refine jei (st':=⟨113,[(1,.v (vi n)),(2,.v (vi d)),(3,.p 3 0),(6,.p 6 0),(7,.p 7 0),(8,.v (vi 0)),(9,.v (.func 49 [])),(13,.p 13 0)],[(13,.var (newC r n d p'.fls).cs (some b)),(7,.var zeroK),(6,.var jqj),(3,.con r.cs)],[]⟩) ⟨[1,2,3,6,7,8,9,13],[13,7,6,3],[],[]⟩ rfl ?_;have hdg:=jsd L (newC r n d p'.fls) hfl (by show (befC r.crs r.crs.length).length<=1048576; omega);refine run ?_;refine call hdg ?_;by_cases hcb:crtB (newC r n d p'.fls)=true
  ·have hdv:digV (newC r n d p'.fls)= .tup [.str (sumD (crtT (newC r n d p'.fls))),vi 0]:=digV_ok ((jqi _).1 hcb);rw[hdv];have hD:=denS_changed_k L r h (newD r n d p'.fls) (fit_morC h ⟨hfl,by show (befC r.crs r.crs.length).length<=1048576; omega,by show (sumD _).length<=1048576; rw[jq6]; decide⟩ hcr) b;rw[if_neg (by rw[hcb]; decide)] at hP;refine runW trivial ?_;refine jq3 (callS [(999000,13)] hD (.cons (.v _) (.cons (.v _) .nil)) ?_ ?_)
   ·intro x hx;simp only[List.mem_singleton] at hx;subst hx;exact ⟨13,_,rfl,rfl,rfl,.inr rfl,rfl⟩
   by_cases hc14:jhl (morC r (newD r n d p'.fls))=0
   ·rw[if_neg (fun e=>e hc14)] at hP;have e:chgd (morC r (newD r n d p'.fls))=(morC r (newD r n d p'.fls),0):=by unfold chgd; rw[if_neg (fun h=>h hc14)]
    rw[e,hP];refine runW trivial ?_;refine call hcp ?_;refine runD trivial ?_;refine jlr .nm (fun _:Unit=>True) (fun _=>⟨113,[(6,.p 6 0),(7,.p 7 0),(8,.v (vi 0))],[(7,.var (newD r n d p'.fls).cs),(6,.var (morC r (newD r n d p'.fls)).cs)],[]⟩) ?_ ?_
    ·intro E hE1;refine jb0 gr144c ?_;refine ja9 trivial ?_
     try simp only[and_self,and_self_left,and_self_right,jbc,jbp]
     repeat' (with_reducible refine ai ?_ ?_)
     all_goals refine hE1 () _ trivial ?_
     all_goals exact jbb [6,7] [6,7,8] rfl rfl rfl (fun i k e=>by
      rw[ja3,ja3] at e;split at e
      ·rename_i he; subst he; exact e
      split at e
      ·rename_i he; subst he; exact e
      ·cases e) rfl
    intro _ _
    show aw _ _ _ ⟨113,[(6,.p 6 0),(7,.p 7 0),(8,.v (vi 0))],[(7,.var (newD r n d p'.fls).cs),(6,.var (morC r (newD r n d p'.fls)).cs)],[]⟩ _
    refine run ?_;exact fin rfl
   ·rw[if_pos hc14] at hP;have e:chgd (morC r (newD r n d p'.fls))=(jlf,jhl (morC r (newD r n d p'.fls))):=by unfold chgd; rw[if_pos hc14]
    rw[e,hP];refine runW (eq_false hc14) ?_;refine call (jna _) ?_;refine run ?_;exact finW (jmi _)
  ·have hdv:digV (newC r n d p'.fls)= .tup [.str [],vi 1]:=ji6 (fun h=>hcb ((jqi _).2 h));rw[hdv];rw[if_pos (Bool.eq_false_iff.2 hcb)] at hP;rw[hP];refine run ?_;refine call (jna _) ?_;refine run ?_;exact finW (jmi _)
 ·have he:desP r n d=(jlf,crtZ,jjc r n d):=by unfold desP desE; rw[if_pos hz,if_pos hz]
  rw[he];refine runW (eq_false hz) ?_;refine call (jna _) ?_;refine run ?_;exact finW (jmi _)
end Go.Arc
set_option maxRecDepth 100000
namespace Go.Arc
open Go.Ab Go.RowKit Go.Proofs
variable {T : Lay}
def ex14:Rgs:=⟨[⟨1,[65],0,1048576,[]⟩],[⟨1,0,1048576,[⟨[49],[84]⟩,⟨[49,46,49],[84]⟩],[]⟩],[⟨7,1,5,10,[49,46,49],[84],0,[]⟩],[⟨3,[49],[99,108,111,115,101,100],0,false,1,0,1048576⟩],[⟨2,1,7,[],[82],12,20⟩],
 [⟨1,1,[65],0,1048576⟩,⟨2,1,[66],0,1048576⟩,⟨3,2,[67],0,1048576⟩],[],[⟨1,11,1,[7],1048576⟩],[⟨1,11,2⟩,⟨1,20,3⟩],[],[],0⟩
theorem ex14_des:desE ex14 1 20=0:=by decide +kernel
theorem ex14_chk:jhl ex14=0:=by decide +kernel
theorem ex14_rdy:jjc ex14 1 19=22:=by decide +kernel
inductive WkS (size:Nat):List (List V)->List (List V)->Prop
 | nil:WkS size [] []
 | cons {a b:List V} {l m:List (List V)} (h:Wks a b) (hs:b.length=size) (ho:(b.all fun v=>v.one)=true) (t:WkS size l m):WkS size (a::l) (b::m)
theorem WkS.wk {size:Nat} {l m:List (List V)} (h:WkS size l m):Wk (.slice size l) (.slice size m):=by
  have hl:l.length=m.length:=by induction h with | nil=>rfl | cons _ _ _ _ ih=>simp[ih]
  refine Wk.slice hl (fun e he=> ?_) (fun e he c hc=> ?_) ?_
  · clear hl
    induction h with
    | nil=>cases he
    | cons _ hs _ _ ih => rcases List.mem_cons.1 he with rfl | he; · exact hs
                          · exact ih he
  · clear hl
    induction h with
    | nil=>cases he
    | cons _ _ ho _ ih => rcases List.mem_cons.1 he with rfl | he; · exact List.all_eq_true.1 ho c hc
                          · exact ih he
  · clear hl
    induction h with
    | nil=>intro i j e u v c h1; simp at h1
    | cons hw _ _ _ ih=>
      intro i j e u v c h1 h2 h3 h4;cases i with
      | zero=>
        simp only[List.getElem?_cons_zero,Option.some.injEq] at h1 h2;subst h1 h2;obtain ⟨v',q1,q2⟩:=hw.get h4;rw[h3] at q1;cases q1;exact q2
      | succ i=>exact ih i j e u v c (by simpa using h1) (by simpa using h2) h3 h4
theorem ex14_fit:ex14.Fit:=by
 refine ⟨⟨by decide,fun o ho=> ?_⟩,⟨by decide,fun p hp=> ?_⟩,⟨by decide,fun f hf=> ?_⟩,⟨by decide,fun q hq=> ?_⟩,⟨by decide,fun q hq=> ?_⟩,⟨by decide,fun q hq=> ?_⟩,⟨by decide,fun q hq=>(by cases hq)⟩,⟨by decide,fun q hq=> ?_⟩,by decide,⟨by decide,fun q hq=>(by cases hq)⟩,by decide⟩
 ·simp only[ex14,List.mem_cons,List.not_mem_nil,or_false] at ho;subst ho;exact ⟨by decide,by decide⟩
 ·simp only[ex14,List.mem_cons,List.not_mem_nil,or_false] at hp;subst hp;refine ⟨by decide,by decide,fun c hc=> ?_,fun c hc=>(by cases hc)⟩;simp only[List.mem_cons,List.not_mem_nil,or_false] at hc;rcases hc with rfl | rfl <;> exact ⟨by decide,by decide⟩
 ·simp only[ex14,List.mem_cons,List.not_mem_nil,or_false] at hf;subst hf;exact ⟨by decide,by decide,by decide,fun n hn=>(by cases hn)⟩
 ·simp only[ex14,List.mem_cons,List.not_mem_nil,or_false] at hq;subst hq;exact ⟨by decide,by decide⟩
 ·simp only[ex14,List.mem_cons,List.not_mem_nil,or_false] at hq;subst hq;exact ⟨by decide,by decide⟩
 ·simp only[ex14,List.mem_cons,List.not_mem_nil,or_false] at hq;rcases hq with rfl | rfl | rfl <;> decide
 ·simp only[ex14,List.mem_cons,List.not_mem_nil,or_false] at hq;subst hq;decide
theorem den_example14:Den Tryz.prog T 21 [] (.agg ex14.cs):=by
 refine ja0 follows (fun args w=>Tryz.call21 args w) Tryz.func21 rfl 34 rfl ?_;refine run ?_;refine finW (wk_aggs ?_ rfl);refine .cons (WkS.wk (.cons ?_ rfl rfl .nil)) (.cons (WkS.wk (.cons ?_ rfl rfl .nil)) (.cons (WkS.wk (.cons ?_ rfl rfl .nil)) (.cons (.refl _) (.cons (.refl _) (.cons (.refl _) ?_)))))
 all_goals repeat (first | exact .nil | refine .cons (.refl _) ?_ | refine .cons (.nil _) ?_)
def ex14T:Str:=[99,101,114,116,105,102,105,99,97,116,101,32,49,32,112,114,111,112,111,115,97,108,32,49,32,100,97,121,32,50,48,32,102,105,108,101,115,32,55,10]
theorem ex14_txt:crtT (newC ex14 1 20 [7])=ex14T++List.replicate 32 0:=by decide +kernel
theorem ex14_crt:crtB (newC ex14 1 20 [7])=true:=by decide +kernel
theorem crtT_dig (c:Crt) (s:Str):crtT { c with dig:=s } = crtT c:=rfl
theorem crtB_dig (c:Crt) (s:Str):crtB { c with dig:=s } = crtB c:=rfl
theorem ex14_chain:chainR [newD ex14 1 20 [7]]=(-1,0):=by
 have h:jlh [newD ex14 1 20 [7]] 0=true:=by
  unfold jlh;simp only[List.getElem?_cons_zero];unfold linkC newD;rw[crtT_dig,crtB_dig,ex14_crt];simp only[Bool.true_and];decide +kernel
 unfold chainR;rw[jnk (by decide) fun i hi=> ?_];have:i=0:=by simp at hi; exact hi
 subst this;rw[if_pos h]
theorem ex14_desP:desP ex14 1 20=(morC ex14 (newD ex14 1 20 [7]),newD ex14 1 20 [7],0):=by
 rw[desP_eq 1 20 (by decide) (fun p hp=>by
  simp only[ex14,List.mem_cons,List.not_mem_nil,or_false] at hp;subst hp
  decide)]
 unfold desR;rw[if_neg (fun e=>e ex14_des)];rfl
theorem byL_zero:∀n:Nat,byL (List.replicate n (vb8 0))=some (List.replicate n 0)
 | 0=>rfl
 | n+1=>by rw[List.replicate_succ,byL,byL_zero n]; rfl
set_option maxHeartbeats 8000000 in
theorem den_awake14 (L:LibT T):Den Tryz.prog T 6 [] (vb true):=by
 have c0:=den_example14 (T:=T)
 have c1:Den Tryz.prog T 20 [.agg ex14.cs,vi 1,vi 20] (.tup [.agg (morC ex14 (newD ex14 1 20 [7])).cs,.agg (newD ex14 1 20 [7]).cs,vi 0]):=by
  have:=den_Destroy L ex14 ex14_fit 1 20 (by decide)
  rwa [ex14_desP] at this
 have c2:=jnf L (ex14T++List.replicate 32 0) (by decide)
 have c4:Den Tryz.prog T 11 [.agg ex14.cs] (vi 0):=by
  have:=ji8 L ex14 ex14_fit
  rwa [ex14_chk] at this
 have c5:Den Tryz.prog T 8 [.agg ex14.cs,vi 1,vi 19] (vi 22):=by
  have:=jma L ex14 ex14_fit 1 19
  rwa [ex14_rdy] at this
 have hdig:(newD ex14 1 20 [7]).dig=sumD (ex14T++List.replicate 32 0):=by rw[<- ex14_txt]; rfl
 have hcrs:(morC ex14 (newD ex14 1 20 [7])).crs=[newD ex14 1 20 [7]]:=rfl
 have c3:Den Tryz.prog T 23 [crts (morC ex14 (newD ex14 1 20 [7])).crs] (.tup [vi (-1),vi 0]):=by
  have:=den_ChainD L [newD ex14 1 20 [7]] ⟨by decide,fun c hc=>by
   rw[List.mem_singleton.1 hc];refine ⟨by decide,by decide +kernel,?_⟩;rw[hdig,jq6]
   decide⟩
  rw[ex14_chain] at this;exact this
 have hlen:(morC ex14 (newD ex14 1 20 [7])).crs.length=1:=rfl;have hsl:=jq6 (ex14T++List.replicate 32 0);obtain ⟨R,hR⟩:∃R,morC ex14 (newD ex14 1 20 [7])=R:=⟨_,rfl⟩;obtain ⟨D,hD⟩:∃D,newD ex14 1 20 [7]=D:=⟨_,rfl⟩;obtain ⟨S,hS⟩:∃S,sumD (ex14T++List.replicate 32 0)=S:=⟨_,rfl⟩;obtain ⟨X,hX⟩:∃X,ex14=X:=⟨_,rfl⟩;rw[hR,hD] at c1;rw[hR] at c3 hlen;rw[hD,hS] at hdig;rw[hS] at c2 hsl;rw[hX] at c0 c1 c4 c5;clear hR hD hS hX hcrs;have hby:=byL_zero 32;refine ja0 follows (fun args w=>Tryz.call6 args w) Tryz.func6 rfl 62 rfl ?_;refine run ?_;refine call c0 ?_;refine run ?_;refine call c1 ?_;refine runW hby ?_;intro r' hnm;have q1:(List.replicate 32 (vb8 0)).length=32:=rfl;have q2:List.take 32 (List.replicate 32 (vb8 0))=List.replicate 32 (vb8 0):=rfl;have q3:(List.replicate 32 (0:UInt8)).length=32:=rfl;refine runW (ai q1 (ai q2 (ai q3 hby))) ?_;refine call c2 ?_;refine runW trivial ?_;refine call c3 ?_;refine runW hlen ?_;refine call c4 ?_;refine runW hlen ?_;refine call c5 ?_;refine runW (ai hlen (ai hdig hsl)) ?_;exact fin rfl
end Go.Arc
set_option maxRecDepth 100000
namespace Go.Arc
open Go.Ab Go.RowKit Go.Proofs
variable {T : Lay}
def bigC (c:Crt):Bool:=(decide (12<c.fls.length) && !decide (c.fls.length=257)) || decide (100<c.bef.length) || decide (100<c.dig.length)
def manyCh (l:List Crt):Bool:=(decide (12<l.length) && decide (l.length<=1024)) || decide (1029<l.length)
def fewCh (l:List Crt):Bool:= !manyCh l && !l.any bigC
def manyK (r:Rgs):Bool:=(decide (10<r.cks.length) && decide (r.cks.length<=32)) || decide (37<r.cks.length) || decide (8<r.pps.length) || decide (20<r.aps.length)
def few14 (r:Rgs):Bool:=fewG r && !manyK r && !(r.cks.any fun c=>decide (100<c.name.length)) && !(r.pps.any fun p=>decide (12<p.fls.length)) && fewCh r.crs
theorem den_FewChain (l:List Crt) (hl:l.length<=1048576/\∀c∈l,c.fls.length<=1048576/\c.bef.length<=1048576/\c.dig.length<=1048576):Den Tryz.prog T 25 [crts l] (vb (fewCh l)):=by
 obtain ⟨hl0,hl1⟩:=hl;refine ja0 follows (fun args w=>Tryz.call25 args w) Tryz.func25 rfl 57 rfl ?_;unfold fewCh
 have hm:(manyCh l=true/\((12<l.length/\l.length<=1024)\/1029<l.length))\/(manyCh l=false/\¬ 1029<l.length/\(12<l.length->¬l.length<=1024)):=by
  unfold manyCh;by_cases h1:12<l.length <;> by_cases h2:l.length<=1024 <;> by_cases h3:1029<l.length <;> simp[h1,h2,h3] <;> omega
 rcases hm with ⟨h0,h1⟩ | ⟨h0,h3,h4⟩
 ·rw[h0];rcases h1 with ⟨h1,h2⟩ | h3
  ·refine run ?_;exact fin rfl
  ·refine run ?_;exact fin rfl
 rw[h0];by_cases h1:12<l.length
 ·have h2:=h4 h1;refine runW trivial ?_;refine loop ⟨[0,3],[],[],[]⟩ (fun k:Nat=>k<=l.length/\∀c∈l.take k,bigC c=false) (fun k=>l.length-k) (fun k=>⟨57,[(0,.v (crts l)),(3,.v (vi k))],[],[]⟩) 0 ⟨Nat.zero_le _,by simp⟩ ?_;rintro k ⟨hk,hall⟩;by_cases hlt:k<l.length
  ·obtain ⟨c,hx,-,hmm⟩:=ja8 hlt;obtain ⟨hf,hb,hd⟩:=hl1 c hmm;have bad:bigC c=true->l.any bigC=true:=fun h=>List.any_eq_true.2 ⟨c,hmm,h⟩;have next:bigC c=false->∀x∈l.take (k+1),bigC x=false:=fun h=>jac hall hx h;by_cases q1:12<c.fls.length
   ·by_cases q2:c.fls.length=257
    ·by_cases q3:100<c.bef.length
     ·rw[bad (by unfold bigC; simp[q3])];refine runW hx ?_;exact fin rfl
     ·by_cases q4:100<c.dig.length
      ·rw[bad (by unfold bigC; simp[q4])];refine runW hx ?_;exact fin rfl
      ·refine runW hx ?_;exact round (k+1) ⟨hlt,next (by unfold bigC; simp[q2,q3,q4])⟩ (by omega)
    ·rw[bad (by unfold bigC; simp[q1,q2])];refine runW hx ?_;exact fin rfl
   ·by_cases q3:100<c.bef.length
    ·rw[bad (by unfold bigC; simp[q3])];refine runW hx ?_;exact fin rfl
    ·by_cases q4:100<c.dig.length
     ·rw[bad (by unfold bigC; simp[q4])];refine runW hx ?_;exact fin rfl
     ·refine runW hx ?_;exact round (k+1) ⟨hlt,next (by unfold bigC; simp[q1,q3,q4])⟩ (by omega)
  ·have ha:l.any bigC=false:=List.any_eq_false.2 fun x hx=>by rw[jdt hall hlt x hx]; decide
   rw[ha];refine run ?_;exact fin rfl
 ·refine runW trivial ?_;refine loop ⟨[0,3],[],[],[]⟩ (fun k:Nat=>k<=l.length/\∀c∈l.take k,bigC c=false) (fun k=>l.length-k) (fun k=>⟨57,[(0,.v (crts l)),(3,.v (vi k))],[],[]⟩) 0 ⟨Nat.zero_le _,by simp⟩ ?_;rintro k ⟨hk,hall⟩;by_cases hlt:k<l.length
  ·obtain ⟨c,hx,-,hmm⟩:=ja8 hlt;obtain ⟨hf,hb,hd⟩:=hl1 c hmm;have bad:bigC c=true->l.any bigC=true:=fun h=>List.any_eq_true.2 ⟨c,hmm,h⟩;have next:bigC c=false->∀x∈l.take (k+1),bigC x=false:=fun h=>jac hall hx h;by_cases q1:12<c.fls.length
   ·by_cases q2:c.fls.length=257
    ·by_cases q3:100<c.bef.length
     ·rw[bad (by unfold bigC; simp[q3])];refine runW hx ?_;exact fin rfl
     ·by_cases q4:100<c.dig.length
      ·rw[bad (by unfold bigC; simp[q4])];refine runW hx ?_;exact fin rfl
      ·refine runW hx ?_;exact round (k+1) ⟨hlt,next (by unfold bigC; simp[q2,q3,q4])⟩ (by omega)
    ·rw[bad (by unfold bigC; simp[q1,q2])];refine runW hx ?_;exact fin rfl
   ·by_cases q3:100<c.bef.length
    ·rw[bad (by unfold bigC; simp[q3])];refine runW hx ?_;exact fin rfl
    ·by_cases q4:100<c.dig.length
     ·rw[bad (by unfold bigC; simp[q4])];refine runW hx ?_;exact fin rfl
     ·refine runW hx ?_;exact round (k+1) ⟨hlt,next (by unfold bigC; simp[q1,q3,q4])⟩ (by omega)
  ·have ha:l.any bigC=false:=List.any_eq_false.2 fun x hx=>by rw[jdt hall hlt x hx]; decide
   rw[ha];refine run ?_;exact fin rfl
theorem den_Few14 (r:Rgs) (h:r.Fit):Den Tryz.prog T 7 [.agg r.cs] (vb (few14 r)):=by
 have hk:=h.cks.1;have hp:=h.pps.1;have ha:=h.aps;have hG:=den_FewG (T:=T) r h;have hC:=den_FewChain (T:=T) r.crs h.crs;refine ja0 follows (fun args w=>Tryz.call7 args w) Tryz.func7 rfl 71 rfl ?_;unfold few14;refine run ?_;refine call hG ?_;cases e1:fewG r
 ·refine run ?_;exact fin rfl
 have hm:(manyK r=true/\((10<r.cks.length/\r.cks.length<=32)\/37<r.cks.length\/(8<r.pps.length/\¬ 37<r.cks.length/\(10<r.cks.length->¬r.cks.length<=32))\/(20<r.aps.length/\¬ 8<r.pps.length/\¬ 37<r.cks.length/\(10<r.cks.length->¬r.cks.length<=32))))\/
   (manyK r=false/\¬ 20<r.aps.length/\¬ 8<r.pps.length/\¬ 37<r.cks.length/\(10<r.cks.length->¬r.cks.length<=32)):=by
  unfold manyK;by_cases h1:10<r.cks.length <;> by_cases h2:r.cks.length<=32 <;> by_cases h3:37<r.cks.length <;> by_cases h4:8<r.pps.length <;> by_cases h5:20<r.aps.length <;> simp[h1,h2,h3,h4,h5] <;> omega
 rcases hm with ⟨h0,h1⟩ | ⟨h0,h5,h4,h3,h2⟩
 ·rw[h0];rcases h1 with ⟨h1,h2⟩ | h3 | ⟨h4,h3,h2⟩ | ⟨h5,h4,h3,h2⟩
  ·refine run ?_;exact fin rfl
  ·refine run ?_;exact fin rfl
  ·by_cases h1:10<r.cks.length
   ·have:=h2 h1;refine run ?_;exact fin rfl
   ·refine run ?_;exact fin rfl
  ·by_cases h1:10<r.cks.length
   ·have:=h2 h1;refine run ?_;exact fin rfl
   ·refine run ?_;exact fin rfl
 rw[h0];apply aw_meet1 ⟨71,[(1,.p 1 0),(3,.v (vi (0:Nat)))],[(1,.var r.cs)],[]⟩
 ·intro tail;by_cases h1:10<r.cks.length
  ·have:=h2 h1;refine run ?_;exact tail _ (jbb [1] [1,3] rfl rfl rfl (fun _ _ e=>e) rfl)
  ·refine run ?_;exact tail _ (jbb [1] [1,3] rfl rfl rfl (fun _ _ e=>e) rfl)
 refine loop ⟨[1,3],[1],[],[]⟩ (fun k:Nat=>k<=r.cks.length/\∀c∈r.cks.take k,decide (100<c.name.length)=false) (fun k=>r.cks.length-k)
  (fun k=>⟨71,[(1,.p 1 0),(3,.v (vi k))],[(1,.var r.cs)],[]⟩) 0 ⟨Nat.zero_le _,by simp⟩ ?_
 rintro k ⟨hk,hall⟩;by_cases hlt:k<r.cks.length
 ·obtain ⟨c,hx,-,hmm⟩:=ja8 hlt;have hn:=h.cks.2 c hmm;by_cases q1:100<c.name.length
  ·have:(r.cks.any fun c=>decide (100<c.name.length))=true:=List.any_eq_true.2 ⟨c,hmm,decide_eq_true q1⟩;rw[this];refine runW hx ?_;exact fin rfl
  ·refine runW hx ?_;exact round (k+1) ⟨hlt,jac hall hx (decide_eq_false q1)⟩ (by omega)
 have hn0:(r.cks.any fun c=>decide (100<c.name.length))=false:=List.any_eq_false.2 fun x hx=>by rw[jdt hall hlt x hx]; decide
 rw[hn0];clear hall;refine run ?_
 refine loop ⟨[1,4],[1],[],[]⟩ (fun k:Nat=>k<=r.pps.length/\∀c∈r.pps.take k,decide (12<c.fls.length)=false) (fun k=>r.pps.length-k)
  (fun k=>⟨71,[(1,.p 1 0),(4,.v (vi k))],[(1,.var r.cs)],[]⟩) 0 ⟨Nat.zero_le _,by simp⟩ ?_
 rintro j ⟨hj,hall⟩;by_cases hjl:j<r.pps.length
 ·obtain ⟨c,hx,-,hmm⟩:=ja8 hjl;have hn:=h.pps.2 c hmm;by_cases q1:12<c.fls.length
  ·have:(r.pps.any fun p=>decide (12<p.fls.length))=true:=List.any_eq_true.2 ⟨c,hmm,decide_eq_true q1⟩;rw[this];refine runW hx ?_;exact fin rfl
  ·refine runW hx ?_;exact round (j+1) ⟨hjl,jac hall hx (decide_eq_false q1)⟩ (by omega)
 have hp0:(r.pps.any fun p=>decide (12<p.fls.length))=false:=List.any_eq_false.2 fun x hx=>by rw[jdt hall hjl x hx]; decide
 rw[hp0,show (!false && fewCh r.crs)=fewCh r.crs from by cases fewCh r.crs <;> rfl];refine run ?_;refine call hC ?_;refine run ?_;exact fin rfl
structure Few14 (r:Rgs):Prop where
 g:fewG r=true
 crs:r.crs.length<=8
 pps:r.pps.length<=8
 aps:r.aps.length<=20
 cks:r.cks.length<=37
 fls:∀p∈r.pps,p.fls.length<=12
 crt:∀c∈r.crs,c.fls.length<=257/\c.bef.length<=100/\c.dig.length<=100
end Go.Arc
set_option maxRecDepth 100000
namespace Go.Arc
open Go.Ab Go.RowKit Go.Proofs
variable {T : Lay}
theorem den_needs1 (p:Prp) (n:Int):Den Tryz.prog T 10 [.agg p.cs,.row [vi n]] (vb (je3 n p)):=by
 refine ja0 follows (fun args w=>Tryz.call10 args w) Tryz.func10 rfl 8 rfl ?_;refine run ?_;exact fin rfl
theorem den_needs2 (c:Clk) (a:Apv):Den Tryz.prog T 14 [.agg c.cs,.row a.cs] (vb (isIdC a.clk c)):=by
 refine ja0 follows (fun args w=>Tryz.call14 args w) Tryz.func14 rfl 9 rfl ?_;refine run ?_;exact fin rfl
theorem den_needs3 (c:Crt) (n:Int):Den Tryz.prog T 16 [.agg c.cs,.row [vi n]] (vb (isCrtP n c)):=by
 refine ja0 follows (fun args w=>Tryz.call16 args w) Tryz.func16 rfl 8 rfl ?_;refine run ?_;exact fin rfl
def mapC (l:List Int):List (V×V):=l.map fun c=>(vi c,vb true)
theorem mapC_len (l:List Int):(mapC l).length=l.length:=List.length_map _
theorem jqp (x:Int):∀l:List Int,x ∉ l->jdg (V.val (.int .i64 x)) (V.val (.bool true)) (mapC l)=some (mapC (l++[x]))
 | [],_=>rfl
 | y::l,h=>by
  have ih:=jqp x l (fun e=>h (.tail _ e));have hne:x≠y:=fun e=>h (e▸ .head _);unfold mapC at ih ⊢;simp only[List.map_cons,jdg,ji0,if_true,hne,decide_false,ih,Option.map_some,List.cons_append]
def apvS (r:Rgs) (n d:Int) (k:Nat):Bool:=((r.aps.take k).filter (forA n d)).any fun a=>r.cks.any (archC a.clk)
theorem apvS_succ {r:Rgs} {n d:Int} {k:Nat} {a:Apv} (ha:r.aps[k]? = some a):apvS r n d (k+1)=if forA n d a=true then apvS r n d k || r.cks.any (archC a.clk) else apvS r n d k:=by
 unfold apvS;obtain ⟨hlt,rfl⟩:=List.getElem?_eq_some_iff.1 ha;rw[List.take_succ_eq_append_getElem hlt,List.filter_append,List.any_append];by_cases hf:forA n d r.aps[k]=true
 ·rw[if_pos hf,List.filter_cons_of_pos hf]; simp
 ·rw[if_neg hf,List.filter_cons_of_neg hf]; simp
set_option maxHeartbeats 16000000 in
theorem joj (L:LibT T) (r:Rgs) (n d:Int) (h:r.Fit):Den Tryz.prog T 3 [.agg r.cs,vi n,vi d] (vb true):=by
 have LC:=libC L;have hfw:=den_Few14 (T:=T) r h;have hrd:=jma L r h n d;have hck:=ji8 L r h;have hpl:=h.pps.1;have hal:=h.aps;have hcl:=h.cks.1;refine ja0 follows (fun args w=>Tryz.call3 args w) Tryz.func3 rfl 167 rfl ?_;refine run ?_;refine call (den_awake14 L) ?_;refine run ?_;refine call hfw ?_;cases hf:few14 r
 ·refine run ?_;exact fin rfl
 refine run ?_;refine call hrd ?_;by_cases hz:jjc r n d=0
 ·obtain ⟨p,hR⟩:=jks.1 hz;have hfp:=hR.fp;rcases jln (je3 n) r.pps with ⟨-,h2⟩ | ⟨k,p',h1,hk,hx,hpm,h2⟩
  ·rw[h2] at hfp; cases hfp
  obtain rfl:p'=p:=by rw[h2] at hfp; exact Option.some.inj hfp
  have hok:=jqb.2 hR.ok;rw[hok] at hck;have hix:=js4 (T:=T) r.pps 10 [.row [vi n]] (je3 n) hpl (fun p _=>den_needs1 p n);rw[h1] at hix;have hP:=hR.ok.prp hx;have hne:=hP.ne;have hl1:¬p'.fls.length=0:=fun e=>hne (List.eq_nil_of_length_eq_zero e);have hfl:=h.pps.2 p' hpm;have h5:=hR.from_;have h6:=hR.wdr;refine runW hz ?_;refine call hix ?_;refine run ?_;refine call hck ?_;refine runW hx ?_
  refine loop ⟨[2,3,4,8,64,65,66],[3,4,8],[],[]⟩ (fun j:Nat=>j<=p'.fls.length) (fun j=>p'.fls.length-j)
   (fun j=>⟨167,[(2,.v (vi d)),(3,.p 3 0),(4,.p 4 0),(8,.p 8 0),(64,.v (ints p'.fls)),(65,.v (vi p'.fls.length)),(66,.v (vi j))],[(3,.var r.cs),(4,.con [vi n]),(8,.var p'.cs)],[]⟩) 0 (Nat.zero_le _) ?_
  intro j hj;by_cases hjl:j<p'.fls.length
  ·obtain ⟨f,hxf,-,hmf⟩:=ja8 hjl;obtain ⟨q1,q2,-⟩:=keepF_no (hR.fls f hmf);have hOn:=den_On (T:=T) LC r h f d;rw[q1] at hOn;refine runW hxf ?_;refine call hOn ?_;refine runW q2 ?_;exact round (j+1) hjl (by omega)
  refine run ?_
  refine loop ⟨[2,3,4,8,13,14,87,88,89],[3,4,8,85],[],[]⟩ (fun x:Nat×List Int×Bool=>x.1<=r.aps.length/\x.2.1=apvC r n d x.1/\x.2.2=apvS r n d x.1) (fun x=>r.aps.length-x.1)
   (fun x=>⟨167,[(2,.v (vi d)),(3,.p 3 0),(4,.p 4 0),(8,.p 8 0),(13,.m 85),(14,.v (vb x.2.2)),(87,.v (apvs r.aps)),(88,.v (vi r.aps.length)),(89,.v (vi x.1))],[(3,.var r.cs),(4,.con [vi n]),(8,.var p'.cs),(85,.map (mapC x.2.1))],[]⟩) (0,[],false) ⟨Nat.zero_le _,rfl,rfl⟩ ?_
  rintro ⟨j,m,b⟩ ⟨hj,hm,hb⟩;simp only at hj hm hb;by_cases hjl:j<r.aps.length
  ·obtain ⟨a,hxa,-,hma⟩:=ja8 hjl;obtain ⟨pa,hpa,hA⟩:=hR.ok.apv hxa;obtain ⟨jc,c,hc1,hc2,hc3,hc4,hc5,hc6⟩:=hR.ok.one hA.clk;have hic:=den_ixClk (T:=T) r.cks 14 [.row a.cs] (isIdC a.clk) hcl (fun c _=>den_needs2 c a);rw[hc5] at hic;have hjc:=(List.getElem?_eq_some_iff.1 hc1).1;have s1:=apvC_succ (n:=n) (d:=d) hxa;have s2:=apvS_succ (n:=n) (d:=d) hxa;refine runW hxa ?_;refine call hic ?_;by_cases g1:a.prp=n
   ·by_cases g2:a.day<=d
    ·have hfo:forA n d a=true:=by unfold forA; rw[decide_eq_true g1,decide_eq_true g2]; rfl
     rw[if_pos hfo] at s1 s2;have hnew:=hR.ok.apvNew hxa hfo;rw[<- hm] at hnew s1;rw[<- hb,hc6] at s2;have hup:=jqp a.clk m hnew;obtain rfl:p'=pa:=by rw[g1,hfp] at hpa; exact Option.some.inj hpa
     have g3:=hA.other;have g4:=hA.day
     have g5:c.frm<=a.day/\a.day<c.til:=by
      unfold inS at hc3;exact of_decide_eq_true hc3
     have g6:(a.clk=p'.clk)=False:=eq_false g3;cases b
     ·by_cases g7:c.role=2
      ·rw[decide_eq_true g7] at s2;refine runW (ai g1 (ai g6 (ai hc1 (ai hup g7)))) ?_;exact round (j+1,m++[a.clk],true) ⟨hjl,s1.symm,s2.symm⟩ (by show r.aps.length-(j+1)<r.aps.length-j; omega)
      ·rw[decide_eq_false g7] at s2;refine runW (ai g1 (ai g6 (ai hc1 (ai hup (eq_false g7))))) ?_;exact round (j+1,m++[a.clk],false) ⟨hjl,s1.symm,s2.symm⟩ (by show r.aps.length-(j+1)<r.aps.length-j; omega)
     ·refine runW (ai g1 (ai g6 (ai hc1 hup))) ?_;exact round (j+1,m++[a.clk],true) ⟨hjl,s1.symm,s2.symm⟩ (by show r.aps.length-(j+1)<r.aps.length-j; omega)
    ·have hfo:¬forA n d a=true:=by unfold forA; rw[decide_eq_false g2,Bool.and_false]; decide
     rw[if_neg hfo] at s1 s2;refine runW g1 ?_;exact round (j+1,m,b) ⟨hjl,hm.trans s1.symm,hb.trans s2.symm⟩ (by show r.aps.length-(j+1)<r.aps.length-j; omega)
   ·have hfo:¬forA n d a=true:=by unfold forA; rw[decide_eq_false g1,Bool.false_and]; decide
    rw[if_neg hfo] at s1 s2;refine runW (eq_false g1) ?_;exact round (j+1,m,b) ⟨hjl,hm.trans s1.symm,hb.trans s2.symm⟩ (by show r.aps.length-(j+1)<r.aps.length-j; omega)
  have hj2:j=r.aps.length:=by omega
  subst hj2;have hce:=joh (T:=T) r.crs 16 [.row [vi n]] (isCrtP n) h.crs.1 (fun c _=>den_needs3 c n);rw[show r.crs.any (isCrtP n)=false from hR.cert] at hce;have hap:=hR.apv;unfold apvB at hap;rw[Bool.and_eq_true,decide_eq_true_eq] at hap;have hbt:b=true:=by rw[hb]; unfold apvS; rw[List.take_length]; exact hap.2
  subst hbt
  have hml:2<=(mapC m).length:=by
   rw[mapC_len,hm];unfold apvC;rw[List.length_map,List.take_length];exact hap.1
  obtain ⟨N,hN⟩:∃N,(mapC m).length=N:=⟨_,rfl⟩;rw[hN] at hml;clear hap hR hP hm hb;have hun:Tryz.prog.underlying 49=some (.map 3 4):=TMap.und;refine runW (ai hun hN) ?_;refine call hce ?_;refine run ?_;exact fin rfl
 ·refine runW (eq_false hz) ?_;exact fin rfl
end Go.Arc
