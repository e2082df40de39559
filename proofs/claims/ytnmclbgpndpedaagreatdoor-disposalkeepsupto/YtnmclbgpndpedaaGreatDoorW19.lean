/- A part of this claim. -/
import Derived.Test.YtnmclbgpndpedaaGreatDoorW18
import Derived.Test.YtnmclbgpndpedaaGreatDoorW14
set_option maxRecDepth 100000
namespace Go.Arc
open Go.Ab Go.RowKit Go.Proofs Tryz
variable {T : Lay}
theorem trig_opened (f:Fil) (d:Int):trig f [111,112,101,110,101,100] d=onD f.opn d:=by unfold trig; exact if_pos rfl
theorem trig_closed (f:Fil) (d:Int):trig f [99,108,111,115,101,100] d=onD f.cld d:=by
 unfold trig; rw[if_neg (by decide)]; exact if_pos rfl
theorem trig_note {f:Fil} {s:Str} {d:Int} (h1:(s == [111,112,101,110,101,100])=false) (h2:(s == [99,108,111,115,101,100])=false):trig f s d=(best f s d).map fun n=>(n.fst,n.lst):=
 trig_own (fun e=>by rw[e] at h1; exact absurd h1 (by decide)) (fun e=>by rw[e] at h2; exact absurd h2 (by decide))
theorem onD_cases (a b:Int):∃x y z,datgV (onD a b)= .tup [datg x y,vb z]:=by
 unfold onD;split
 ·exact ⟨_,_,_,rfl⟩
 ·exact ⟨_,_,_,rfl⟩
theorem own_ne {f:Fil} {s:Str} {d:Int} {x:Note} {r:List Note} (h:own f s d=x::r):best f s d=some (maxN x r):=by
 unfold best; rw[h]; exact bestN_max r x
theorem jrk (f:Fil) (s:Str) (d:Int) (hf:f.Fit):Den prog T 89 [.agg f.cs,.str s,vi d] (trigV f s d):=by
 refine ae follows (fun args w=>call89 args w) func89 rfl 42 rfl ?_;cases h1:s == [111,112,101,110,101,100]
 ·cases h2:s == [99,108,111,115,101,100]
  ·have ht:=trig_note (f:=f) (d:=d) h1 h2;have hkl:(jcy f d).length<=1048576:=Nat.le_trans (List.length_filter_le _ _) hf.2.2.1;refine runW (ai h1 h2) ?_;refine callN (denN_Known f d hf) ?_ ?_
   ·intro hz;have hk:=notes_nil hz;refine run ?_;refine call (jqz _ _) ?_;have hb:best f s d=none:=by unfold best own; rw[hk]; rfl
    rw[trigV,ht,hb];refine run ?_;exact finC2 (.refl _)
   ·intro hz;have hz':jcy f d≠[]:=fun e=>hz (by rw[e]; rfl);rw[flat_cells];refine run ?_;refine callM 31 (jr3 (jcy f d) _ _ (fun n=> !named s n) hkl hz' fun n _=>den_named n s) ?_;rw[notnot];have hk:(jcy f d).filter (named s)=own f s d:=rfl;rw[hk];have hol:(own f s d).length<=1048576:=Nat.le_trans (List.length_filter_le _ _) hkl;cases ho:own f s d with
    | nil=>
     have hb:best f s d=none:=by unfold best; rw[ho]; rfl
     rw[if_pos rfl,trigV,ht,hb];refine run ?_;exact finC2 (.refl _)
    | cons x r=>
     rw[ho] at hol;have hl1:0<(x::r).length:=by simp
     have hmx:=denM_maxNote (T:=T) x r 155 hol den_cN;rw[if_neg (by simp),trigV,ht,own_ne ho];generalize x::r=l at hol hl1 hmx;refine run ?_;refine callM 31 hmx ?_;refine run ?_;exact finC2 (.refl _)
  ·have hs:s=[99,108,111,115,101,100]:=eq_of_beq h2;have ht:trig f s d=onD f.cld d:=by rw[hs]; exact trig_closed f d
   rw[trigV,ht];obtain ⟨x,y,z,e⟩:=onD_cases f.cld d;refine runW (ai h1 h2) ?_;refine call (den_at1 f.cld d) ?_;rw[e];refine run ?_;exact finC2 (.refl _)
 ·have hs:s=[111,112,101,110,101,100]:=eq_of_beq h1;have ht:trig f s d=onD f.opn d:=by rw[hs]; exact trig_opened f d
  rw[trigV,ht];obtain ⟨x,y,z,e⟩:=onD_cases f.opn d;refine runW h1 ?_;refine call (den_at1 f.opn d) ?_;rw[e];refine run ?_;exact finC2 (.refl _)
end Go.Arc
