/- A part of this claim. -/
import Derived.Test.YtcmpmdgdchmojaaGreatDoorW18
import Derived.Test.YtcmpmdgdchmojaaGreatDoorW14
set_option maxRecDepth 100000
namespace Go.Arc
open Go.Ab Go.RowKit Go.Proofs
variable {T : Lay}
theorem trig_opened (f:Fil) (d:Int):trig f [111,112,101,110,101,100] d=onD f.opn d:=by unfold trig; exact if_pos rfl
theorem trig_closed (f:Fil) (d:Int):trig f [99,108,111,115,101,100] d=onD f.cld d:=by
 unfold trig; rw[if_neg (by decide)]; exact if_pos rfl
theorem trig_note {f:Fil} {s:Str} {d:Int} (h1:(s == [111,112,101,110,101,100])=false) (h2:(s == [99,108,111,115,101,100])=false):trig f s d=(best f s d).map fun n=>(n.fst,n.lst):=
 trig_own (fun e=>by rw[e] at h1; exact absurd h1 (by decide)) (fun e=>by rw[e] at h2; exact absurd h2 (by decide))
theorem onD_cases (a b:Int):∃x y z,datgV (onD a b)= .tup [datg x y,vb z]:=by
 unfold onD;split
 ·exact ⟨_,_,_,rfl⟩
 ·exact ⟨_,_,_,rfl⟩
theorem own_ne {f:Fil} {s:Str} {d:Int} {x:Note} {r:List Note} (h:own f s d=x::r):best f s d=some (maxN x r):=by
 unfold best; rw[h]; exact bestN_max r x
theorem den_Trigger (f:Fil) (s:Str) (d:Int) (hf:f.Fit):Den Tryz.prog T 27 [.agg f.cs,.str s,vi d] (trigV f s d):=by
 refine den_of_body follows (fun args w=>Tryz.call27 args w) Tryz.func27 rfl 42 rfl ?_;cases h1:s == [111,112,101,110,101,100]
 ·cases h2:s == [99,108,111,115,101,100]
  ·have ht:=trig_note (f:=f) (d:=d) h1 h2;have hkl:(known f d).length<=1048576:=Nat.le_trans (List.length_filter_le _ _) hf.2.2.1;refine runW (And.intro h1 h2) ?_;refine callN (denN_Known f d hf) ?_ ?_
   ·intro hz;have hk:=notes_nil hz;refine run ?_;refine call (den_delNote0 _ _) ?_;have hb:best f s d=none:=by unfold best own; rw[hk]; rfl
    rw[trigV,ht,hb];refine run ?_;exact finC2 (.refl _)
   ·intro hz;have hz':known f d≠[]:=fun e=>hz (by rw[e]; rfl);rw[flat_cells];refine run ?_;refine callM 31 (denM_delNote (known f d) _ _ (fun n=> !named s n) hkl hz' fun n _=>den_named n s) ?_;rw[notnot];have hk:(known f d).filter (named s)=own f s d:=rfl;rw[hk];have hol:(own f s d).length<=1048576:=Nat.le_trans (List.length_filter_le _ _) hkl;cases ho:own f s d with
    | nil=>
     have hb:best f s d=none:=by unfold best; rw[ho]; rfl
     rw[if_pos rfl,trigV,ht,hb];refine run ?_;exact finC2 (.refl _)
    | cons x r=>
     rw[ho] at hol;have hl1:0<(x::r).length:=by simp
     have hmx:=denM_maxNote (T:=T) x r 81 hol den_cN;rw[if_neg (by simp),trigV,ht,own_ne ho];generalize x::r=l at hol hl1 hmx;refine run ?_;refine callM 31 hmx ?_;refine run ?_;exact finC2 (.refl _)
  ·have hs:s=[99,108,111,115,101,100]:=eq_of_beq h2;have ht:trig f s d=onD f.cld d:=by rw[hs]; exact trig_closed f d
   rw[trigV,ht];obtain ⟨x,y,z,e⟩:=onD_cases f.cld d;refine runW (And.intro h1 h2) ?_;refine call (den_at1 f.cld d) ?_;rw[e];refine run ?_;exact finC2 (.refl _)
 ·have hs:s=[111,112,101,110,101,100]:=eq_of_beq h1;have ht:trig f s d=onD f.opn d:=by rw[hs]; exact trig_opened f d
  rw[trigV,ht];obtain ⟨x,y,z,e⟩:=onD_cases f.opn d;refine runW h1 ?_;refine call (den_at1 f.opn d) ?_;rw[e];refine run ?_;exact finC2 (.refl _)
def bestC:Option Note->List V
 | some n=>[vi n.fst,vi n.lst]
 | none=>[vi 0,vi 0]
theorem bestN_skip {o:Option Note} {s:Str} {x:Note} {l:List Note} (h:named s x=false):bestN o ((x::l).filter (named s))=bestN o (l.filter (named s)):=by
 rw[List.filter_cons,if_neg (by simp[h])]
theorem bestN_first {s:Str} {x:Note} {l:List Note} (h:named s x=true):bestN none ((x::l).filter (named s))=bestN (some x) (l.filter (named s)):=by
 rw[List.filter_cons,if_pos h]; rfl
theorem bestN_next {m:Note} {s:Str} {x:Note} {l:List Note} (h:named s x=true):bestN (some m) ((x::l).filter (named s))=bestN (some (if gtN x m=true then x else m)) (l.filter (named s)):=by
 rw[List.filter_cons,if_pos h]; rfl
set_option maxHeartbeats 1000000 in
theorem den_TriggerRef (f:Fil) (s:Str) (d:Int) (hf:f.Fit):Den Tryz.prog T 104 [.agg f.cs,.str s,vi d] (trigV f s d):=by
 refine den_of_body follows (fun args w=>Tryz.call104 args w) Tryz.func104 rfl 79 rfl ?_;cases h1:s == [111,112,101,110,101,100]
 ·cases h2:s == [99,108,111,115,101,100]
  ·have ht:=trig_note (f:=f) (d:=d) h1 h2;have hkl:(known f d).length<=1048576:=Nat.le_trans (List.length_filter_le _ _) hf.2.2.1;refine runW (And.intro h1 h2) ?_;refine callO (den_KnownRef f d hf) ?_;rw[trigV,ht];have hb:best f s d=bestN none ((known f d).filter (named s)):=rfl;generalize known f d=K at hkl hb;refine run ?_;have hc0:bestC none=[vi 0,vi 0]:=rfl
   refine loop ⟨[1,6,8,9,10,11],[6,8],[],[]⟩ (fun y:Nat×Option Note=>y.1<=K.length/\best f s d=bestN y.2 ((K.drop y.1).filter (named s))) (fun y=>K.length-y.1)
    (fun y=>⟨79,[(1,.v (.str s)),(6,.p 6 0),(8,.p 8 0),(9,.v (vb y.2.isSome)),(10,.v (ntss K)),(11,.v (vi y.1))],[(6,.var [vi 0,vi 0]),(8,.var (bestC y.2))],[]⟩) (0,none) ⟨by simp,hb⟩ ?_
   rintro ⟨k,o⟩ ⟨hk,hall⟩;simp only at hk hall;by_cases hlt:k<K.length
   ·obtain ⟨x,hx,hd,hm⟩:=drop_at hlt;rw[hd] at hall;cases hn:named s x
    ·rw[bestN_skip hn] at hall;have hn':(x.name == s)=false:=hn;refine runW (And.intro hx hn') ?_;exact round (k+1,o) ⟨by simp only; omega,hall⟩ (by simp only; omega)
    ·have hn':(x.name == s)=true:=hn;cases o with
     | none=>
      rw[bestN_first hn] at hall;refine runW (And.intro hx (And.intro hn' hc0)) ?_;exact round (k+1,some x) ⟨by simp only; omega,hall⟩ (by simp only; omega)
     | some m=>
      rw[bestN_next hn] at hall;have hcm:bestC (some m)=[vi m.fst,vi m.lst]:=rfl;by_cases g1:m.lst<x.lst
      ·have hg:gtN x m=true:=by simp[gtN,g1]
       rw[if_pos hg] at hall;refine runW (And.intro hx (And.intro hn' hcm)) ?_;exact round (k+1,some x) ⟨by simp only; omega,hall⟩ (by simp only; omega)
      ·by_cases g2:x.lst=m.lst
       ·by_cases g3:m.fst<x.fst
        ·have hg:gtN x m=true:=by simp[gtN,g2,g3]
         rw[if_pos hg] at hall;refine runW (And.intro hx (And.intro hn' hcm)) ?_;exact round (k+1,some x) ⟨by simp only; omega,hall⟩ (by simp only; omega)
        ·have hg:¬gtN x m=true:=by simp[gtN,g2,g3]
         rw[if_neg hg] at hall;refine runW (And.intro hx (And.intro hn' hcm)) ?_;exact round (k+1,some m) ⟨by simp only; omega,hall⟩ (by simp only; omega)
       ·have hg:¬gtN x m=true:=by simp[gtN,g1,g2]
        rw[if_neg hg] at hall;refine runW (And.intro hx (And.intro hn' hcm)) ?_;exact round (k+1,some m) ⟨by simp only; omega,hall⟩ (by simp only; omega)
   ·rw[List.drop_eq_nil_of_le (show K.length<=k by omega)] at hall;have hall:best f s d=o:=by rw[hall]; cases o <;> rfl
    rw[hall];cases o with
    | none=>
     refine runW hc0 ?_;exact finC2 (.refl _)
    | some m=>
     have hcm:bestC (some m)=[vi m.fst,vi m.lst]:=rfl;refine runW hcm ?_;exact finC2 (.refl _)
  ·have hs:s=[99,108,111,115,101,100]:=eq_of_beq h2;have ht:trig f s d=onD f.cld d:=by rw[hs]; exact trig_closed f d
   rw[trigV,ht];obtain ⟨x,y,z,e⟩:=onD_cases f.cld d;refine runW (And.intro h1 h2) ?_;refine call (den_on f.cld d) ?_;rw[e];refine run ?_;exact finC2 (.refl _)
 ·have hs:s=[111,112,101,110,101,100]:=eq_of_beq h1;have ht:trig f s d=onD f.opn d:=by rw[hs]; exact trig_opened f d
  rw[trigV,ht];obtain ⟨x,y,z,e⟩:=onD_cases f.opn d;refine runW h1 ?_;refine call (den_on f.opn d) ?_;rw[e];refine run ?_;exact finC2 (.refl _)
end Go.Arc
