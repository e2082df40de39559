/- A part of this claim. -/
import Derived.Test.YtagljlfkpofdnaaGreatDoorW13
namespace Go.Arc
open Go.Ab
theorem cmpL_self:∀x:List Nat,cmpL x x=0
 | []=>rfl
 | a::r=>by simp[cmpL,cmpL_self r]
theorem cmpL_trans:∀(x y z:List Nat),cmpL x y<0->cmpL y z<0->cmpL x z<0
 | [],[],_,h,_=>by simp[cmpL] at h
 | [],_::_,[],_,h=>by simp[cmpL] at h
 | [],_::_,_::_,_,_=>by simp[cmpL]
 | _::_,[],_,h,_=>by simp[cmpL] at h
 | _::_,_::_,[],_,h=>by simp[cmpL] at h
 | a::r,b::q,c::s,h1,h2=>by
  simp only[cmpL] at h1 h2 ⊢;split at h1
  ·split at h2
   ·rw[if_pos (by omega)]; decide
   ·split at h2
    ·cases h2
    ·rw[if_pos (by omega)]; decide
  ·split at h1
   ·cases h1
   ·split at h2
    ·rw[if_pos (by omega)]; decide
    ·split at h2
     ·cases h2
     ·rw[if_neg (by omega),if_neg (by omega)];exact cmpL_trans r q s h1 h2
theorem lt2_iff {a b:Str} : lt2 a b=true↔∃x y,parse a=some x/\parse b=some y/\cmpL x y<0:=by
 unfold lt2 cmp;constructor
 ·intro h;split at h
  ·rename_i n hn;split at hn
   ·rename_i x y h1 h2;cases hn;exact ⟨x,y,h1,h2,by simpa using h⟩
   ·cases hn
  ·cases h
 ·rintro ⟨x,y,h1,h2,h3⟩;rw[h1,h2]; simpa using h3
theorem lt2_trans {a b c:Str} (h:lt2 a b=true) (k:lt2 b c=true):lt2 a c=true:=by
 obtain ⟨x,y,h1,h2,h3⟩:=lt2_iff.1 h;obtain ⟨y',z,k1,k2,k3⟩:=lt2_iff.1 k;rw[h2] at k1; cases k1;exact lt2_iff.2 ⟨x,z,h1,k2,cmpL_trans x y z h3 k3⟩
theorem lt2_irr (a:Str):lt2 a a=false:=by
 cases h:lt2 a a
 ·rfl
 ·obtain ⟨x,y,h1,h2,h3⟩:=lt2_iff.1 h;rw[h1] at h2; cases h2;rw[cmpL_self] at h3; cases h3
theorem rising_all:∀ {l:List Str},rising l=true->l.Pairwise fun a b=>lt2 a b=true
 | [],_=> .nil
 | [_],_=>by simp
 | a::b::r,h=>by
  simp only[rising,Bool.and_eq_true] at h;have ih:=rising_all h.2;refine List.pairwise_cons.2 ⟨fun c hc=> ?_,ih⟩;rcases List.mem_cons.1 hc with rfl | hc
  ·exact h.1
  ·exact lt2_trans h.1 ((List.pairwise_cons.1 ih).1 c hc)
theorem rising_nodup {l:List Str} (h:rising l=true):l.Nodup:=
 (rising_all h).imp fun {a b} hab e=>by subst e; rw[lt2_irr] at hab; cases hab
end Go.Arc
