/- A part of this claim. -/
import Derived.Test.YtcmpmdgdchmojaaGreatDoorW5
set_option maxRecDepth 100000
namespace Go.Arc
open Go.Ab Go.RowKit Go.Proofs
variable {T : Lay}
abbrev parentV (s:Str):V:=match parent s with
 | some p=> .tup [.str p,vb true]
 | none=> .tup [.str [],vb false]
theorem parentV_s {s p:Str} (h:parent s=some p):parentV s= .tup [.str p,vb true]:=by simp[parentV,h]
theorem parentV_n {s:Str} (h:parent s=none):parentV s= .tup [.str [],vb false]:=by simp[parentV,h]
abbrev cmpV (a b:Str):V:=match cmp a b with
 | some n=> .tup [vi n,vi 0]
 | none=> .tup [vi 0,vi 3]
theorem cmpV_s {a b:Str} {n:Int} (h:cmp a b=some n):cmpV a b= .tup [vi n,vi 0]:=by simp[cmpV,h]
theorem cmpV_n {a b:Str} (h:cmp a b=none):cmpV a b= .tup [vi 0,vi 3]:=by simp[cmpV,h]
theorem take_map_nat (l:List Nat) (k:Nat):(l.map Cnat).take k=(l.take k).map Cnat:=List.map_take.symm
theorem den_ParentRef (s:Str) (hl:s.length<=1048576):Den Tryz.prog T 328 [.str s] (parentV s):=by
 refine den_of_body follows (fun args w=>Tryz.call328 args w) Tryz.func328 rfl 30 rfl ?_;refine run ?_;refine call (den_ParseRef s hl) ?_;cases hp:parse s with
 | none=>
  rw[parseV_n hp];refine run ?_
  (refine fin (Eq.symm (parentV_n ?_)); simp[parent,hp])
 | some l=>
  obtain ⟨h0,h6,hn⟩:=parse_some hp;have hpos:1<=l.length:=List.length_pos_iff.2 h0;rw[parseV_s hp];by_cases h2:l.length<2
  ·refine run ?_
   (refine fin (Eq.symm (parentV_n ?_)); simp[parent,hp,h2])
  ·refine runW (take_map_nat l (l.length-1)) ?_
   have hne:l.take (l.length-1)≠[]:=fun e=>by
    have:=congrArg List.length e;simp at this; omega
   refine call (den_FormatRef (l.take (l.length-1)) hne (by simp; omega) (fun n h=>hn n (List.mem_of_mem_take h))) ?_;refine run ?_
   (refine fin (Eq.symm (parentV_s ?_)); simp[parent,hp,h2])
theorem den_CompareRef (a b:Str) (ha:a.length<=1048576) (hb:b.length<=1048576):Den Tryz.prog T 348 [.str a,.str b] (cmpV a b):=by
 refine den_of_body follows (fun args w=>Tryz.call348 args w) Tryz.func348 rfl 29 rfl ?_;refine run ?_;refine call (den_ParseRef a ha) ?_;cases hp:parse a with
 | none=>
  rw[parseV_n hp];refine run ?_;refine call (den_ParseRef b hb) ?_;cases hq:parse b with
  | none=>rw[parseV_n hq]; refine run ?_; (refine fin (Eq.symm (cmpV_n ?_)); simp[cmp,hp])
  | some m=>rw[parseV_s hq]; refine run ?_; (refine fin (Eq.symm (cmpV_n ?_)); simp[cmp,hp])
 | some l=>
  obtain ⟨-,h6,-⟩:=parse_some hp;rw[parseV_s hp];refine run ?_;refine call (den_ParseRef b hb) ?_;cases hq:parse b with
  | none=>rw[parseV_n hq]; refine run ?_; (refine fin (Eq.symm (cmpV_n ?_)); simp[cmp,hp,hq])
  | some m=>
   obtain ⟨-,h6',-⟩:=parse_some hq;rw[parseV_s hq];refine run ?_;refine call (den_less l m (by omega) (by omega)) ?_;refine run ?_
   (refine fin (Eq.symm (cmpV_s ?_)); simp[cmp,hp,hq])
theorem cmpL_zero:∀(a b:List Nat),cmpL a b=0↔a=b
 | [],[]=>by simp[cmpL]
 | [],_::_=>by simp[cmpL]
 | _::_,[]=>by simp[cmpL]
 | a::r,b::q=>by
  simp only[cmpL];split
  ·simp; omega
  ·split
   ·simp; omega
   ·rw[cmpL_zero r q]; simp; omega
theorem den_WithinRef (a b:Str) (ha:a.length<=1048576) (hb:b.length<=1048576):Den Tryz.prog T 233 [.str a,.str b] (vb (within a b)):=by
 refine den_of_body follows (fun args w=>Tryz.call233 args w) Tryz.func233 rfl 41 rfl ?_;refine run ?_;refine call (den_ParseRef a ha) ?_;cases hp:parse a with
 | none=>
  rw[parseV_n hp];refine run ?_;refine call (den_ParseRef b hb) ?_;cases hq:parse b with
  | none=>rw[parseV_n hq]; refine run ?_; (refine fin (vb_eq ?_); simp[within,hp])
  | some m=>rw[parseV_s hq]; refine run ?_; (refine fin (vb_eq ?_); simp[within,hp])
 | some l=>
  obtain ⟨-,h6,-⟩:=parse_some hp;rw[parseV_s hp];refine run ?_;refine call (den_ParseRef b hb) ?_;cases hq:parse b with
  | none=>rw[parseV_n hq]; refine run ?_; (refine fin (vb_eq ?_); simp[within,hp,hq])
  | some m=>
   obtain ⟨-,h6',-⟩:=parse_some hq;rw[parseV_s hq];by_cases hlt:m.length<=l.length
   ·refine runW (take_map_nat l m.length) ?_;refine call (den_less (l.take m.length) m (by simp; omega) (by omega)) ?_;by_cases hz:l.take m.length=m
    ·have hz':=(cmpL_zero _ _).2 hz;refine runW hz' ?_
     (refine fin (vb_eq ?_); simp[within,hp,hq,hlt,hz])
    ·have hz':cmpL (l.take m.length) m≠0:=fun e=>hz ((cmpL_zero _ _).1 e);refine run ?_
     (refine fin (vb_eq ?_); simp[within,hp,hq,hlt,hz])
   ·refine run ?_
    (refine fin (vb_eq ?_); simp[within,hp,hq,hlt])
end Go.Arc
