/- A part of this claim. -/
import Derived.Test.YtagljlfkpofdnaaGreatDoorTy
import Derived.Test.YtagljlfkpofdnaaGreatDoorSp
set_option maxRecDepth 100000
namespace Go.Arc
open Go.Ab Go.RowKit Go.Proofs
theorem follows:Tryz.prog.follows .mixedOrders=true:=by kernel_rfl
variable {T : Lay}
theorem den_ixCls (l:List Cls) (f:FuncId) (cap:List V) (p:Cls->Bool) (hl:l.length<=1048576) (hp:∀e∈l,Den Tryz.prog T f (.agg e.cs::cap) (vb (p e))):
   Den Tryz.prog T 237 [clss l,.func f cap] (vi (ix p l)):=by
  refine den_of_body follows (fun args w=>Tryz.call237 args w) Tryz.func237 rfl 19 rfl ?_;refine run ?_
  refine loop ⟨[0,1,7,8],[],[],[]⟩ (fun k:Nat=>k<=l.length/\∀e∈l.take k,p e=false) (fun k=>l.length-k)
    (fun k=>⟨19,[(0,.v (clss l)),(1,.v (.func f cap)),(7,.v (vi l.length)),(8,.v (vi k))],[],[]⟩) 0 ⟨by omega,by simp⟩ ?_
  rintro k ⟨hk,hall⟩;by_cases hlt:k<l.length
  · obtain ⟨x,hx,-,hm⟩:=drop_at hlt;refine runW hx ?_;refine call (hp x hm) ?_;cases hpc:p x
    · refine run ?_;exact round (k+1) ⟨by omega,take_snoc hall hx hpc⟩ (by omega)
    · refine run ?_;exact fin (vi_eq (ix_at hall hx hpc))
  · refine run ?_;exact fin (vi_eq (ix_none hall hlt))
theorem den_anyCls (l:List Cls) (f:FuncId) (cap:List V) (p:Cls->Bool) (hl:l.length<=1048576) (hp:∀e∈l,Den Tryz.prog T f (.agg e.cs::cap) (vb (p e))):
   Den Tryz.prog T 156 [clss l,.func f cap] (vb (l.any p)):=by
  refine den_of_body follows (fun args w=>Tryz.call156 args w) Tryz.func156 rfl 9 rfl ?_;refine run ?_;refine call (den_ixCls l f cap p hl hp) ?_;refine run ?_;exact fin (vb_eq (ix_ge p l))
theorem den_Has1 (c:Cls) (s:Str):Den Tryz.prog T 157 [.agg c.cs,.row [.str s]] (vb (c.code == s)):=by
 refine den_of_body follows (fun args w=>Tryz.call157 args w) Tryz.func157 rfl 8 rfl ?_;refine run ?_;exact fin rfl
theorem den_Has (p:Plan) (s:Str) (hl:p.cls.length<=1048576):Den Tryz.prog T 109 [.agg p.cs,.str s] (vb (has p s)):=by
 refine den_of_body follows (fun args w=>Tryz.call109 args w) Tryz.func109 rfl 9 rfl ?_;refine run ?_;refine call (den_anyCls p.cls _ _ (fun c=>c.code == s) hl fun e _=>den_Has1 e s) ?_;refine run ?_;exact fin rfl
end Go.Arc
set_option maxRecDepth 100000
namespace Go.Arc
open Go.Ab Go.RowKit Go.Proofs
variable {T : Lay}
theorem filter_take {α:Type} {l:List α} {q:α->Bool} {j:Nat} {x:α} (hx:l[j]? = some x):(l.take (j+1)).filter q=if q x=true then (l.take j).filter q++[x] else (l.take j).filter q:=by
 obtain ⟨hlt,rfl⟩:=List.getElem?_eq_some_iff.1 hx;rw[List.take_succ_eq_append_getElem hlt,List.filter_append];cases h:q l[j] <;> simp[h]
end Go.Arc
set_option maxRecDepth 100000
namespace Go.Arc
open Go.Ab Go.RowKit Go.Proofs
variable {T : Lay}
theorem den_valid (f u:Int):Den Tryz.prog T 153 [span f u] (vb (goodS f u)):=by
 refine den_of_body follows (fun args w=>Tryz.call153 args w) Tryz.func153 rfl 18 rfl ?_;unfold goodS;by_cases h1:0<=f <;> by_cases h2:f<u <;> by_cases h3:u<=1048576 <;> (refine run ?_; refine fin (vb_eq ?_); simp; try omega)
theorem den_eqInt (a b:List Nat) (ha:a.length<=1048576) (_hb:b.length<=1048576):Den Tryz.prog T 28 [nats a,nats b] (vb (decide (a=b))):=by
 refine den_of_body follows (fun args w=>Tryz.call28 args w) Tryz.func28 rfl 26 rfl ?_;by_cases hl:a.length=b.length
 ·refine run ?_
  refine loop ⟨[0,1,12,13],[],[],[]⟩ (fun k:Nat=>k<=a.length/\(a=b↔a.drop k=b.drop k)) (fun k=>a.length-k)
   (fun k=>⟨26,[(0,.v (nats a)),(1,.v (nats b)),(12,.v (vi a.length)),(13,.v (vi k))],[],[]⟩) 0 ⟨by omega,by simp⟩ ?_
  rintro k ⟨hk,hall⟩;by_cases hlt:k<a.length
  ·obtain ⟨x,hx,hd,-⟩:=drop_at hlt;obtain ⟨y,hy,he,-⟩:=drop_at (l:=b) (k:=k) (by omega);by_cases hxy:x=y
   ·subst hxy;refine runW (And.intro hx hy) ?_;exact round (k+1) ⟨by omega,by rw[hall,eq_drop hd he]; simp⟩ (by omega)
   ·refine runW (And.intro hx hy) ?_;refine fin (vb_eq ?_)
    symm
    rw[decide_eq_false_iff_not,hall,eq_drop hd he];simp[hxy]
  ·refine run ?_;refine fin (vb_eq ?_)
   symm; rw[decide_eq_true_iff,hall,drop_end hlt,drop_end (l:=b) (by omega)]
 ·refine run ?_;refine fin (vb_eq ?_)
  symm; rw[decide_eq_false_iff_not]; intro h; exact hl (by rw[h])
end Go.Arc
set_option maxRecDepth 100000
namespace Go.Arc
open Go.Ab Go.RowKit Go.Proofs
variable {T : Lay}
theorem parseV_none {s:Str} (h:numsOf (split [] s)=none):parseV s= .tup [.val (.slice none 0 0),vi 3]:=by simp[parseV,parse,h]
theorem parseV_long {s:Str} {l:List Nat} (h:numsOf (split [] s)=some l) (hl:6<l.length):parseV s= .tup [.val (.slice none 0 0),vi 3]:=by
 have:¬l.length<=6:=by omega
 simp[parseV,parse,h,this]
theorem parseV_ok {s:Str} {l:List Nat} (h:numsOf (split [] s)=some l) (hl:l.length<=6):parseV s= .tup [nats l,vi 0]:=by simp[parseV,parse,h,hl]
end Go.Arc
set_option maxRecDepth 100000
namespace Go.Arc
open Go.Ab Go.RowKit Go.Proofs
variable {T : Lay}
theorem parseV_n {s:Str} (h:parse s=none):parseV s= .tup [.val (.slice none 0 0),vi 3]:=by simp[parseV,h]
theorem parseV_s {s:Str} {l:List Nat} (h:parse s=some l):parseV s= .tup [nats l,vi 0]:=by simp[parseV,h]
def dots:List Nat->Str
 | []=>[]
 | n::r=>46::dec n++dots r
theorem fmt_dots:∀(l:List Nat) (n:Nat),fmt (n::l)=dec n++dots l
 | [],n=>by simp[fmt,dots]
 | m::r,n=>by
  simp only[fmt,dots];rw[fmt_dots r m];simp
theorem dec_len (n:Nat):(dec n).length<=3:=by unfold dec; split <;> (try split) <;> simp
end Go.Arc
set_option maxRecDepth 100000
namespace Go.Arc
open Go.Ab Go.RowKit Go.Proofs
variable {T : Lay}
abbrev parentV (s:Str):V:=match parent s with
 | some p=> .tup [.str p,vb true]
 | none=> .tup [.str [],vb false]
theorem parentV_s {s p:Str} (h:parent s=some p):parentV s= .tup [.str p,vb true]:=by simp[parentV,h]
theorem parentV_n {s:Str} (h:parent s=none):parentV s= .tup [.str [],vb false]:=by simp[parentV,h]
abbrev cmpV (a b:Str):V:=match cmp a b with
 | some n=> .tup [vi n,vi 0]
 | none=> .tup [vi 0,vi 3]
theorem cmpV_s {a b:Str} {n:Int} (h:cmp a b=some n):cmpV a b= .tup [vi n,vi 0]:=by simp[cmpV,h]
theorem cmpV_n {a b:Str} (h:cmp a b=none):cmpV a b= .tup [vi 0,vi 3]:=by simp[cmpV,h]
theorem take_map_nat (l:List Nat) (k:Nat):(l.map Cnat).take k=(l.take k).map Cnat:=List.map_take.symm
end Go.Arc
set_option maxRecDepth 100000
namespace Go.Arc
open Go.Ab Go.RowKit Go.Proofs
variable {T : Lay}
theorem printable_cons (c:UInt8) (r:Str):printable (c::r)=(decide (32<=c.toNat) && decide (c.toNat<=126) && printable r):=rfl
end Go.Arc
