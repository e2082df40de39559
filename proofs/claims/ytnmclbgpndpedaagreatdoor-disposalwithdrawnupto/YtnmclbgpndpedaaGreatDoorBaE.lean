/- A part of this claim. -/
import Derived.Test.YtnmclbgpndpedaaGreatDoorTy
import Derived.Test.YtnmclbgpndpedaaGreatDoorSp
set_option maxRecDepth 100000
namespace Go.Arc
open Go.Ab Go.RowKit Go.Proofs
theorem follows:Tryz.prog.follows .mixedOrders=true:=by kernel_rfl
variable {T : Lay}
theorem den_ixCls (l:List Cls) (f:FuncId) (cap:List V) (p:Cls->Bool) (hl:l.length<=1048576) (hp:∀e∈l,Den Tryz.prog T f (.agg e.cs::cap) (vb (p e))):
   Den Tryz.prog T 289 [clss l,.func f cap] (vi (ix p l)):=by
  refine ja0 follows (fun args w=>Tryz.call289 args w) Tryz.func289 rfl 19 rfl ?_;refine run ?_
  refine loop ⟨[0,1,7,8],[],[],[]⟩ (fun k:Nat=>k<=l.length/\∀e∈l.take k,p e=false) (fun k=>l.length-k)
    (fun k=>⟨19,[(0,.v (clss l)),(1,.v (.func f cap)),(7,.v (vi l.length)),(8,.v (vi k))],[],[]⟩) 0 ⟨by omega,by simp⟩ ?_
  rintro k ⟨hk,hall⟩;by_cases hlt:k<l.length
  · obtain ⟨x,hx,-,hm⟩:=ja8 hlt;refine runW hx ?_;refine call (hp x hm) ?_;cases hpc:p x
    · refine run ?_;exact round (k+1) ⟨by omega,jac hall hx hpc⟩ (by omega)
    · refine run ?_;exact fin (jai (ji8 hall hx hpc))
  · refine run ?_;exact fin (jai (jc4 hall hlt))
theorem jhr (l:List Cls) (f:FuncId) (cap:List V) (p:Cls->Bool) (hl:l.length<=1048576) (hp:∀e∈l,Den Tryz.prog T f (.agg e.cs::cap) (vb (p e))):
   Den Tryz.prog T 246 [clss l,.func f cap] (vb (l.any p)):=by
  refine ja0 follows (fun args w=>Tryz.call246 args w) Tryz.func246 rfl 9 rfl ?_;refine run ?_;refine call (den_ixCls l f cap p hl hp) ?_;refine run ?_;exact fin (jad (jna p l))
theorem den_Has1 (c:Cls) (s:Str):Den Tryz.prog T 247 [.agg c.cs,.row [.str s]] (vb (c.code == s)):=by
 refine ja0 follows (fun args w=>Tryz.call247 args w) Tryz.func247 rfl 8 rfl ?_;refine run ?_;exact fin rfl
theorem jmk (p:Plan) (s:Str) (hl:p.cls.length<=1048576):Den Tryz.prog T 204 [.agg p.cs,.str s] (vb (has p s)):=by
 refine ja0 follows (fun args w=>Tryz.call204 args w) Tryz.func204 rfl 9 rfl ?_;refine run ?_;refine call (jhr p.cls _ _ (fun c=>c.code == s) hl fun e _=>den_Has1 e s) ?_;refine run ?_;exact fin rfl
end Go.Arc
set_option maxRecDepth 100000
namespace Go.Arc
open Go.Ab Go.RowKit Go.Proofs
variable {T : Lay}
theorem jme {α:Type} {l:List α} {q:α->Bool} {j:Nat} {x:α} (hx:l[j]? = some x):(l.take (j+1)).filter q=if q x=true then (l.take j).filter q++[x] else (l.take j).filter q:=by
 obtain ⟨hlt,rfl⟩:=List.getElem?_eq_some_iff.1 hx;rw[List.take_succ_eq_append_getElem hlt,List.filter_append];cases h:q l[j] <;> simp[h]
end Go.Arc
set_option maxRecDepth 100000
namespace Go.Arc
open Go.Ab Go.RowKit Go.Proofs
variable {T : Lay}
theorem den_valid (f u:Int):Den Tryz.prog T 231 [span f u] (vb (jcg f u)):=by
 refine ja0 follows (fun args w=>Tryz.call231 args w) Tryz.func231 rfl 18 rfl ?_;unfold jcg;by_cases h1:0<=f <;> by_cases h2:f<u <;> by_cases h3:u<=1048576 <;> (refine run ?_; refine fin (jad ?_); simp; try omega)
theorem den_eqInt (a b:List Nat) (ha:a.length<=1048576) (_hb:b.length<=1048576):Den Tryz.prog T 84 [nats a,nats b] (vb (decide (a=b))):=by
 refine ja0 follows (fun args w=>Tryz.call84 args w) Tryz.func84 rfl 26 rfl ?_;by_cases hl:a.length=b.length
 ·refine run ?_
  refine loop ⟨[0,1,12,13],[],[],[]⟩ (fun k:Nat=>k<=a.length/\(a=b↔a.drop k=b.drop k)) (fun k=>a.length-k)
   (fun k=>⟨26,[(0,.v (nats a)),(1,.v (nats b)),(12,.v (vi a.length)),(13,.v (vi k))],[],[]⟩) 0 ⟨by omega,by simp⟩ ?_
  rintro k ⟨hk,hall⟩;by_cases hlt:k<a.length
  ·obtain ⟨x,hx,hd,-⟩:=ja8 hlt;obtain ⟨y,hy,he,-⟩:=ja8 (l:=b) (k:=k) (by omega);by_cases hxy:x=y
   ·subst hxy;refine runW (ai hx hy) ?_;exact round (k+1) ⟨by omega,by rw[hall,eq_drop hd he]; simp⟩ (by omega)
   ·refine runW (ai hx hy) ?_;refine fin (jad ?_)
    symm
    rw[decide_eq_false_iff_not,hall,eq_drop hd he];simp[hxy]
  ·refine run ?_;refine fin (jad ?_)
   symm; rw[decide_eq_true_iff,hall,je2 hlt,je2 (l:=b) (by omega)]
 ·refine run ?_;refine fin (jad ?_)
  symm; rw[decide_eq_false_iff_not]; intro h; exact hl (by rw[h])
end Go.Arc
set_option maxRecDepth 100000
namespace Go.Arc
open Go.Ab Go.RowKit Go.Proofs
variable {T : Lay}
theorem jrk {s:Str} (h:jce (split [] s)=none):jhd s= .tup [.val (.slice none 0 0),vi 3]:=by simp[jhd,jan,h]
theorem parseV_long {s:Str} {l:List Nat} (h:jce (split [] s)=some l) (hl:6<l.length):jhd s= .tup [.val (.slice none 0 0),vi 3]:=by
 have:¬l.length<=6:=by omega
 simp[jhd,jan,h,this]
theorem parseV_ok {s:Str} {l:List Nat} (h:jce (split [] s)=some l) (hl:l.length<=6):jhd s= .tup [nats l,vi 0]:=by simp[jhd,jan,h,hl]
end Go.Arc
set_option maxRecDepth 100000
namespace Go.Arc
open Go.Ab Go.RowKit Go.Proofs
variable {T : Lay}
theorem jft {s:Str} (h:jan s=none):jhd s= .tup [.val (.slice none 0 0),vi 3]:=by simp[jhd,h]
theorem jfs {s:Str} {l:List Nat} (h:jan s=some l):jhd s= .tup [nats l,vi 0]:=by simp[jhd,h]
def dots:List Nat->Str
 | []=>[]
 | n::r=>46::dec n++dots r
theorem jqt:∀(l:List Nat) (n:Nat),fmt (n::l)=dec n++dots l
 | [],n=>by simp[fmt,dots]
 | m::r,n=>by
  simp only[fmt,dots];rw[jqt r m];simp
theorem dec_len (n:Nat):(dec n).length<=3:=by unfold dec; split <;> (try split) <;> simp
end Go.Arc
set_option maxRecDepth 100000
namespace Go.Arc
open Go.Ab Go.RowKit Go.Proofs
variable {T : Lay}
abbrev jrm (s:Str):V:=match jpj s with
 | some p=> .tup [.str p,vb true]
 | none=> .tup [.str [],vb false]
theorem parentV_s {s p:Str} (h:jpj s=some p):jrm s= .tup [.str p,vb true]:=by simp[jrm,h]
theorem jrl {s:Str} (h:jpj s=none):jrm s= .tup [.str [],vb false]:=by simp[jrm,h]
abbrev cmpV (a b:Str):V:=match cmp a b with
 | some n=> .tup [vi n,vi 0]
 | none=> .tup [vi 0,vi 3]
theorem cmpV_s {a b:Str} {n:Int} (h:cmp a b=some n):cmpV a b= .tup [vi n,vi 0]:=by simp[cmpV,h]
theorem cmpV_n {a b:Str} (h:cmp a b=none):cmpV a b= .tup [vi 0,vi 3]:=by simp[cmpV,h]
theorem jpa (l:List Nat) (k:Nat):(l.map Cnat).take k=(l.take k).map Cnat:=List.map_take.symm
end Go.Arc
set_option maxRecDepth 100000
namespace Go.Arc
open Go.Ab Go.RowKit Go.Proofs
variable {T : Lay}
theorem printable_cons (c:UInt8) (r:Str):jcd (c::r)=(decide (32<=c.toNat) && decide (c.toNat<=126) && jcd r):=rfl
end Go.Arc
