/- A part of this claim. -/
import Derived.Test.YtnmclbgpndpedaaGreatDoorTy
import Derived.Test.YtnmclbgpndpedaaGreatDoorSp
set_option maxRecDepth 100000
namespace Go.Arc
open Go.Ab Go.RowKit Go.Proofs Tryz
theorem follows:Tryz.prog.follows .mixedOrders=true:=by kernel_rfl
variable {T : Lay}
theorem den_ixCls (l:List Cls) (f:FuncId) (cap:List V) (p:Cls->Bool) (hl:l.length<=1048576) (hp:∀e∈l,Den prog T f (.agg e.cs::cap) (vb (p e))):
   Den prog T 289 [clss l,.func f cap] (vi (ix p l)):=by
  refine ae follows (fun args w=>call289 args w) func289 rfl 19 rfl ?_;refine run ?_
  refine loop ⟨[0,1,7,8],[],[],[]⟩ (fun k:Nat=>k<=l.length/\∀e∈l.take k,p e=false) (fun k=>l.length-k)
    (fun k=>⟨19,[(0,.v (clss l)),(1,.v (.func f cap)),(7,.v (vi l.length)),(8,.v (vi k))],[],[]⟩) 0 ⟨by omega,by simp⟩ ?_
  rintro k ⟨hk,hall⟩;by_cases hlt:k<l.length
  · obtain ⟨x,hx,-,hm⟩:=aj hlt;refine runW hx ?_;refine call (hp x hm) ?_;cases hpc:p x
    · refine run ?_;exact round (k+1) ⟨by omega,br hall hx hpc⟩ (by omega)
    · refine run ?_;exact fin (al (jav hall hx hpc))
  · refine run ?_;exact fin (al (jb3 hall hlt))
theorem jls (l:List Cls) (f:FuncId) (cap:List V) (p:Cls->Bool) (hl:l.length<=1048576) (hp:∀e∈l,Den prog T f (.agg e.cs::cap) (vb (p e))):
   Den prog T 246 [clss l,.func f cap] (vb (l.any p)):=by
  refine ae follows (fun args w=>call246 args w) func246 rfl 9 rfl ?_;refine run ?_;refine call (den_ixCls l f cap p hl hp) ?_;refine run ?_;exact fin (ak (jcf p l))
theorem den_Has1 (c:Cls) (s:Str):Den prog T 247 [.agg c.cs,.row [.str s]] (vb (c.code == s)):=by
 refine ae follows (fun args w=>call247 args w) func247 rfl 8 rfl ?_;refine run ?_;exact fin rfl
theorem jka (p:Plan) (s:Str) (hl:p.cls.length<=1048576):Den prog T 204 [.agg p.cs,.str s] (vb (has p s)):=by
 refine ae follows (fun args w=>call204 args w) func204 rfl 9 rfl ?_;refine run ?_;refine call (jls p.cls _ _ (fun c=>c.code == s) hl fun e _=>den_Has1 e s) ?_;refine run ?_;exact fin rfl
end Go.Arc
set_option maxRecDepth 100000
namespace Go.Arc
open Go.Ab Go.RowKit Go.Proofs Tryz
variable {T : Lay}
theorem jop {α:Type} {l:List α} {q:α->Bool} {j:Nat} {x:α} (hx:l[j]? = some x):(l.take (j+1)).filter q=if q x=true then (l.take j).filter q++[x] else (l.take j).filter q:=by
 obtain ⟨hlt,rfl⟩:=gsi.1 hx;rw[List.take_succ_eq_append_getElem hlt,List.filter_append];cases h:q l[j] <;> simp[h]
theorem den_valid (f u:Int):Den prog T 231 [span f u] (vb (bt f u)):=by
 refine ae follows (fun args w=>call231 args w) func231 rfl 18 rfl ?_;unfold bt;by_cases h1:0<=f <;> by_cases h2:f<u <;> by_cases h3:u<=1048576 <;> (refine run ?_; refine fin (ak ?_); simp; try omega)
theorem den_eqInt (a b:List Nat) (ha:a.length<=1048576) (_hb:b.length<=1048576):Den prog T 84 [nats a,nats b] (vb (decide (a=b))):=by
 refine ae follows (fun args w=>call84 args w) func84 rfl 26 rfl ?_;by_cases hl:a.length=b.length
 ·refine run ?_
  refine loop ⟨[0,1,12,13],[],[],[]⟩ (fun k:Nat=>k<=a.length/\(a=b↔a.drop k=b.drop k)) (fun k=>a.length-k)
   (fun k=>⟨26,[(0,.v (nats a)),(1,.v (nats b)),(12,.v (vi a.length)),(13,.v (vi k))],[],[]⟩) 0 ⟨by omega,by simp⟩ ?_
  rintro k ⟨hk,hall⟩;by_cases hlt:k<a.length
  ·obtain ⟨x,hx,hd,-⟩:=aj hlt;obtain ⟨y,hy,he,-⟩:=aj (l:=b) (k:=k) (by omega);by_cases hxy:x=y
   ·subst hxy;refine runW (ai hx hy) ?_;exact round (k+1) ⟨by omega,by rw[hall,eq_drop hd he]; simp⟩ (by omega)
   ·refine runW (ai hx hy) ?_;refine fin (ak ?_)
    symm
    rw[decide_eq_false_iff_not,hall,eq_drop hd he];simp[hxy]
  ·refine run ?_;refine fin (ak ?_)
   symm; rw[decide_eq_true_iff,hall,jey hlt,jey (l:=b) (by omega)]
 ·refine run ?_;refine fin (ak ?_)
  symm; rw[decide_eq_false_iff_not]; intro h; exact hl (by rw[h])
theorem jr8 {s:Str} (h:ja6 (split [] s)=none):jcs s= .tup [.val (.slice none 0 0),vi 3]:=by simp[jcs,aq,h]
theorem parseV_long {s:Str} {l:List Nat} (h:ja6 (split [] s)=some l) (hl:6<l.length):jcs s= .tup [.val (.slice none 0 0),vi 3]:=by
 have:¬l.length<=6:=by omega
 simp[jcs,aq,h,this]
theorem parseV_ok {s:Str} {l:List Nat} (h:ja6 (split [] s)=some l) (hl:l.length<=6):jcs s= .tup [nats l,vi 0]:=by simp[jcs,aq,h,hl]
theorem jj1 {s:Str} (h:aq s=none):jcs s= .tup [.val (.slice none 0 0),vi 3]:=by simp[jcs,h]
theorem jj0 {s:Str} {l:List Nat} (h:aq s=some l):jcs s= .tup [nats l,vi 0]:=by simp[jcs,h]
def dots:List Nat->Str
 | []=>[]
 | n::r=>46::dec n++dots r
theorem jo5:∀(l:List Nat) (n:Nat),fmt (n::l)=dec n++dots l
 | [],n=>by simp[fmt,dots]
 | m::r,n=>by
  simp only[fmt,dots];rw[jo5 r m];simp
theorem dec_len (n:Nat):(dec n).length<=3:=by unfold dec; split <;> (try split) <;> simp
abbrev jmk (s:Str):V:=match jjc s with
 | some p=> .tup [.str p,vb true]
 | none=> .tup [.str [],vb false]
theorem parentV_s {s p:Str} (h:jjc s=some p):jmk s= .tup [.str p,vb true]:=by simp[jmk,h]
theorem jpw {s:Str} (h:jjc s=none):jmk s= .tup [.str [],vb false]:=by simp[jmk,h]
abbrev cmpV (a b:Str):V:=match cmp a b with
 | some n=> .tup [vi n,vi 0]
 | none=> .tup [vi 0,vi 3]
theorem cmpV_s {a b:Str} {n:Int} (h:cmp a b=some n):cmpV a b= .tup [vi n,vi 0]:=by simp[cmpV,h]
theorem cmpV_n {a b:Str} (h:cmp a b=none):cmpV a b= .tup [vi 0,vi 3]:=by simp[cmpV,h]
theorem jqv (l:List Nat) (k:Nat):(l.map Cnat).take k=(l.take k).map Cnat:=List.map_take.symm
theorem printable_cons (c:UInt8) (r:Str):jdw (c::r)=(decide (32<=c.toNat) && decide (c.toNat<=126) && jdw r):=rfl
end Go.Arc
