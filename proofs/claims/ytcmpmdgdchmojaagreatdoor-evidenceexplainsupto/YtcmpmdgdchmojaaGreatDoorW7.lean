/- A part of this claim. -/
import Derived.Test.YtcmpmdgdchmojaaGreatDoorW6
set_option maxRecDepth 100000
namespace Go.Arc
open Go.Ab Go.RowKit Go.Proofs
variable {T : Lay}
theorem printable_cons (c:UInt8) (r:Str):printable (c::r)=(decide (32<=c.toNat) && decide (c.toNat<=126) && printable r):=rfl
theorem u8_32 {c:UInt8} (h:c.toNat=32):c=32:=UInt8.toNat_inj.1 h
theorem last_get {s:Str} (h:1<=s.length):∃c,s[s.length-1]? = some c/\s.getLast? = some c:=by
 have hlt:s.length-1<s.length:=by omega
 exact ⟨s[s.length-1],List.getElem?_eq_getElem hlt,by rw[List.getLast?_eq_getElem?]; exact List.getElem?_eq_getElem hlt⟩
theorem den_NameRef (s:Str) (hl:s.length<=1048576):Den Tryz.prog T 319 [.str s] (vb (name s)):=by
 refine den_of_body follows (fun args w=>Tryz.call319 args w) Tryz.func319 rfl 58 rfl ?_;by_cases h1:s.length<1
 ·refine run ?_;refine fin (vb_eq ?_);have:¬ 1<=s.length:=by omega
  simp[name,this]
 by_cases h2:64<s.length
 ·refine run ?_;refine fin (vb_eq ?_);have:¬s.length<=64:=by omega
  simp[name,this]
 obtain ⟨c0,hc0,-,-⟩:=drop_at (l:=s) (k:=0) (by omega);have hh:s.head? = some c0:=by rw[List.head?_eq_getElem?]; exact hc0
 obtain ⟨cl,hcl,hlast⟩:=last_get (s:=s) (by omega);by_cases h3:c0.toNat=32
 ·refine runW hc0 ?_;refine fin (vb_eq ?_);simp[name,hh,u8_32 h3]
 by_cases h4:cl.toNat=32
 ·refine runW (And.intro hc0 hcl) ?_;refine fin (vb_eq ?_);simp[name,hlast,u8_32 h4]
 have hn0:c0≠32:=fun e=>h3 (by rw[e]; rfl);have hnl:cl≠32:=fun e=>h4 (by rw[e]; rfl)
 have hname:name s=(printable s && !dbl s):=by
  have g1:1<=s.length:=by omega
  have g2:s.length<=64:=by omega
  have e0:=beq_f hn0;have e1:=beq_f hnl;simp[name,g1,g2,hh,hlast,e0,e1]
 refine runW (And.intro hc0 hcl) ?_
 refine loop ⟨[0,3],[],[],[]⟩ (fun k:Nat=>k<=s.length/\name s=(printable (s.drop k) && !dbl (s.drop (k-1)))) (fun k=>s.length-k)
  (fun k=>⟨58,[(0,.v (.str s)),(3,.v (vi k))],[],[]⟩) 0 ⟨by omega,by simpa using hname⟩ ?_
 rintro k ⟨hk,hall⟩;by_cases hlt:k<s.length
 ·obtain ⟨x,hx,hd,hm⟩:=drop_at hlt;rw[hd,printable_cons] at hall;by_cases g1:x.toNat<32
  ·refine runW hx ?_;refine fin (vb_eq ?_);have:¬ 32<=x.toNat:=by omega
   rw[hall]; simp[this]
  by_cases g2:126<x.toNat
  ·refine runW hx ?_;refine fin (vb_eq ?_);have:¬x.toNat<=126:=by omega
   rw[hall]; simp[this]
  have g1':32<=x.toNat:=by omega
  have g2':x.toNat<=126:=by omega
  simp only[g1',g2',decide_true,Bool.true_and] at hall;by_cases h0:k=0
  ·subst h0;refine runW hx ?_;exact round 1 ⟨by omega,by simpa using hall⟩ (by omega)
  ·obtain ⟨y,hy,hdy,-⟩:=drop_at (l:=s) (k:=k-1) (by omega);have hk1:k-1+1=k:=by omega
   rw[hk1,hd] at hdy;rw[hdy] at hall;by_cases gx:x.toNat=32
   ·by_cases gy:y.toNat=32
    ·refine runW (And.intro hx hy) ?_;refine fin (vb_eq ?_);rw[hall,u8_32 gx,u8_32 gy]; simp[dbl]
    ·have hny:(y == 32)=false:=beq_f fun e=>gy (by rw[e]; rfl);refine runW (And.intro hx hy) ?_;refine round (k+1) ⟨by omega,?_⟩ (by omega);rw[hall]; simp only[dbl,hny,Bool.false_and,Bool.false_or,Nat.add_sub_cancel,hd]
   ·have hnx:(x == 32)=false:=beq_f fun e=>gx (by rw[e]; rfl);refine runW (And.intro hx hy) ?_;refine round (k+1) ⟨by omega,?_⟩ (by omega);rw[hall]; simp only[dbl,hnx,Bool.and_false,Bool.false_or,Nat.add_sub_cancel,hd]
 ·refine run ?_;refine fin (vb_eq ?_);obtain ⟨y,hy,hdy,-⟩:=drop_at (l:=s) (k:=k-1) (by omega);have hk1:k-1+1=k:=by omega
  rw[hall,hdy,hk1,drop_end hlt];simp[printable,dbl]
end Go.Arc
