/- A part of this claim. -/
import Derived.Test.YtnmclbgpndpedaaGreatDoorW16
set_option maxRecDepth 100000
namespace Go.Arc
open Go.Ab Go.RowKit Go.Proofs Tryz
variable {T : Lay}
theorem den_State (f:Fil) (d:Int):Den prog T 99 [.agg f.cs,vi d] (vi (state f d)):=by
 refine ae follows (fun args w=>call99 args w) func99 rfl 15 rfl ?_;by_cases h1:d<f.opn
 ·refine run ?_;refine fin (al ?_);rw[state,if_pos h1]
 by_cases h2:d<f.cld
 ·refine run ?_;refine fin (al ?_);rw[state,if_neg h1,if_pos h2]
 ·refine run ?_;refine fin (al ?_);rw[state,if_neg h1,if_neg h2]
theorem den_at1 (d day:Int):Den prog T 150 [vi d,.row [vi day]] (datgV (onD d day)):=by
 refine ae follows (fun args w=>call150 args w) func150 rfl 12 rfl ?_;by_cases h1:day<d
 ·have e:onD d day=none:=by rw[onD,if_pos h1]
  rw[e];refine run ?_;exact finC2 (.refl _)
 ·have e:onD d day=some (d,d):=by rw[onD,if_neg h1]
  rw[e];refine run ?_;exact finC2 (.refl _)
theorem den_Known1 (n:Note) (d:Int):Den prog T 210 [.agg n.cs,.row [vi d]] (vb (!jj6 d n)):=by
 refine ae follows (fun args w=>call210 args w) func210 rfl 8 rfl ?_;by_cases h:n.rcd<=d
 ·have e:jj6 d n=true:=by simp[jj6,h]
  rw[e];refine run ?_;exact fin rfl
 ·have e:jj6 d n=false:=by simp[jj6,h]
  rw[e];refine run ?_;exact fin rfl
theorem den_named (n:Note) (s:Str):Den prog T 153 [.agg n.cs,.row [.str s]] (vb (!named s n)):=by
 refine ae follows (fun args w=>call153 args w) func153 rfl 8 rfl ?_;refine run ?_;exact fin rfl
theorem den_Or2 (a b:Int):Den prog T 156 [.slice 1 [[vi a],[vi b]]] (vi (if a=0 then b else a)):=by
 refine ae follows (fun args w=>call156 args w) func156 rfl 18 rfl ?_;refine run ?_
 refine loop ⟨[3,6,7,8],[],[],[]⟩ (fun k:Nat=>k=0\/(k=1/\a=0)\/(k=2/\a=0/\b=0)) (fun k=>2-k)
  (fun k=>⟨18,[(3,.v (vi 0)),(6,.v (.slice 1 [[vi a],[vi b]])),(7,.v (vi 2)),(8,.v (vi k))],[],[]⟩) 0 (.inl rfl) ?_
 rintro k (rfl | ⟨rfl,h⟩ | ⟨rfl,h,h'⟩)
 ·by_cases h:a=0
  ·refine run ?_;exact round 1 (.inr (.inl ⟨rfl,h⟩)) (by decide)
  ·refine run ?_;refine fin (al ?_);rw[if_neg h]
 ·by_cases h':b=0
  ·refine run ?_;exact round 2 (.inr (.inr ⟨rfl,h,h'⟩)) (by decide)
  ·refine run ?_;refine fin (al ?_);rw[if_pos h]
 ·refine run ?_;refine fin (al ?_);rw[if_pos h,h']
def cN (a b:Note):Int:=if cmpI a.lst b.lst=0 then cmpI a.fst b.fst else cmpI a.lst b.lst
theorem cN_gt (a b:Note):decide (0<cN a b)=gtN a b:=by
 simp only[cN,cmpI,gtN];by_cases h1:a.lst<b.lst
 ·have:¬b.lst<a.lst:=by omega
  have:¬a.lst=b.lst:=by omega
  simp[*]
 ·by_cases h2:b.lst<a.lst
  ·simp[*]
  ·have h3:a.lst=b.lst:=by omega
   by_cases h4:a.fst<b.fst
   ·have:¬b.fst<a.fst:=by omega
    simp[*]
   ·by_cases h5:b.fst<a.fst
    ·simp[*]
    ·simp[*]
theorem den_cN (a b:Note):Den prog T 155 [.agg a.cs,.agg b.cs] (vi (cN a b)):=by
 refine ae follows (fun args w=>call155 args w) func155 rfl 21 rfl ?_;refine run ?_;refine call (jnb a.lst b.lst) ?_;refine run ?_;refine call (jnb a.fst b.fst) ?_;refine run ?_;refine call (den_Or2 (cmpI a.lst b.lst) (cmpI a.fst b.fst)) ?_;refine run ?_;exact fin rfl
def maxN:Note->List Note->Note
 | m,[]=>m
 | m,n::l=>maxN (if gtN n m=true then n else m) l
theorem bestN_max:∀(l:List Note) (m:Note),bestN (some m) l=some (maxN m l)
 | [],_=>rfl
 | n::l,m=>by simp only[bestN,maxN]; exact bestN_max l _
theorem denM_maxNote (x:Note) (r:List Note) (f:FuncId) (hl:(x::r).length<=1048576) (hp:∀a b:Note,Den prog T f [.agg a.cs,.agg b.cs] (vi (cN a b))):
   DenM prog T 154 (bq (x::r)) [.s 999999 0 (x::r).length 4,.v (.func f [])] (bq (x::r)) (.v (.agg (maxN x r).cs)):=by
  have hl1:0<(x::r).length:=by simp
  have hd0:bq (x::r)= .str x.name::vi x.fst::vi x.lst::vi x.rcd::bq r:=rfl;have hmx:maxN x r=maxN x ((x::r).drop 1):=rfl;rw[hmx];generalize hL:x::r=l at *;refine jms follows (fun args w=>call154 args w) func154 rfl 33 rfl rfl ?_;have hd1:(bq l).drop (0*4)= .str x.name::vi x.fst::vi x.lst::vi x.rcd::bq r:=hd0;refine runW hd1 ?_
  refine loop ⟨[0,1,4,5,6],[999999,4,5],[],[]⟩ (fun y:Nat×Note=>1<=y.1/\y.1<=l.length/\maxN x (l.drop 1)=maxN y.2 (l.drop y.1)) (fun y=>l.length-y.1)
    (fun y=>⟨33,[(0,.s 999999 0 l.length 4),(1,.v (.func f [])),(4,.p 4 0),(5,.p 5 0),(6,.v (vi y.1))],[(999999,.var (bq l)),(4,.var [.str [],vi 0,vi 0,vi 0]),(5,.var y.2.cs)],[]⟩) (1,x) ⟨by simp,by simp; omega,rfl⟩ ?_
  · rintro ⟨k,m⟩ ⟨h1,hk,hm⟩;simp only at h1 hk hm;by_cases hlt:k<l.length
    · obtain ⟨n,hx,hd,hmem⟩:=aj hlt;have hd':(bq l).drop (k*4)= .str n.name::vi n.fst::vi n.lst::vi n.rcd::bq (l.drop (k+1)):=by rw[jmx,hd]; rfl
      have hc:=cN_gt n m;refine runW hd' ?_;refine call (hp n m) ?_;cases hg:gtN n m
      · rw[hg] at hc;have hc':=of_decide_eq_false hc;refine runW hd' ?_;refine round (k+1,m) ⟨by simp only; omega,by simp only; omega,?_⟩ (by simp only; omega);simp only; rw[hm,hd]; simp[maxN,hg]
      · rw[hg] at hc;have hc':=of_decide_eq_true hc;refine runW hd' ?_;refine round (k+1,n) ⟨by simp only; omega,by simp only; omega,?_⟩ (by simp only; omega);simp only; rw[hm,hd]; simp[maxN,hg]
    · rw[List.drop_eq_nil_of_le (show l.length<=k by omega)] at hm;refine run ?_;refine finMC (.of ?_);rw[hm]; rfl
end Go.Arc
