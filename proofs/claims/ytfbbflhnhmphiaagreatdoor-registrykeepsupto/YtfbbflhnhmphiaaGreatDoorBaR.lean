/- A part of this claim. -/
import Derived.Test.YtfbbflhnhmphiaaGreatDoorBaO
set_option maxHeartbeats 16000000
set_option maxRecDepth 100000
namespace Go.Arc
open Go.Ab Go.RowKit Go.Proofs Tryz
variable {T : Lay}
def oT(B w:List Int)(k:Nat):List Int:=layF tr5 id (chiF B) k w
def fz(d:Str)(j:Nat):Str:=d++6::List.replicate j 0
theorem qp2(a:List Ofc)(ha:a.length<=1048576)(hn:∀o∈a,o.nxt.length<=1048576):Den prog T 36 [ofcs a,ofcs a] (vb true):=by
 refine ab call36 func36 68 ?_;refine run ?_;refine dl ⟨[5,0,1],[],[],[]⟩ (fun k:Nat=>k<=a.length) (fun k=>a.length-k) (fun k=>[(5,.v (vi k))]) 0 omq ?_;intro k hk;by_cases hlt:k<a.length
 .obtain⟨x,hx,-,hm⟩:=af hlt;have hs:=jdh (T:=T) x.nxt x.nxt (hn x hm);rw[vl rfl] at hs;refine rcW hx hs ?_;exact zb3
 exact za
theorem qp1(a:List Plan)(ha:a.length<=1048576)(hn:∀p∈a,p.cls.length<=1048576/\p.mov.length<=1048576):Den prog T 37 [bh a,bh a] (vb true):=by
 refine ab call37 func37 127 ?_;refine run ?_;refine dl ⟨[5,0,1],[],[],[]⟩ (fun k:Nat=>k<=a.length) (fun k=>a.length-k) (fun k=>[(5,.v (vi k))]) 0 omq ?_;intro k hk;by_cases hlt:k<a.length
 .obtain⟨x,hx,-,hm⟩:=af hlt;obtain⟨hc,hv⟩:=hn x hm;refine runW hx ?_;refine dl ⟨[6,0,1,5],[],[],[]⟩ (fun j:Nat=>j<=x.cls.length) (fun j=>x.cls.length-j) (fun j=>[(6,.v (vi j))]) 0 omq ?_;intro j hj;by_cases hjl:j<x.cls.length
  .exact zdx
  refine runW hx ?_;refine dl ⟨[7,0,1,5],[],[],[]⟩ (fun j:Nat=>j<=x.mov.length) (fun j=>x.mov.length-j) (fun j=>[(7,.v (vi j))]) 0 omq ?_;intro j hj;by_cases hjl:j<x.mov.length
  .exact zdx
  refine runW hx ?_;exact round (k+1) omq omq
 exact za
abbrev qze:List Gent:=gd 12 [[0,0,0],[1,1,0],[3,2,0],[7,3,0,0],[15,4,0],[31,5,0],[63,6,0],[127,7,0,0],[255,8,1,9,0],[767,8,1,0,0,0],[511,9,0,0,0,0],[1023,10,0,0,0,0],[2047,11,0,0,0,0],[4095]]
theorem qp4(a:List Fil)(ha:a.length<=1048576)(hn:∀f∈a,f.Fit):Den prog T 38 [fils a,fils a] (vb true):=by
 refine ab call38 func38 82 ?_;refine run ?_;refine dl ⟨[5,0,1],[],[],[]⟩ (fun k:Nat=>k<=a.length) (fun k=>a.length-k) (fun k=>[(5,.v (vi k))]) 0 omq ?_;intro k hk;by_cases hlt:k<a.length
 .obtain⟨x,hx,-,hm⟩:=af hlt;have hxn:=(hn x hm).2.2.1;have hs:=qfl (T:=T) x.nts x.nts hxn hxn;rw[vl rfl] at hs;refine runD hx ?_;refine lj .nm (fun _:Unit=>True) (fun _=>⟨82,[(0,.v (fils a)),(1,.v (fils a)),(5,.v (vi k)),(6,.p 6 0),(7,.p 7 0)],[(6,.var x.cs),(7,.var x.cs)],[]⟩) ?_ ?_
  .intro E hE;refine aq qze ?_;refine ax hx ?_
   try simp only[xg,xa,vz,bn,bq]
   repeat' (with_reducible refine ai ?_ ?_)
   all_goals refine hE () _ trivial ?_
   all_goals exact bu [6,7] [0,1,5,6,7] rfl rfl rfl (fun i k e=>by
    rw[ae,ae] at e;split at e
    .exact zo
    split at e
    .exact zo
    .cases e) rfl
  intro _ _
  show aw _ _ _ ⟨82,[(0,.v (fils a)),(1,.v (fils a)),(5,.v (vi k)),(6,.p 6 0),(7,.p 7 0)],[(6,.var x.cs),(7,.var x.cs)],[]⟩ _
  refine rc hs ?_;exact zb3
 exact za
theorem qp0(a:List Rul)(ha:a.length<=1048576):Den prog T 39 [ruls a,ruls a] (vb true):=by
 refine ab call39 func39 26 ?_;refine run ?_;refine dl ⟨[5,0,1],[],[],[]⟩ (fun k:Nat=>k<=a.length) (fun k=>a.length-k) (fun k=>[(5,.v (vi k))]) 0 omq ?_;intro k hk;by_cases hlt:k<a.length
 .exact zy
 exact za
theorem jty(c:Crt)(hc:c.fls.length<=1048576):Den prog T 12 [.agg c.cs,.agg c.cs] (vb true):=by
 have hs:=jdh (T:=T) c.fls c.fls hc;rw[vl rfl] at hs;refine ab call12 func12 45 ?_;refine rc hs ?_;exact za
abbrev qzd:List Gent:=gd 14 [[0,0,0],[1,1,0,0],[3,2,0],[7,3,0],[15,4,0,0],[31,5,0],[63,6,0,0],[127,7,0],[255,8,0],[511,9,0,0],[1023,10,0,11,1],[2047,11,1,0,0,0],[3071,10,0,0,0,0],[4095,12,0,0,0,0],[8191,13,0,0,0,0],[16383]]
abbrev qzc:List Gent:=gd 14 [[0,0,0],[1,1,0,0],[3,2,0],[7,3,0],[15,4,0,0],[31,5,0],[63,6,0,0],[127,7,0],[255,8,0],[511,9,0,0],[1023,10,0,11,1],[2047,11,1,0,0,0],[3071,10,0,0,0,0],[4095,12,0,0,0,0],[8191,13,0,0,0,0],[16383]]
theorem qf9(r:Rgs)(h:r.Fit):Den prog T 41 [.agg r.cs,.agg r.cs] (vb true):=by
 have hsl:=h.sls.1;have hpl:=h.pps.1;have hcl:=h.crs.1;refine ab call41 func41 144 ?_;refine qdz (qcr 3) trivial ?_;refine jco 2 ?_;refine jco 3 ?_;refine fj (st':=⟨144,[(2,.p 2 0),(3,.p 3 0)],[(2,.con r.cs),(3,.con r.cs)],[]⟩) ⟨[2,3],[2,3],[],[]⟩ rfl ?_;refine run ?_;refine dl ⟨[5,2,3],[2,3],[],[]⟩ (fun k:Nat=>k<=r.sls.length) (fun k=>r.sls.length-k) (fun k=>[(5,.v (vi k))]) 0 omq ?_;intro k hk;by_cases hlt:k<r.sls.length
 .obtain⟨x,hx,-,hm⟩:=af hlt;have hs:=jdh (T:=T) x.fls x.fls (h.sls.2 x hm);rw[vl rfl] at hs;refine runD hx ?_;refine lj .nm (fun _:Unit=>True) (fun _=>⟨144,[(2,.p 2 0),(3,.p 3 0),(5,.v (vi k)),(6,.p 6 0),(7,.p 7 0)],[(6,.var x.cs),(7,.var x.cs),(2,.con r.cs),(3,.con r.cs)],[]⟩) ?_ ?_
  .intro E hE;refine aq qzd ?_;refine ax hx ?_
   try simp only[xg,xa,vz,bn,bq]
   repeat' (with_reducible refine ai ?_ ?_)
   all_goals refine hE () _ trivial ?_
   all_goals exact bu [6,7,2,3] [2,3,5,6,7] rfl rfl rfl (fun i k e=>by
    rw[ae,ae,ae,ae] at e;split at e
    .exact zo
    split at e
    .exact zo
    split at e
    .exact zo
    split at e
    .exact zo
    .cases e) rfl
  intro _ _
  show aw _ _ _ ⟨144,[(2,.p 2 0),(3,.p 3 0),(5,.v (vi k)),(6,.p 6 0),(7,.p 7 0)],[(6,.var x.cs),(7,.var x.cs),(2,.con r.cs),(3,.con r.cs)],[]⟩ _
  refine rc hs ?_;exact zb3
 refine run ?_;refine dl ⟨[8,2,3],[2,3],[],[]⟩ (fun k:Nat=>k<=r.pps.length) (fun k=>r.pps.length-k) (fun k=>[(8,.v (vi k))]) 0 omq ?_;intro k hk;by_cases hlt:k<r.pps.length
 .obtain⟨x,hx,-,hm⟩:=af hlt;have hs:=jdh (T:=T) x.fls x.fls (h.pps.2 x hm);rw[vl rfl] at hs;refine runD hx ?_;refine lj .nm (fun _:Unit=>True) (fun _=>⟨144,[(2,.p 2 0),(3,.p 3 0),(8,.v (vi k)),(9,.p 9 0),(10,.p 10 0)],[(9,.var x.cs),(10,.var x.cs),(2,.con r.cs),(3,.con r.cs)],[]⟩) ?_ ?_
  .intro E hE;refine aq qzc ?_;refine ax hx ?_
   try simp only[xg,xa,vz,bn,bq]
   repeat' (with_reducible refine ai ?_ ?_)
   all_goals refine hE () _ trivial ?_
   all_goals exact bu [9,10,2,3] [2,3,8,9,10] rfl rfl rfl (fun i k e=>by
    rw[ae,ae,ae,ae] at e;split at e
    .exact zo
    split at e
    .exact zo
    split at e
    .exact zo
    split at e
    .exact zo
    .cases e) rfl
  intro _ _
  show aw _ _ _ ⟨144,[(2,.p 2 0),(3,.p 3 0),(8,.v (vi k)),(9,.p 9 0),(10,.p 10 0)],[(9,.var x.cs),(10,.var x.cs),(2,.con r.cs),(3,.con r.cs)],[]⟩ _
  refine rc hs ?_;exact zb3
 refine run ?_;refine dl ⟨[11,2,3],[2,3],[],[]⟩ (fun k:Nat=>k<=r.crs.length) (fun k=>r.crs.length-k) (fun k=>[(11,.v (vi k))]) 0 omq ?_;intro k hk;by_cases hlt:k<r.crs.length
 .obtain⟨x,hx,-,hm⟩:=af hlt;refine rcW hx (jty x (h.crs.2 x hm).1) ?_;exact zb3
 exact za
theorem jxs(r:Rgs)(h:r.Fit):Den prog T 17 [.agg r.cs,.agg r.cs] (vb true):=by
 have hkl:=h.cks.1;have hal:=h.aps;have hdl:=h.dps;refine ab call17 func17 138 ?_;refine rc (qp2 r.ofs h.ofs.1 fun o ho=>(h.ofs.2 o ho).2) ?_;refine rc (qp1 r.pls h.pls.1 fun p hp=>⟨(h.pls.2 p hp).1,(h.pls.2 p hp).2.1⟩) ?_;refine rc (qp4 r.fls h.fls.1 h.fls.2) ?_;refine rc (qp0 r.rls h.rls.1) ?_;refine rc (qp3 r.hls h.hls.1) ?_;refine rc (qf9 r h) ?_;refine run ?_;refine dl ⟨[5,2,3],[2,3],[],[]⟩ (fun k:Nat=>k<=r.cks.length) (fun k=>r.cks.length-k) (fun k=>[(5,.v (vi k))]) 0 omq ?_;intro k hk;by_cases hlt:k<r.cks.length
 .exact zy
 refine run ?_;refine dl ⟨[6,2,3],[2,3],[],[]⟩ (fun k:Nat=>k<=r.aps.length) (fun k=>r.aps.length-k) (fun k=>[(6,.v (vi k))]) 0 omq ?_;intro k hk;by_cases hlt:k<r.aps.length
 .exact zy
 refine run ?_;refine dl ⟨[7,2,3],[2,3],[],[]⟩ (fun k:Nat=>k<=r.dps.length) (fun k=>r.dps.length-k) (fun k=>[(7,.v (vi k))]) 0 omq ?_;intro k hk;by_cases hlt:k<r.dps.length
 .exact zy
 exact za
end Go.Arc
