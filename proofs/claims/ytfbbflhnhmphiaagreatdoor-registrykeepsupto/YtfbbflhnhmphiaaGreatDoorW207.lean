/- A part of this claim. -/
import Derived.Test.YtfbbflhnhmphiaaGreatDoorBcA
set_option maxHeartbeats 16000000
set_option maxRecDepth 100000
namespace Go.Arc
open Go.Ab Go.RowKit Go.Proofs Tryz
variable {T : Lay}
theorem qoj(l:List Evt)(f:FuncId)(cap:List V)(p:Evt->Bool)(hl:l.length<=1048576)(hp:∀e∈l,Den prog T f (.agg e.cs::cap) (vb (p e))):
   Den prog T 18 [evts l,.func f cap] (vi (ix p l)):=by
  refine ab call18 func18 19 ?_;exact ixPf
theorem qkw(e:Evt)(d:Int):Den prog T 19 [.agg e.cs,.row [vi d]] (vb (decide (d<e.day))):=by
 refine ab call19 func19 8 ?_;exact za
theorem jl1(L:LibT T){l:List Evt}(hl:l.length<=30)(hs:∀e∈l,SmE e)(hd:∀e∈l,e.day<=maxI)(hR:fy none aj l)(i:Nat):Den prog T 16 [evts (l.take i)] (.tup [.agg (bb aj (l.take i)).cs,vi (-1),vi 0]):=by
 have h:=jl2 L (l.take i) ze8 (fun e he=>hs e (xb5 he));unfold pc at h;rw[show fv (l.take i) 9223372036854775807=_ from qhm hd omq hR i] at h;exact h
theorem ix_up(l:List Evt)(d:Int):(ix (fun e:Evt=>decide (d<e.day)) l= -1/\upN l d=l.length)\/(ix (fun e:Evt=>decide (d<e.day)) l=(upN l d:Int)):=by
 unfold ix upN;cases l.findIdx? fun e:Evt=>decide (d<e.day) with
 |none=>exact .inl ⟨rfl,rfl⟩
 |some k=>exact .inr rfl
abbrev gr207:List Gent:=gd 12 [[0,1,0],[2,2,0],[6,3,0],[14,0,2,4,0,9,1],[30,0,2,9,3],[526,0,3,4,2],[15,4,0,9,2],[31,5,3,9,2],[542,0,1,0,0,0],[527,4,0,0,0,0],[543,5,2,0,0,0],[63,6,0],[127,7,1,8,3,9,2],[575,6,1],[255,8,2,9,4],[639,7,3,8,2],[383,7,0,9,1],[511,9,2,0,0,0],[895,7,1,0,0,0],[767,8,0,10,1],[1023,10,1,0,0,0],[1791,8,0,0,0,0],[2047,11,0,0,0,0],[4095]]
theorem qen(L:LibT T)(l:List Evt)(d:Int)(hl:l.length<=1048576)(hd:∀e∈l,e.day<=maxI):Den prog T 5 [evts l,vi d] (vb true):=by
 refine ab call5 func5 141 ?_;refine rc (jgj L) ?_;by_cases h30:30<l.length
 .exact zcl
 have hfw:=jhn (T:=T) l omq;refine rcW (vf h30) hfw ?_;cases hf:pr l
 .exact za
 have hs:=jep hf;have hF:=jl2 L l omq hs;unfold pc at hF;have hz0:=qhn hd;obtain⟨⟨A,B,C⟩,hW⟩:∃W,fv l 9223372036854775807=W:=⟨_,rfl⟩;rw[show jff l=fv l 9223372036854775807 from rfl,hW] at hz0;rw[hW] at hF;have hF:Den prog T 16 [evts l] (.tup [.agg A.cs,vi B,vi C]):=hF;have hz0:C=0->l.length<=1024/\fy none aj l:=hz0;clear hW;refine rc hF ?_;by_cases hz:C=0
 case neg=>
  exact zd6
 obtain⟨-,hR⟩:=hz0 hz;refine runW hz ?_;refine loop ⟨[44,43,0,3],[3],[],[]⟩ (fun i:Nat=>i<=l.length) (fun i=>l.length-i) (fun i=>⟨141,[(44,.v (vi i)),(43,.v (vi l.length)),(0,.v (evts l)),(3,.p 3 0)],[(3,.var [vi d])],[]⟩) 0 (vj _) ?_;intro i hi;by_cases hlt:i<l.length
 .obtain⟨e,he,-,hm⟩:=af hlt;have t1:(l.map Evt.cs).take i=(l.take i).map Evt.cs:=(xb4 ..).symm;have t2:(l.map Evt.cs).take (i+1)=(l.take (i+1)).map Evt.cs:=(xb4 ..).symm;have hlow:=jen hs (gj 0) hR i;have hap:=jdp L hlow omq (hs e hm);rw[qlp hR he] at hap;have h1:=jl1 L omq hs hd hR i;have h2:=jl1 L omq hs hd hR (i+1);have hsm:=jxs (T:=T) (bb aj (l.take (i+1))) (cg (jen hs (gj 0) hR (i+1)) omq);obtain⟨R,hRe⟩:∃R,bb aj (l.take i)=R:=⟨_,rfl⟩;obtain⟨X,hXe⟩:∃R,bb aj (l.take (i+1))=R:=⟨_,rfl⟩;rw[hRe] at hap h1;rw[hXe] at hap h2 hsm;clear hRe hXe hlow;have hap:Den prog T 10 [.agg R.cs,.agg e.cs] (.tup [.agg X.cs,vi 0]):=hap;refine rcW t1 h1 ?_;refine runD trivial ?_;refine aq gr207 ?_;refine gR he ?_;refine gD (ai he t2) hap ?_;refine call h2 ?_;refine rc hsm ?_;refine run ?_;exact zcn
 have hix:=qoj (T:=T) l 19 [.row [vi d]] (fun e=>decide (d<e.day)) hl (fun e _=>qkw e d);have hOn:=qtb L l d omq hs;unfold pc at hOn;rw[on15 hd omq hR d] at hOn;have hch:=qxv hR d;have hcs:=ix_up l d;have hnl:=qcq l d;have hFn:=jl1 L omq hs hd hR (upN l d);have hsm:=jxs (T:=T) (bb aj (l.take (upN l d))) (cg (jen hs (gj 0) hR (upN l d)) omq);obtain⟨n,hn⟩:∃n,upN l d=n:=⟨_,rfl⟩;rw[hn] at hOn hch hcs hnl hFn hsm;have hX0:n=l.length->l.take n=l:=fun e=>ye omq;have t1:(l.map Evt.cs).take n=(l.take n).map Evt.cs:=(xb4 ..).symm;obtain⟨Y,hY⟩:∃Y,l.take n=Y:=⟨_,rfl⟩;rw[hY] at hOn hch hFn hsm hX0 t1;obtain⟨R,hRe⟩:∃R,bb aj Y=R:=⟨_,rfl⟩;rw[hRe] at hOn hch hFn hsm;clear hn hY hRe;have hOn:Den prog T 20 [evts l,vi d] (.tup [.agg R.cs,vi (-1),vi 0]):=hOn;refine rc hix ?_;rcases hcs with⟨e1,e2⟩|e1
 .rw[e1];have hYl:=hX0 e2;subst hYl;have t3:(Y.map Evt.cs).take Y.length=Y.map Evt.cs:=ye (by rw[vm];exact vo _);subst e2;refine rc hOn ?_;refine rcW t3 hFn ?_;refine rc hsm ?_;by_cases h0:Y.length=0
  .by_cases hc:R.chg<=d
   .refine runW (ai h0 (vg hc)) ?_;exact fin rfl
   refine runW (ai h0 (vf hc)) ?_;exact fin rfl
  refine runW (ai (hch h0) (vf h0)) ?_;exact fin rfl
 rw[e1];refine rc hOn ?_;refine rcW t1 hFn ?_;refine rc hsm ?_;by_cases h0:n=0
 .by_cases hc:R.chg<=d
  .refine runW (ai h0 (vg hc)) ?_;exact fin rfl
  refine runW (ai h0 (vf hc)) ?_;exact fin rfl
 refine runW (ai (hch h0) (vf h0)) ?_;exact fin rfl
end Go.Arc
