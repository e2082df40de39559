/- A part of this claim. -/
import Derived.Test.YtfbbflhnhmphiaaGreatDoorBcA
set_option maxHeartbeats 16000000
set_option maxRecDepth 100000
namespace Go.Arc
open Go.Ab Go.RowKit Go.Proofs Tryz
variable {T : Lay}
theorem qeq(L:LibT T)(l:List Evt)(id d:Int)(hl:l.length<=1048576):Den prog T 4 [evts l,vi id,vi d] (vb true):=by
 have LC:=libC L;refine ab call4 func4 88 ?_;refine rc (jgj L) ?_;by_cases h30:30<l.length
 .exact zcl
 have hfw:=jhn (T:=T) l omq;refine rcW (vf h30) hfw ?_;cases hf:pr l
 .exact za
 have hs:=jep hf;by_cases d0:d<0
 .refine runW (vg d0) ?_;exact fin rfl
 by_cases d1:1048575<d
 .refine runW (ai (vf d0) (vg d1)) ?_;exact fin rfl
 have hd:dayG d=true:=by unfold dayG;rw[vl (show 0<=d by omega),vl (show d<=1048575 by omega)];rfl
 refine rcW (ai (vf d0) (vf d1)) jeb ?_;refine run ?_;refine loop ⟨[37,1,2,35,36,7],[7],[],[]⟩ (fun s:Nat×Rgs=>s.1<=l.length/\Low s.2 s.1/\da s.2=0) (fun s=>l.length-s.1) (fun s=>⟨88,[(37,.v (vi s.1)),(1,.v (vi id)),(2,.v (vi d)),(35,.v (evts l)),(36,.v (vi l.length)),(7,.p 7 0)],[(7,.var s.2.cs)],[]⟩) (0,aj) ⟨vj _,gj 0,jdz⟩ ?_;rintro⟨k,r⟩ ⟨hk,hlow,hc⟩
 show aw _ _ _ ⟨88,[(37,.v (vi k)),(1,.v (vi id)),(2,.v (vi d)),(35,.v (evts l)),(36,.v (vi l.length)),(7,.p 7 0)],[(7,.var r.cs)],[]⟩ _
 dsimp only at hk hlow hc
 by_cases hlt:k<l.length
 .obtain⟨e,he,-,hm⟩:=af hlt;have hap:=jdp L hlow omq (hs e hm);rw[jog hc] at hap;have hgood:=jrf (e:=e) hlow (hs e hm);have hlaw:=qrd (r:=r) (e:=e) (id:=id) (d:=d) hc;have hfit:=cg hlow omq;obtain⟨x,hx⟩:∃x,(appl r e).1=x:=⟨_,rfl⟩;obtain⟨y,hy⟩:∃y,(appl r e).2=y:=⟨_,rfl⟩;rw[hx,hy] at hap hlaw;rw[hx,hy] at hgood;clear hx hy;refine rcW he hap ?_;by_cases h0:y=0
  case neg=>
   clear hap hgood hlaw;refine runW (vf h0) ?_;exact zbv
  have hE:=hgood h0;have hlaw:=hlaw h0;have hfx:=cg hE.low omq;clear hap hgood;by_cases h1:d<e.day
  case neg=>
   refine runW (ai h0 (vf h1)) ?_;exact zq
  refine rcW (ai h0 (vg h1)) (tq (T:=T) r.fls id hfit.fls.1) ?_;by_cases h2:az r.fls id<0
  .refine runW (vf (show ¬(0:Int)<=az r.fls id by omega)) ?_;exact zq
  obtain⟨p1,p2,p3⟩:=hlaw h1 hd h2;have o1:=jau LC r hfit id d;have o2:=jau LC x hfx id d;have hv:=qvs r hfit id d;rw[p1] at o1;rw[p2,p3] at o2;obtain⟨v,hve⟩:∃v,onV r id d=v:=⟨_,rfl⟩;rw[hve] at o1 o2 hv;have hsm:=qt9 (T:=T) v v hv;rw[qix] at hsm;clear hve p3;refine rcW (vg (show (0:Int)<=az r.fls id by omega)) o1 ?_;refine rc o2 ?_;refine rc hsm ?_;refine run ?_;exact zq
 exact za
end Go.Arc
