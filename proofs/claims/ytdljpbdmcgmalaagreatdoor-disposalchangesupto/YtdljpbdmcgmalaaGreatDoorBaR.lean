/- A part of this claim. -/
import Derived.Test.YtdljpbdmcgmalaaGreatDoorBaO
import Derived.Test.YtdljpbdmcgmalaaGreatDoorBaV
set_option maxRecDepth 100000
namespace Go.Arc
open Go.Ab Go.RowKit Go.Proofs Tryz
variable {T : Lay}
theorem jkf (p:Prp) (hp:p.fls.length<=1048576):Den prog T 52 [.agg p.cs] (.agg p.cs):=by
 refine ja0 call52 func52 9 ?_;exact zt
theorem den_Copy08 (l:List Fil) (hl:l.length<=1048576) (hf:∀f∈l,f.Fit):Den prog T 119 [fils l] (fils l):=by
 refine ja0 call119 func119 27 ?_;refine run ?_
 refine loop ⟨[0,3,4],[],[3],[]⟩ (fun k:Nat=>k<=l.length) (fun k=>l.length-k)
  (fun k=>⟨27,[(0,.v (fils l)),(3,.v (fils (l.take k))),(4,.v (vi k))],[],[(109,[3])]⟩) 0 (Nat.zero_le _) ?_
 intro k hk;by_cases hlt:k<l.length
 ·obtain ⟨x,hx,-,hm⟩:=ja1 hlt;have hxf:=(hf x hm).2.2.1;have hap:(l.take k).map Fil.cs++[x.cs]=(l.take (k+1)).map Fil.cs:=by rw[jdn hx,List.map_append]; rfl
  refine runW (ai hx hap) ?_;exact zm
 have hk2:k=l.length:=om
 subst hk2;rw[List.take_length];exact za
theorem aw_meetW {P:Program} {α:Type} {G:Prop} {c:Code} {Q:AX->St->Prop} (k:α->Kp) (φ:α->Prop) (S:α->St) (h:(∀st x,φ x->jb0 (k x) st=some (S x)->aw P T c st Q)->G) (h2:∀x,φ x->aw P T c (S x) Q):G:=h fun _ x hx hk=>jbx (k x) hk (h2 x hx)
def fltC (lo hi:Nat):List Nat->List Nat
 | []=>[]
 | i::c=>if lo<=i then (if i<hi then fltC lo hi c else i::fltC lo hi c) else i::fltC lo hi c
theorem fltC_eq (lo hi:Nat):∀c:List Nat,c.filter (fun i=> !(Nat.ble lo i && Nat.blt i hi))=fltC lo hi c
 | []=>rfl
 | i::c=>by
  have ih:=fltC_eq lo hi c;unfold fltC;by_cases h1:lo<=i
  ·by_cases h2:i<hi
   ·rw[if_pos h1,if_pos h2,<- ih,List.filter_cons_of_neg];rw[Nat.ble_eq_true_of_le h1,show Nat.blt i hi=true from Nat.ble_eq_true_of_le h2]; decide
   ·rw[if_pos h1,if_neg h2,<- ih,List.filter_cons_of_pos];rw[show Nat.blt i hi=false from Bool.eq_false_iff.2 fun e=>h2 (Nat.le_of_ble_eq_true e),Bool.and_false]; rfl
  ·rw[if_neg h1,<- ih,List.filter_cons_of_pos];rw[show Nat.ble lo i=false from Bool.eq_false_iff.2 fun e=>h1 (Nat.le_of_ble_eq_true e)]; rfl
theorem ja9:(∀id off n,remC id off n []=[])/\(∀id off n e c o,remC id off n ((e,c)::o)=(e,fltC (plc id off) (plc id off+n) c)::remC id off n o)/\(∀lo hi,fltC lo hi []=[])/\(∀lo hi i c,fltC lo hi (i::c)=if lo<=i then (if i<hi then fltC lo hi c else i::fltC lo hi c) else i::fltC lo hi c):=
 ⟨fun _ _ _=>rfl,fun id off n e c o=>by unfold remC; rw[List.map_cons]; simp only[fltC_eq],fun _ _=>rfl,fun _ _ _ _=>rfl⟩
def fltB (d:Nat):List Nat->List Nat
 | []=>[]
 | i::c=>if 1000000000<=i then (if pid i=d then fltB d c else i::fltB d c) else i::fltB d c
theorem fltB_eq (d:Nat):∀c:List Nat,c.filter (fun i=> !(Nat.ble 1000000000 i && Nat.beq (pid i) d))=fltB d c
 | []=>rfl
 | i::c=>by
  have ih:=fltB_eq d c;unfold fltB;by_cases h1:1000000000<=i
  ·by_cases h2:pid i=d
   ·rw[if_pos h1,if_pos h2,<- ih,List.filter_cons_of_neg];rw[Nat.ble_eq_true_of_le h1,h2,Nat.beq_refl]; decide
   ·rw[if_pos h1,if_neg h2,<- ih,List.filter_cons_of_pos];rw[show Nat.beq (pid i) d=false from Bool.eq_false_iff.2 fun e=>h2 (Nat.eq_of_beq_eq_true e),Bool.and_false]; rfl
  ·rw[if_neg h1,<- ih,List.filter_cons_of_pos];rw[show Nat.ble 1000000000 i=false from Bool.eq_false_iff.2 fun e=>h1 (Nat.le_of_ble_eq_true e)]; rfl
theorem jaa:(∀d,remB d []=[])/\(∀d e c o,remB d ((e,c)::o)=(e,fltB d c)::remB d o)/\(∀d,fltB d []=[])/\(∀d i c,fltB d (i::c)=if 1000000000<=i then (if pid i=d then fltB d c else i::fltB d c) else i::fltB d c)/\∀a n c,(Value.slice a n c).oneCell'=true:=
 ⟨fun _=>rfl,fun d e c o=>by unfold remB; rw[List.map_cons]; simp only[fltB_eq],fun _=>rfl,fun _ _ _=>rfl,fun _ _ _=>rfl⟩
abbrev gr159:List Gent:=⟨bz 12 0,12,.one 0 0⟩::⟨bz 12 1,11,.one 2 0⟩::⟨bz 12 5,10,.ld 3 0⟩::⟨bz 12 13,9,.one 4 0⟩::⟨bz 12 29,8,.one 5 0⟩::⟨bz 12 61,7,.ld 6 0⟩::⟨bz 12 125,6,.alt [(1,0),(7,1)]⟩::⟨bz 12 127,5,.alt [(7,1)]⟩::⟨bz 12 253,5,.alt [(1,0),(8,1)]⟩::⟨bz 12 255,4,.alt [(8,1)]⟩::⟨bz 12 509,4,.alt [(1,0)]⟩::⟨bz 12 511,3,.alt [(9,0)]⟩::⟨bz 12 1023,2,.one 10 0⟩::⟨bz 12 2047,1,.alt [(11,0)]⟩::⟨bz 12 4095,0,.fin⟩::[]
def CopyP (r:Rgs):Nat->Option Blk->V->Prop
 | 0=>fun ro v=>∃s,okB r.pps.length s/\ro=row_q r s/\v= .agg (cs_q r s)
 | 1=>fun ro v=>∃s,okB r.aps.length s/\ro=row_a r s/\v= .agg (cs_a r s)
 | _=>fun ro v=>∃s,okB r.crs.length s/\ro=row_k r s/\v= .agg (cs_k r s)
def cpS (ts:List (Nat×TV)) (C:V->List V) (q:Nat) (r0:List V) (e:TypeId) (z n:Nat) (row:List V):Option (Nat×Nat)->St
 | none=>⟨169,ts,[(1,.con r0),(2,.var zc12),(3,.var (C (.val (.slice none 0 0))))],[]⟩
 | some x=>⟨169,ts,[(1,.con r0),(2,.var zc12),(3,.var (C (.val (.slice (some ⟨x.1,0,none⟩) n x.2)))),(q,.var row (some x.1) (some (e,z,x.2)))],[]⟩
def cpK (ts:List Nat) (q:Nat):Option (Nat×Nat)->Kp
 | none=>⟨ts,[1,2,3],[],[]⟩
 | some _=>⟨ts,[1,2,3,q],[],[]⟩
abbrev cpQ (r:Rgs) (v:V):List V:=[ofcs r.ofs,jad r.pls,fils r.fls,ruls r.rls,hlds r.hls,clks r.cks,sels r.sls,v,apvs r.aps,crts r.crs,deps r.dps,vi r.chg]
abbrev cpA (r:Rgs) (v:V):List V:=[ofcs r.ofs,jad r.pls,fils r.fls,ruls r.rls,hlds r.hls,clks r.cks,sels r.sls,prps r.pps,v,crts r.crs,deps r.dps,vi r.chg]
abbrev cpX (r:Rgs) (v:V):List V:=[ofcs r.ofs,jad r.pls,fils r.fls,ruls r.rls,hlds r.hls,clks r.cks,sels r.sls,prps r.pps,apvs r.aps,v,deps r.dps,vi r.chg]
abbrev t123:List (Nat×TV):=[(1,.p 1 0),(2,.p 2 0),(3,.p 3 0)]
theorem jfc:zc12.length=12/\zc12.drop 12=[]/\∀v:List V,zc12.take 0++v++zc12.drop 12=v:=⟨rfl,rfl,fun v=>List.append_nil v⟩
set_option maxHeartbeats 64000000 in
theorem jo6 (r:Rgs) (h:r.Fit) (w:Nat):DenU prog T 51 [.agg r.cs] (CopyP r w):=by
 have hol:=h.ofs.1;have hpl:=h.pls.1;have hsl:=h.sls.1;have hql:=h.pps.1;have hal:=h.aps;have hkl:=h.crs.1;have hul:=h.rls.1;have hhl:=h.hls.1;have hcl:=h.cks.1;have hdl:=h.dps;refine je8 follows (fun args w=>call51 args w) func51 rfl 169 rfl ?_;refine jcw (jcs 2) (ai ja9 (ai jaa ja2)) ?_;refine jhi 1 ?_;refine jbx (st':=⟨169,[(1,.p 1 0),(2,.p 2 0),(3,.p 3 0)],[(1,.con r.cs),(2,.var zc12),(3,.var r.cs)],[]⟩) ⟨[1,2,3],[1,2,3],[],[]⟩ rfl ?_;refine runW (ai ja9 (ai jaa ja2)) ?_
 refine loop ⟨[1,2,3,4],[1,2,3],[4000000000],[]⟩ (fun k:Nat=>k<=r.ofs.length) (fun k=>r.ofs.length-k)
  (fun k=>⟨169,[(1,.p 1 0),(2,.p 2 0),(3,.p 3 0),(4,.v (vi k))],[(1,.con r.cs),(2,.var zc12),(3,.var [ofcs (r.ofs.take k),jad r.pls,fils r.fls,ruls r.rls,hlds r.hls,clks r.cks,sels r.sls,prps r.pps,apvs r.aps,crts r.crs,deps r.dps,vi r.chg])],[(100,[4000000000])]⟩) 0 (Nat.zero_le _) ?_
 intro k hk;by_cases hlt:k<r.ofs.length
 ·obtain ⟨x,hx,-,hm⟩:=ja1 hlt;have hxf:=(h.ofs.2 x hm).2;have hap:(r.ofs.take k).map Ofc.cs++[x.cs]=(r.ofs.take (k+1)).map Ofc.cs:=by rw[jdn hx,List.map_append]; rfl
  exact zd
 have hk2:k=r.ofs.length:=om
 subst hk2;rw[List.take_length];refine runW (ai ja9 (ai jaa ja2)) ?_
 refine loop ⟨[1,2,3,6],[1,2,3],[4000000001],[]⟩ (fun k:Nat=>k<=r.pls.length) (fun k=>r.pls.length-k)
  (fun k=>⟨169,[(1,.p 1 0),(2,.p 2 0),(3,.p 3 0),(6,.v (vi k))],[(1,.con r.cs),(2,.var zc12),(3,.var [ofcs r.ofs,jad (r.pls.take k),fils r.fls,ruls r.rls,hlds r.hls,clks r.cks,sels r.sls,prps r.pps,apvs r.aps,crts r.crs,deps r.dps,vi r.chg])],[(106,[4000000001])]⟩) 0 (Nat.zero_le _) ?_
 intro k hk;by_cases hlt:k<r.pls.length
 ·obtain ⟨x,hx,-,hm⟩:=ja1 hlt;have hxf:=(h.pls.2 x hm).1;have hxg:=(h.pls.2 x hm).2.1;have hap:(r.pls.take k).map Plan.cs++[x.cs]=(r.pls.take (k+1)).map Plan.cs:=by rw[jdn hx,List.map_append]; rfl
  exact zd
 have hk2:k=r.pls.length:=om
 subst hk2;rw[List.take_length];refine rcW (ai ja9 (ai jaa ja2)) (den_Copy08 r.fls h.fls.1 h.fls.2) ?_;refine runW (ai ja9 (ai jaa ja2)) ?_
 refine loop ⟨[1,2,3,8],[1,2,3],[4000000006],[]⟩ (fun k:Nat=>k<=r.sls.length) (fun k=>r.sls.length-k)
  (fun k=>⟨169,[(1,.p 1 0),(2,.p 2 0),(3,.p 3 0),(8,.v (vi k))],[(1,.con r.cs),(2,.var zc12),(3,.var [ofcs r.ofs,jad r.pls,fils r.fls,ruls r.rls,hlds r.hls,clks r.cks,sels (r.sls.take k),prps r.pps,apvs r.aps,crts r.crs,deps r.dps,vi r.chg])],[(130,[4000000006])]⟩) 0 (Nat.zero_le _) ?_
 intro k hk;by_cases hlt:k<r.sls.length
 ·obtain ⟨x,hx,-,hm⟩:=ja1 hlt;have hxf:=h.sls.2 x hm;have hap:(r.sls.take k).map Sel.cs++[x.cs]=(r.sls.take (k+1)).map Sel.cs:=by rw[jdn hx,List.map_append]; rfl
  exact zd
 have hk2:k=r.sls.length:=om
 subst hk2;rw[List.take_length];refine jcw (jcs 28) (ai ja9 (ai jaa ja2)) ?_;refine jbx (st':=⟨169,[(1,.p 1 0),(2,.p 2 0),(3,.p 3 0)],[(1,.con r.cs),(2,.var zc12),(3,.var r.cs)],[]⟩) ⟨[1,2,3],[1,2,3],[],[]⟩ rfl ?_;rcases w with _ | _ | w
 ·refine jcw (jcs 29) trivial ?_;apply aw_meetW (fun s=>cpK [1,2,3,10] 131 s) (fun s=>okB 0 s) (fun s=>cpS [(1,.p 1 0),(2,.p 2 0),(3,.p 3 0),(10,.v (vi (0:Nat)))] (cpQ r) 131 r.cs 49 5 0 [] s)
  ·intro tail;refine aw_rowC 3 7 131 49 5 (cpQ r (.slice 5 [])) none none rfl rfl dc rfl kr (by show (131:Nat)<169; decide) rfl ?_ ?_
   ·refine jcw (jcs 30) trivial ?_;refine tail _ none rfl ?_;rfl
   ·intro q cap hq hcap;refine jcw (jcs 30) trivial ?_;refine tail _ (some (q,cap)) ⟨Nat.zero_le _,hcap⟩ ?_;rfl
  intro s hs
  refine loopV (fun y:Nat×Option (Nat×Nat)=>cpK [1,2,3,10] 131 y.2) (fun y=>y.1<=r.pps.length/\okB y.1 y.2) (fun y=>r.pps.length-y.1)
   (fun y=>cpS [(1,.p 1 0),(2,.p 2 0),(3,.p 3 0),(10,.v (vi y.1))] (cpQ r) 131 r.cs 49 5 y.1 ((r.pps.take y.1).map Prp.cs).flatten y.2) (0,s) ⟨Nat.zero_le _,hs⟩ (by cases s <;> rfl) ?_
  rintro ⟨k,s⟩ ⟨hk,hs⟩;simp only at hk hs;by_cases hlt:k<r.pps.length
  ·obtain ⟨x,hx,-,hm⟩:=ja1 hlt;have hrow:((r.pps.take k).map Prp.cs).flatten++[Prp.cs x].flatten=((r.pps.take (k+1)).map Prp.cs).flatten:=by rw[jdn hx,List.map_append,List.flatten_append]; rfl
   have hw:((r.pps.take k).map Prp.cs).flatten.length=k*5:=by rw[jc4 (cs:=Prp.cs) (z:=5) (fun _=>rfl),List.length_take,Nat.min_eq_left hk]
   have hone:k+[Prp.cs x].length=k+1:=rfl;have hxf:=h.pps.2 x hm;rcases s with _ | ⟨q,c⟩
   ·have hk0:k=0:=hs;subst hk0;simp only[cpS];refine runD (ai hx (ai ja9 (ai jaa ja2))) ?_;refine jat gr159 ?_;refine jea (fun x:Nat×Nat=>0+1<=x.2/\x.2<=maxLen) ⟨[1,2,3,10],[1,2,3,131],[],[]⟩ (fun z=>cpS [(1,.p 1 0),(2,.p 2 0),(3,.p 3 0),(10,.v (vi (0:Nat)))] (cpQ r) 131 r.cs 49 5 (0+1) ((r.pps.take (0+1)).map Prp.cs).flatten (some z)) (fun st st' hk h=>jbx _ hk h) ?_ (fun K' hK=> ?_)
    rotate_left
    ·refine jab (ai hx (ai ja9 (ai jaa ja2))) ?_
     try simp only[and_self,and_self_left,and_self_right,jag,jai,and_assoc]
     apply viaA
     ·have hX:=fun k kn m h0=>call (T:=T) (k:=k) (kn:=kn) (m:=m) (jkf x hxf) h0
      repeat' (first | with_reducible apply And.imp | exact hX _ _ _)
     refine jb8 (ai hx (ai ja9 (ai jaa ja2))) ?_
     try simp only[and_self,and_self_left,and_self_right,jag,jai]
     refine jd4 ?_;unfold appR;refine jb8 (ai hx (ai ja9 (ai jaa ja2))) ?_;intro r' cap' hnm h1 h2;rw[show ([]:List V)++[Prp.cs x].flatten=((r.pps.take (0+1)).map Prp.cs).flatten from hrow];exact z8
    rintro y hy;simp only[cpS];refine runW (ai ja9 (ai jaa ja2)) ?_;exact roundV (0+1,some y) ⟨hlt,hy⟩ zeh rfl
   ·obtain ⟨hc1,hc2⟩:k<=c/\c<=maxLen:=hs;simp only[cpS];obtain ⟨W,hW⟩:∃W,((r.pps.take k).map Prp.cs).flatten=W:=⟨_,rfl⟩;rw[hW] at hrow hw ⊢;refine runD (ai hx (ai ja9 (ai jaa ja2))) ?_;refine jat gr159 ?_;refine jea (fun x:Nat×Nat=>k+1<=x.2/\x.2<=maxLen) ⟨[1,2,3,10],[1,2,3,131],[],[]⟩ (fun z=>cpS [(1,.p 1 0),(2,.p 2 0),(3,.p 3 0),(10,.v (vi k))] (cpQ r) 131 r.cs 49 5 (k+1) ((r.pps.take (k+1)).map Prp.cs).flatten (some z)) (fun st st' hk h=>jbx _ hk h) ?_ (fun K' hK=> ?_)
    rotate_left
    ·refine jab (ai hx (ai ja9 (ai jaa ja2))) ?_
     try simp only[and_self,and_self_left,and_self_right,jag,jai,and_assoc]
     apply viaA
     ·have hX:=fun k kn m h0=>call (T:=T) (k:=k) (kn:=kn) (m:=m) (jkf x hxf) h0
      repeat' (first | with_reducible apply And.imp | exact hX _ _ _)
     refine jb8 (ai hx (ai hw (ai ja9 (ai jaa ja2)))) ?_
     try simp only[and_self,and_self_left,and_self_right,jag,jai]
     refine jd4 ?_;unfold appR;refine jb8 (ai hx (ai hw (ai ja9 (ai jaa ja2)))) ?_;refine ⟨hc1,⟨om,om⟩,.inl trivial,?_⟩;intro r' cap' hnm h1 h2;rw[hrow,hone];rw[hone] at h1;exact z8
    rintro y hy;simp only[cpS];refine runW (ai ja9 (ai jaa ja2)) ?_;exact roundV (k+1,some y) ⟨hlt,hy⟩ zeh rfl
  have hk2:k=r.pps.length:=om
  subst hk2;rw[List.take_length];rcases s with _ | x
  ·simp only[cpS];refine runW (ai ja9 (ai jaa ja2)) ?_
   refine loop ⟨[1,2,3,11],[1,2,3],[4000000009],[]⟩ (fun k:Nat=>k<=r.crs.length) (fun k=>r.crs.length-k)
    (fun k=>⟨169,[(1,.p 1 0),(2,.p 2 0),(3,.p 3 0),(11,.v (vi k))],[(1,.con r.cs),(2,.var zc12),(3,.var [ofcs r.ofs,jad r.pls,fils r.fls,ruls r.rls,hlds r.hls,clks r.cks,sels r.sls,.val (.slice none 0 0),apvs r.aps,crts (r.crs.take k),deps r.dps,vi r.chg])],[(37,[4000000009])]⟩) 0 (Nat.zero_le _) ?_
   intro k hk;by_cases hlt:k<r.crs.length
   ·obtain ⟨x,hx,-,hm⟩:=ja1 hlt;have hxf:=(h.crs.2 x hm).1;have hap:(r.crs.take k).map Crt.cs++[x.cs]=(r.crs.take (k+1)).map Crt.cs:=by rw[jdn hx,List.map_append]; rfl
    exact zd
   have hk2:k=r.crs.length:=om
   subst hk2;rw[List.take_length];exact z5
  ·simp only[cpS];refine runW (ai ja9 (ai jaa ja2)) ?_
   refine loop ⟨[1,2,3,11],[1,2,3,131],[4000000009],[]⟩ (fun k:Nat=>k<=r.crs.length) (fun k=>r.crs.length-k)
    (fun k=>⟨169,[(1,.p 1 0),(2,.p 2 0),(3,.p 3 0),(11,.v (vi k))],[(1,.con r.cs),(2,.var zc12),(3,.var [ofcs r.ofs,jad r.pls,fils r.fls,ruls r.rls,hlds r.hls,clks r.cks,sels r.sls,.val (.slice (some ⟨x.1,0,none⟩) r.pps.length x.2),apvs r.aps,crts (r.crs.take k),deps r.dps,vi r.chg]),(131,.var (r.pps.map Prp.cs).flatten (some x.1) (some (49,5,x.2)))],[(37,[4000000009])]⟩) 0 (Nat.zero_le _) ?_
   intro k hk;by_cases hlt:k<r.crs.length
   ·obtain ⟨x,hx,-,hm⟩:=ja1 hlt;have hxf:=(h.crs.2 x hm).1;have hap:(r.crs.take k).map Crt.cs++[x.cs]=(r.crs.take (k+1)).map Crt.cs:=by rw[jdn hx,List.map_append]; rfl
    exact zd
   have hk2:k=r.crs.length:=om
   subst hk2;rw[List.take_length];refine runW (ai jfc (ai ja9 (ai jaa ja2))) ?_;exact ⟨_,_,jbv rfl,.refl _,.inr ⟨131,_,x.1,rfl,rfl,some x,hs,rfl,rfl⟩⟩
 ·refine runW (ai ja9 (ai jaa ja2)) ?_
  refine loop ⟨[1,2,3,10],[1,2,3],[4000000007],[]⟩ (fun k:Nat=>k<=r.pps.length) (fun k=>r.pps.length-k)
   (fun k=>⟨169,[(1,.p 1 0),(2,.p 2 0),(3,.p 3 0),(10,.v (vi k))],[(1,.con r.cs),(2,.var zc12),(3,.var (cpQ r (prps (r.pps.take k))))],[(49,[4000000007])]⟩) 0 (Nat.zero_le _) ?_
  intro k hk;by_cases hlt:k<r.pps.length
  ·obtain ⟨x,hx,-,hm⟩:=ja1 hlt;have hxf:=h.pps.2 x hm;have hap:(r.pps.take k).map Prp.cs++[x.cs]=(r.pps.take (k+1)).map Prp.cs:=by rw[jdn hx,List.map_append]; rfl
   refine runD hx ?_;refine jat gr159 ?_;refine jea (fun _:Unit=>True) ⟨[1,2,3,10],[1,2,3],[4000000007],[]⟩ (fun _=>⟨169,[(1,.p 1 0),(2,.p 2 0),(3,.p 3 0),(10,.v (vi k))],[(1,.con r.cs),(2,.var zc12),(3,.var (cpQ r (prps (r.pps.take (k+1)))))],[(49,[4000000007])]⟩) (fun st st' hk h=>jbx _ hk h) ?_ (fun K' hK=> ?_)
   rotate_left
   ·refine jab hx ?_
    try simp only[and_self,and_self_left,and_self_right,jag,jai,and_assoc]
    apply viaA
    ·have hX:=fun k kn m h0=>call (T:=T) (k:=k) (kn:=kn) (m:=m) (jkf x hxf) h0
     repeat' (first | with_reducible apply And.imp | exact hX _ _ _)
    refine jab (ai hx hap) ?_
    try simp only[and_self,and_self_left,and_self_right,jag,jai]
    repeat' (with_reducible refine ai ?_ ?_)
    all_goals exact jdu hK () trivial
   intro _ _;refine runW (ai ja9 (ai jaa ja2)) ?_;exact zm
  have hk2:k=r.pps.length:=om
  subst hk2;rw[List.take_length];apply aw_meetW (fun s=>cpK [1,2,3] 136 s) (fun s=>okB r.aps.length s) (fun s=>cpS t123 (cpA r) 136 r.cs 51 3 r.aps.length (r.aps.map Apv.cs).flatten s)
  ·intro tail;by_cases hz:r.aps=[]
   ·have hz2:r.aps.length=0:=by rw[hz]; rfl
    have tail2:∀st s,okB 0 s->jb0 (cpK [1,2,3] 136 s) st=some (cpS t123 (cpA r) 136 r.cs 51 3 0 [] s)->_:=fun st s h1 h2=>tail st s (by rw[hz2]; exact h1) (by rw[hz2,hz]; exact h2);refine jcw (jcs 34) hz ?_;refine aw_rowC 3 8 136 51 3 (cpA r (.slice 3 [])) none none rfl rfl dc rfl kr (by show (136:Nat)<169; decide) rfl ?_ ?_
    ·refine tail2 _ none rfl ?_;rfl
    ·intro q cap hq hcap;refine tail2 _ (some (q,cap)) ⟨Nat.zero_le _,hcap⟩ ?_;rfl
   ·have hpos:0<(r.aps.map Apv.cs).length:=by rw[List.length_map]; exact List.length_pos_iff.2 hz
    have hl0:0+(r.aps.map Apv.cs).length=r.aps.length:=by rw[List.length_map,Nat.zero_add]
    refine runB (ai ja9 (ai jaa ja2)) ?_;refine jd4 ?_;unfold appR;refine runB hpos ?_;intro q cap hnm h1 h2;rw[List.nil_append,hl0];rw[hl0] at h1;refine jcw (jcs 34) (ai ja9 (ai jaa ja2)) ?_;refine tail _ (some (q,cap)) ⟨h1,h2⟩ ?_;rfl
  intro s hs;rcases s with _ | x
  ·simp only[cpS];refine runW (ai ja9 (ai jaa ja2)) ?_
   refine loop ⟨[1,2,3,11],[1,2,3],[4000000009],[]⟩ (fun k:Nat=>k<=r.crs.length) (fun k=>r.crs.length-k)
    (fun k=>⟨169,[(1,.p 1 0),(2,.p 2 0),(3,.p 3 0),(11,.v (vi k))],[(1,.con r.cs),(2,.var zc12),(3,.var [ofcs r.ofs,jad r.pls,fils r.fls,ruls r.rls,hlds r.hls,clks r.cks,sels r.sls,prps r.pps,.val (.slice none 0 0),crts (r.crs.take k),deps r.dps,vi r.chg])],[(37,[4000000009])]⟩) 0 (Nat.zero_le _) ?_
   intro k hk;by_cases hlt:k<r.crs.length
   ·obtain ⟨x,hx,-,hm⟩:=ja1 hlt;have hxf:=(h.crs.2 x hm).1;have hap:(r.crs.take k).map Crt.cs++[x.cs]=(r.crs.take (k+1)).map Crt.cs:=by rw[jdn hx,List.map_append]; rfl
    exact zd
   have hk2:k=r.crs.length:=om
   subst hk2;rw[List.take_length];exact z5
  ·simp only[cpS];refine runW (ai ja9 (ai jaa ja2)) ?_
   refine loop ⟨[1,2,3,11],[1,2,3,136],[4000000009],[]⟩ (fun k:Nat=>k<=r.crs.length) (fun k=>r.crs.length-k)
    (fun k=>⟨169,[(1,.p 1 0),(2,.p 2 0),(3,.p 3 0),(11,.v (vi k))],[(1,.con r.cs),(2,.var zc12),(3,.var [ofcs r.ofs,jad r.pls,fils r.fls,ruls r.rls,hlds r.hls,clks r.cks,sels r.sls,prps r.pps,.val (.slice (some ⟨x.1,0,none⟩) r.aps.length x.2),crts (r.crs.take k),deps r.dps,vi r.chg]),(136,.var (r.aps.map Apv.cs).flatten (some x.1) (some (51,3,x.2)))],[(37,[4000000009])]⟩) 0 (Nat.zero_le _) ?_
   intro k hk;by_cases hlt:k<r.crs.length
   ·obtain ⟨x,hx,-,hm⟩:=ja1 hlt;have hxf:=(h.crs.2 x hm).1;have hap:(r.crs.take k).map Crt.cs++[x.cs]=(r.crs.take (k+1)).map Crt.cs:=by rw[jdn hx,List.map_append]; rfl
    exact zd
   have hk2:k=r.crs.length:=om
   subst hk2;rw[List.take_length];refine runW (ai jfc (ai ja9 (ai jaa ja2))) ?_;exact ⟨_,_,jbv rfl,.refl _,.inr ⟨136,_,x.1,rfl,rfl,some x,hs,rfl,rfl⟩⟩
 ·refine runW (ai ja9 (ai jaa ja2)) ?_
  refine loop ⟨[1,2,3,10],[1,2,3],[4000000007],[]⟩ (fun k:Nat=>k<=r.pps.length) (fun k=>r.pps.length-k)
   (fun k=>⟨169,[(1,.p 1 0),(2,.p 2 0),(3,.p 3 0),(10,.v (vi k))],[(1,.con r.cs),(2,.var zc12),(3,.var (cpQ r (prps (r.pps.take k))))],[(49,[4000000007])]⟩) 0 (Nat.zero_le _) ?_
  intro k hk;by_cases hlt:k<r.pps.length
  ·obtain ⟨x,hx,-,hm⟩:=ja1 hlt;have hxf:=h.pps.2 x hm;have hap:(r.pps.take k).map Prp.cs++[x.cs]=(r.pps.take (k+1)).map Prp.cs:=by rw[jdn hx,List.map_append]; rfl
   refine runD hx ?_;refine jat gr159 ?_;refine jea (fun _:Unit=>True) ⟨[1,2,3,10],[1,2,3],[4000000007],[]⟩ (fun _=>⟨169,[(1,.p 1 0),(2,.p 2 0),(3,.p 3 0),(10,.v (vi k))],[(1,.con r.cs),(2,.var zc12),(3,.var (cpQ r (prps (r.pps.take (k+1)))))],[(49,[4000000007])]⟩) (fun st st' hk h=>jbx _ hk h) ?_ (fun K' hK=> ?_)
   rotate_left
   ·refine jab hx ?_
    try simp only[and_self,and_self_left,and_self_right,jag,jai,and_assoc]
    apply viaA
    ·have hX:=fun k kn m h0=>call (T:=T) (k:=k) (kn:=kn) (m:=m) (jkf x hxf) h0
     repeat' (first | with_reducible apply And.imp | exact hX _ _ _)
    refine jab (ai hx hap) ?_
    try simp only[and_self,and_self_left,and_self_right,jag,jai]
    repeat' (with_reducible refine ai ?_ ?_)
    all_goals exact jdu hK () trivial
   intro _ _;refine runW (ai ja9 (ai jaa ja2)) ?_;exact zm
  have hk2:k=r.pps.length:=om
  subst hk2;rw[List.take_length];refine jcw (jcs 35) trivial ?_;apply aw_meetW (fun s=>cpK [1,2,3,11] 161 s) (fun s=>okB 0 s) (fun s=>cpS [(1,.p 1 0),(2,.p 2 0),(3,.p 3 0),(11,.v (vi (0:Nat)))] (cpX r) 161 r.cs 37 6 0 [] s)
  ·intro tail;refine aw_rowC 3 9 161 37 6 (cpX r (.slice 6 [])) none none rfl rfl dc rfl kr (by show (161:Nat)<169; decide) rfl ?_ ?_
   ·refine jcw (jcs 36) trivial ?_;refine tail _ none rfl ?_;rfl
   ·intro q cap hq hcap;refine jcw (jcs 36) trivial ?_;refine tail _ (some (q,cap)) ⟨Nat.zero_le _,hcap⟩ ?_;rfl
  intro s hs
  refine loopV (fun y:Nat×Option (Nat×Nat)=>cpK [1,2,3,11] 161 y.2) (fun y=>y.1<=r.crs.length/\okB y.1 y.2) (fun y=>r.crs.length-y.1)
   (fun y=>cpS [(1,.p 1 0),(2,.p 2 0),(3,.p 3 0),(11,.v (vi y.1))] (cpX r) 161 r.cs 37 6 y.1 ((r.crs.take y.1).map Crt.cs).flatten y.2) (0,s) ⟨Nat.zero_le _,hs⟩ (by cases s <;> rfl) ?_
  rintro ⟨k,s⟩ ⟨hk,hs⟩;simp only at hk hs;by_cases hlt:k<r.crs.length
  ·obtain ⟨x,hx,-,hm⟩:=ja1 hlt;have hrow:((r.crs.take k).map Crt.cs).flatten++[Crt.cs x].flatten=((r.crs.take (k+1)).map Crt.cs).flatten:=by rw[jdn hx,List.map_append,List.flatten_append]; rfl
   have hw:((r.crs.take k).map Crt.cs).flatten.length=k*6:=by rw[jc4 (cs:=Crt.cs) (z:=6) (fun _=>rfl),List.length_take,Nat.min_eq_left hk]
   have hone:k+[Crt.cs x].length=k+1:=rfl;have hxf:=(h.crs.2 x hm).1;rcases s with _ | ⟨q,c⟩
   ·have hk0:k=0:=hs;subst hk0;simp only[cpS];refine runB (ai hx (ai ja9 (ai jaa ja2))) ?_;refine ji4 ?_;refine runB (ai hx (ai ja9 (ai jaa ja2))) ?_;refine jd4 ?_;unfold appR;refine runB (ai hx (ai ja9 (ai jaa ja2))) ?_;intro r' cap' hnm h1 h2;rw[show ([]:List V)++[Crt.cs x].flatten=((r.crs.take (0+1)).map Crt.cs).flatten from hrow];refine runB (ai ja9 (ai jaa ja2)) ?_;exact roundV (0+1,some (r',cap')) ⟨hlt,h1,h2⟩ zeh rfl
   ·obtain ⟨hc1,hc2⟩:k<=c/\c<=maxLen:=hs;simp only[cpS];obtain ⟨W,hW⟩:∃W,((r.crs.take k).map Crt.cs).flatten=W:=⟨_,rfl⟩;rw[hW] at hrow hw ⊢;refine runB (ai hx (ai ja9 (ai jaa ja2))) ?_;refine ji4 ?_;refine runB (ai hx (ai ja9 (ai jaa ja2))) ?_;refine jd4 ?_;unfold appR;refine runB (ai hw (ai ja9 (ai jaa ja2))) ?_;refine ⟨.inl trivial,?_⟩;intro r' cap' hnm h1 h2;rw[hrow,hone];rw[hone] at h1;refine runB (ai ja9 (ai jaa ja2)) ?_;exact roundV (k+1,some (r',cap')) ⟨hlt,h1,h2⟩ zeh rfl
  have hk2:k=r.crs.length:=om
  subst hk2;rw[List.take_length];rcases s with _ | x
  ·simp only[cpS];exact z5
  ·simp only[cpS];refine runW (ai jfc (ai ja9 (ai jaa ja2))) ?_;exact ⟨_,_,jbv rfl,.refl _,.inr ⟨161,_,x.1,rfl,rfl,some x,hs,rfl,rfl⟩⟩
theorem layF_congr {g p:Nat->Nat} {v w:Nat->Int} {n:Nat} (h:∀j,j<n->v (g j)=w (g j)) (b:List Int):∀k:Nat,k<=n->layF g p v k b=layF g p w k b
 | 0,_=>rfl
 | k+1,hk=>by rw[jhq,jhq,layF_congr h b k om,h k om]
def inK (a:List Int) (k:Nat):List Int:=layF id id (jg8 a) k a
theorem inK_succ (a:List Int) (k:Nat):inK a (k+1)=(inK a k).set k (jg8 a k):=jhq _ _ _ _ _
theorem inK_len (a:List Int) (k:Nat):(inK a k).length=a.length:=jhu _ _ _ _ _
theorem inK_at {a:List Int} {k:Nat} (h:k<a.length):atU (inK a k) k=atU a k:=by
 unfold atU;rw[List.getD_eq_getElem?_getD,List.getD_eq_getElem?_getD];have:=(jn9 id (jg8 a) a h k).2 (fun j hj=>by show j≠k; omega);unfold inK;rw[this]
theorem inK_all {a:List Int} (ha:a.length=25) {i:Nat} (h:i<25):atU (inK a 25) i=jg8 a i:=by
 unfold atU;rw[List.getD_eq_getElem?_getD];have:=(jn9 id (jg8 a) a (i:=i) om 25).1 ⟨i,h,rfl⟩;unfold inK;rw[this];rfl
def bT (W:List Int) (k:Nat):List Int:=layF tr5 posF (fun i=>rotU (atU W i) (atU rotL i)) k jav
theorem bT_succ (W:List Int) (k:Nat):bT W (k+1)=(bT W k).set (posF (tr5 k)) (rotU (atU W (tr5 k)) (atU rotL (tr5 k))):=jhq _ _ _ _ _
theorem bT_len (W:List Int) (k:Nat):(bT W k).length=25:=jhu _ _ _ _ _
theorem tr5_lt {j:Nat} (h:j<25):tr5 j<25:=by unfold tr5; omega
theorem tr5_xy {x y:Nat} (hy:y<5):tr5 (5*x+y)=x+5*y:=by unfold tr5; omega
theorem bT_all {a:List Int} (ha:a.length=25):bT (inK a 25) 25=bF a:=by
 have h1:bT (inK a 25) 25=layF tr5 posF (fun i=>rotU (jg8 a i) (atU rotL i)) 25 jav:=layF_congr (fun j hj=>by simp only[inK_all ha (tr5_lt hj)]) _ 25 (Nat.le_refl _);rw[h1];exact bF_tr _
def oT (B w:List Int) (k:Nat):List Int:=layF tr5 id (chiF B) k w
theorem oT_succ (B w:List Int) (k:Nat):oT B w (k+1)=(oT B w k).set (tr5 k) (chiF B (tr5 k)):=jhq _ _ _ _ _
theorem oT_len (B w:List Int) (k:Nat):(oT B w k).length=w.length:=jhu _ _ _ _ _
theorem oT_all (B:List Int) {w:List Int} (hw:w.length=25):oT B w 25=outF B:=outF_tr _ w hw
set_option maxHeartbeats 16000000 in
theorem den_roundR (a:List Int) (c:Int) (ha:a.length=25):Den prog T 141 [.agg (wds a),vu c,.agg (nus rotL)] (.agg (wds (jez a c))):=by
 have ta:=tk25 ha;refine ja0 call141 func141 129 ?_;refine runW ta ?_
 refine loop ⟨[1,3,5,6,7,8],[3,5,6,7],[],[]⟩ (fun k:Nat=>k<=25) (fun k=>25-k)
  (fun k=>⟨129,[(1,.v (vu c)),(3,.p 3 0),(5,.p 5 0),(6,.p 6 0),(7,.p 7 0),(8,.v (vi k))],[(3,.var (wds a)),(5,.var (nus rotL)),(6,.var (wds jav)),(7,.var (wds (jbu a k)))],[]⟩) 0 (Nat.zero_le _) ?_
 intro k hk;by_cases hlt:k<25
 ·have hs:=jmn a k;have m5:((k:Nat):Int).tmod 5=((k % 5:Nat):Int):=jcp k 5;have d1:=jbw (l:=a) (k:=k) om;have d2:=jbw (l:=jbu a k) (k:=k % 5) om
  have s1:(wds (jbu a k)).take (k % 5)++[vu (bitF .xor .u64 (atU (jbu a k) (k % 5)) (atU a k))]++(wds (jbu a k)).drop (k % 5+1)=wds (jbu a (k+1)):=by
   rw[jod];exact jgr om _
  refine runW (ai m5 (ai d1 (ai d2 s1))) ?_;exact zx
 have hk:k=25:=om
 subst hk;have hw:∀i,jg8 a i=xorU (xorU (atU a i) (atU (jbu a 25) ((i+4) % 5))) (rotU (atU (jbu a 25) ((i+1) % 5)) 1):=fun i=>rfl;have hSl:=jmn a 25;obtain ⟨S,hS⟩:∃S,jbu a 25=S:=⟨_,rfl⟩;simp only[hS] at hw hSl ⊢;refine run ?_
 refine loop ⟨[1,3,5,6,7,9],[3,5,6,7],[],[]⟩ (fun k:Nat=>k<=25) (fun k=>25-k)
  (fun k=>⟨129,[(1,.v (vu c)),(3,.p 3 0),(5,.p 5 0),(6,.p 6 0),(7,.p 7 0),(9,.v (vi k))],[(3,.var (wds (inK a k))),(5,.var (nus rotL)),(6,.var (wds jav)),(7,.var (wds S))],[]⟩) 0 (Nat.zero_le _) ?_
 intro k hk;by_cases hlt:k<25
 ·have hil:(inK a k).length=25:=(inK_len a k).trans ha;have f2:((k:Int)+4).tmod 5=(((k+4) % 5:Nat):Int):=jcp (k+4) 5;have f3:((k:Int)+1).tmod 5=(((k+1) % 5:Nat):Int):=jcp (k+1) 5;have d1:=jbw (l:=inK a k) (k:=k) om;rw[inK_at om] at d1;have d2:=jbw (l:=S) (k:=(k+4) % 5) om;have d3:=jbw (l:=S) (k:=(k+1) % 5) om
  have s1:(wds (inK a k)).take k++[vu (bitF .xor .u64 (bitF .xor .u64 (atU a k) (atU S ((k+4) % 5))) (rotU (atU S ((k+1) % 5)) 1))]++(wds (inK a k)).drop (k+1)=wds (inK a (k+1)):=by
   rw[inK_succ,hw];exact jgr om _
  refine rcW (ai f2 (ai f3 (ai d1 (ai d2 d3)))) (den_rotate (atU S ((k+1) % 5)) 1 dc dc) ?_;refine runW s1 ?_;exact zx
 have hk:k=25:=om
 subst hk;have hWl:(inK a 25).length=25:=(inK_len a 25).trans ha;have hBW:=bT_all ha;have hBl:=bF_len a;have hRe:jez a c=(outF (bF a)).set 0 (bitF .xor .u64 (atU (outF (bF a)) 0) c):=rfl;have hRl:=jog a c;obtain ⟨W,hW⟩:∃W,inK a 25=W:=⟨_,rfl⟩;obtain ⟨B,hB⟩:∃B,bF a=B:=⟨_,rfl⟩;simp only[hW,hB] at hWl hBW hBl hRe ⊢;refine run ?_
 refine loop ⟨[1,3,5,6,10,11],[3,5,6,10],[],[]⟩ (fun x:Nat=>x<=5) (fun x=>5-x)
  (fun x=>⟨129,[(1,.v (vu c)),(3,.p 3 0),(5,.p 5 0),(6,.p 6 0),(10,.p 10 0),(11,.v (vi x))],[(3,.var (wds W)),(5,.var (nus rotL)),(6,.var (wds jav)),(10,.var (wds (bT W (5*x))))],[]⟩) 0 (Nat.zero_le _) ?_
 intro x hx;by_cases hxlt:x<5
 ·refine run ?_
  refine loop ⟨[1,3,5,6,10,11,12],[3,5,6,10],[],[]⟩ (fun y:Nat=>y<=5) (fun y=>5-y)
   (fun y=>⟨129,[(1,.v (vu c)),(3,.p 3 0),(5,.p 5 0),(6,.p 6 0),(10,.p 10 0),(11,.v (vi x)),(12,.v (vi y))],[(3,.var (wds W)),(5,.var (nus rotL)),(6,.var (wds jav)),(10,.var (wds (bT W (5*x+y))))],[]⟩) 0 (Nat.zero_le _) ?_
  intro y hy;by_cases hylt:y<5
  ·have hBk:=bT_len W (5*x+y);have hj:=posF_lt (x+5*y) om;have f1:(x:Int)+5*(y:Int)=((x+5*y:Nat):Int):=om
   have f4:(2*(x:Int)+3*(y:Int)).tmod 5=(((2*x+3*y) % 5:Nat):Int):=jcp (2*x+3*y) 5
   have f5:(y:Int)+5*(((2*x+3*y) % 5:Nat):Int)=((posF (x+5*y):Nat):Int):=by
    have h1:(x+5*y) / 5=y:=om
    have h2:(x+5*y) % 5=x:=om
    unfold posF;rw[h1,h2];omega
   have d1:=jbw (l:=W) (k:=x+5*y) om;have d4:=nus_drop (l:=rotL) (k:=x+5*y) (by show _<25; omega);have hr:=rot_in (x+5*y) om
   have s1:(wds (bT W (5*x+y))).take (posF (x+5*y))++[vu (rotU (atU W (x+5*y)) (atU rotL (x+5*y)))]++(wds (bT W (5*x+y))).drop (posF (x+5*y)+1)=wds (bT W (5*x+y+1)):=by
    rw[bT_succ,tr5_xy hylt];exact jgr om _
   refine rcW (ai f1 (ai f4 (ai f5 (ai d1 d4)))) (den_rotate _ _ hr.1 hr.2) ?_;refine runW s1 ?_;exact round (y+1) om om
  ·have hy5:y=5:=om
   subst hy5;refine run ?_;exact round (x+1) om om
 have hx5:x=5:=om
 subst hx5;have hBe:bT W (5*5)=B:=hBW;simp only[hBe];refine run ?_
 refine loop ⟨[1,3,6,10,13],[3,6,10],[],[]⟩ (fun x:Nat=>x<=5) (fun x=>5-x)
  (fun x=>⟨129,[(1,.v (vu c)),(3,.p 3 0),(6,.p 6 0),(10,.p 10 0),(13,.v (vi x))],[(3,.var (wds (oT B W (5*x)))),(6,.var (wds jav)),(10,.var (wds B))],[]⟩) 0 (Nat.zero_le _) ?_
 intro x hx;by_cases hxlt:x<5
 ·refine run ?_
  refine loop ⟨[1,3,6,10,13,14],[3,6,10],[],[]⟩ (fun y:Nat=>y<=5) (fun y=>5-y)
   (fun y=>⟨129,[(1,.v (vu c)),(3,.p 3 0),(6,.p 6 0),(10,.p 10 0),(13,.v (vi x)),(14,.v (vi y))],[(3,.var (wds (oT B W (5*x+y)))),(6,.var (wds jav)),(10,.var (wds B))],[]⟩) 0 (Nat.zero_le _) ?_
  intro y hy;by_cases hylt:y<5
  ·have hO:(oT B W (5*x+y)).length=25:=(oT_len B W (5*x+y)).trans hWl;have f1:(x:Int)+5*(y:Int)=((x+5*y:Nat):Int):=om
   have f2:((x:Int)+1).tmod 5=(((x+1) % 5:Nat):Int):=jcp (x+1) 5;have f3:((x:Int)+2).tmod 5=(((x+2) % 5:Nat):Int):=jcp (x+2) 5;have f4:(((x+1) % 5:Nat):Int)+5*(y:Int)=(((x+1) % 5+5*y:Nat):Int):=om
   have f5:(((x+2) % 5:Nat):Int)+5*(y:Int)=(((x+2) % 5+5*y:Nat):Int):=om
   have d1:=jbw (l:=B) (k:=x+5*y) om;have d2:=jbw (l:=B) (k:=(x+1) % 5+5*y) om;have d3:=jbw (l:=B) (k:=(x+2) % 5+5*y) om
   have s1:(wds (oT B W (5*x+y))).take (x+5*y)++[vu (bitF .xor .u64 (atU B (x+5*y)) (bitF .and .u64 (notF .u64 (atU B ((x+1) % 5+5*y))) (atU B ((x+2) % 5+5*y))))]++(wds (oT B W (5*x+y))).drop (x+5*y+1)=wds (oT B W (5*x+y+1)):=by
    have h1:(x+5*y) / 5=y:=om
    have h2:(x+5*y) % 5=x:=om
    rw[oT_succ,tr5_xy hylt];unfold chiF;rw[h1,h2];exact jgr om _
   refine runW (ai f1 (ai f2 (ai f3 (ai f4 (ai f5 (ai d1 (ai d2 (ai d3 s1)))))))) ?_;exact round (y+1) om om
  ·have hy5:y=5:=om
   subst hy5;refine run ?_;exact round (x+1) om om
 have hx5:x=5:=om
 subst hx5;have hOe:oT B W (5*5)=outF B:=oT_all B hWl;have hOl:=outF_len B;obtain ⟨O,hO⟩:∃O,outF B=O:=⟨_,rfl⟩;simp only[hOe,hO] at hOl hRe ⊢;have e0:=ld_word (l:=O) om;have e1:=wds_set0 (l:=O) om (bitF .xor .u64 (atU O 0) c);rw[<- hRe] at e1;obtain ⟨R,hR⟩:∃R,jez a c=R:=⟨_,rfl⟩;simp only[hR] at hRl e1 ⊢;refine runW (ai e0 (ai e1 (ai (tk25 hRl) (ai hRl zdrop)))) ?_;refine finCW (P:=prog) (x:=6) (t:=140) (j:=6) (cs:=wds R) (nm:=none) (kk:=none) ?_ ?_ ?_
 ·rfl
 ·rfl
 ·rw[List.length_map]; exact hRl
set_option maxHeartbeats 4000000 in
theorem den_PermuteR (a:List Int) (ha:a.length=25):Den prog T 87 [.agg (wds a)] (.agg (wds (jfq a))):=by
 have tr:jb9 25 (nus rotL)=some (nus rotL):=rfl;have hrl:rotL.length=25:=rfl;have hcl:conL.length=24:=rfl;refine ja0 call87 func87 19 ?_;refine rc den_constantsR ?_;refine rc den_rotationsR ?_;refine runW (ai hrl hcl) ?_
 refine loop ⟨[1,2,3,4,5],[1,2,3,4],[],[]⟩ (fun k:Nat=>k<=24) (fun k=>24-k)
  (fun k=>⟨19,[(1,.p 1 0),(2,.p 2 0),(3,.p 3 0),(4,.p 4 0),(5,.v (vi k))],[(1,.var (wds (pK a k))),(2,.var (wds jav)),(3,.var (wds conL)),(4,.var (nus rotL))],[]⟩) 0 (Nat.zero_le _) ?_
 intro k hk;have hl:=pK_len ha k;by_cases hlt:k<24
 ·have hl2:=pK_len ha (k+1);have hc:=jbw (l:=conL) (k:=k) hlt;have hR:=den_roundR (T:=T) (pK a k) (atU conL k) hl;exact zce
 ·have hk:k=24:=om
  subst hk;simp only[pK_all] at hl ⊢;refine runW (ai (tk25 hl) (ai hl zdrop)) ?_;refine finCW (P:=prog) (x:=2) (t:=140) (j:=2) (cs:=wds (jfq a)) (nm:=none) (kk:=none) ?_ ?_ ?_
  ·rfl
  ·rfl
  ·rw[List.length_map]; exact hl
def fz (d:Str) (j:Nat):Str:=d++6::List.replicate j 0
theorem jj3 (d:Str) (j:Nat):(fz d j).length=d.length+1+j:=by unfold fz; rw[List.length_append,List.length_cons,List.length_replicate]; omega
theorem fz_succ (d:Str) (j:Nat):fz d (j+1)=fz d j++[0]:=by
 unfold fz;rw[List.append_assoc,List.cons_append,List.replicate_succ']
theorem bcs_app (a b:Str):jal a++jal b=jal (a++b):=by unfold jal; rw[List.map_append]
theorem mark_bcs {l:Str} {x:UInt8} (h:1<=l.length) (hx:l[l.length-1]? = some x):(jal l).take (l.length-1)++[vb8 (bitF .or .u8 (x.toNat:Int) 128)]++(jal l).drop (l.length-1+1)=jal (jdc l):=by
 rw[<- orB_val]
 have h1:jdc l=l.set (l.length-1) (orB x):=by
  unfold jdc;simp only[List.getD_eq_getElem?_getD,hx];rfl
 rw[h1];exact bcs_set om _
theorem mark_len (l:Str):(jdc l).length=l.length:=by unfold jdc; rw[List.length_set]
theorem full_len (d:Str):(jen d).length=136*(d.length / 136+1):=by
 have h:jen d=jdc (fz d (fillN d.length)):=rfl;rw[h,mark_len,jj3];unfold fillN;omega
theorem bys_frz {t id r n cap:Nat} {l:Str} {st:St} (h1:Ab.look t st.t=some (.v (.val (.slice (some ⟨r,0,none⟩) n cap)))) (hf:jbo r st.h=some id) (h2:Ab.look id st.h=some (.var (jal l) (some r) (some (5,1,cap)))) (hn:n=l.length) (h3:n<=cap):
  frzt1 t st= { st with t:=(t,.v (bys l))::st.t,h:=frz1 id (seth id (.var (jal l)) st.h),o:=remo t st.o } := by
 subst hn;rw[frzt1_r h1 hf h2 h3 (by rw[jig]; omega)];unfold jal;rw[chunk_one]
def sumQ (d:Str) (j r cap:Nat):St:=if j=0 then ⟨83,[(3,.v (.val (.slice (some ⟨r,0,none⟩) (fz d j).length cap)))],[(12,.var (jal (fz d j)) (some r) (some (5,1,cap)))],[]⟩ else
 ⟨83,[(3,.v (.val (.slice (some ⟨r,0,none⟩) (fz d j).length cap)))],[(19,.var (jal (fz d j)) (some r) (some (5,1,cap)))],[]⟩
def sumP (j:Nat):Kp:=if j=0 then ⟨[3],[12],[],[]⟩ else ⟨[3],[19],[],[]⟩
theorem sumQ_0 (d:Str) (r cap:Nat):sumQ d 0 r cap=⟨83,[(3,.v (.val (.slice (some ⟨r,0,none⟩) (fz d 0).length cap)))],[(12,.var (jal (fz d 0)) (some r) (some (5,1,cap)))],[]⟩:=rfl
theorem sumQ_s (d:Str) {j:Nat} (h:j≠0) (r cap:Nat):sumQ d j r cap=⟨83,[(3,.v (.val (.slice (some ⟨r,0,none⟩) (fz d j).length cap)))],[(19,.var (jal (fz d j)) (some r) (some (5,1,cap)))],[]⟩:=if_neg h
theorem sumP_s {j:Nat} (h:j≠0):sumP j=⟨[3],[19],[],[]⟩:=if_neg h
set_option maxHeartbeats 16000000 in
theorem den_SumR (d:Str) (hd:d.length<=1048576):Den prog T 34 [.str d] (.str (sumD d)):=by
 have e1:jal d++[[V.val (.int .u8 6)]].flatten=jal (fz d 0):=bcs_app d [6];have e2:d.length+[[V.val (.int .u8 6)]].length=(fz d 0).length:=by rw[jj3]; rfl
 have s1:∀j,jal (fz d j)++[[V.val (.int .u8 0)]].flatten=jal (fz d (j+1)):=fun j=>by rw[fz_succ]; exact bcs_app (fz d j) [0]
 have s2:∀j,(fz d j).length+[[V.val (.int .u8 0)]].length=(fz d (j+1)).length:=fun j=>by rw[jj3,jj3]; rfl
 have hbd:(jal d).length=d.length:=jig d;have hP:jen d=jdc (fz d (fillN d.length)):=rfl;have hPl:=full_len d;have hsum:=sumD_full d;obtain ⟨N,hN⟩:∃N,fillN d.length=N:=⟨_,rfl⟩;have hNd:N=135-d.length % 136:=hN.symm;rw[hN] at hP;have hm1:(fz d N).length % 136=0:=by rw[jj3]; omega
 have hm2:∀j,j<N->(fz d j).length % 136≠0:=fun j hj=>by rw[jj3]; omega
 have hfl:∀j,(fz d j).length=d.length+1+j:=jj3 d;refine ja0 call34 func34 83 ?_;refine run ?_;unfold bytK;intro r cap hnm h1 h2;refine runB hbd ?_;refine jd4 ?_;unfold appR;refine runB hbd ?_;refine ⟨.inr trivial,?_⟩;intro r' cap' hnm' g1 g2;rw[e1,e2];rw[e2] at g1;refine runB trivial ?_;refine loopV (fun y:Nat×Nat×Nat=>sumP y.1) (fun y=>y.1<=N/\(fz d y.1).length<=y.2.2/\y.2.2<=maxLen) (fun y=>N-y.1) (fun y=>sumQ d y.1 y.2.1 y.2.2) (0,r',cap') ⟨Nat.zero_le _,g1,g2⟩ rfl ?_;rintro ⟨j,q,c⟩ ⟨hj,hc1,hc2⟩;simp only at hj hc1 hc2;have hjl:=hfl j;have hbl:(jal (fz d j)).length=(fz d j).length:=jig _;have m1:(((fz d j).length:Nat):Int).tmod 136=(((fz d j).length % 136:Nat):Int):=jcp _ 136;have t1:=s1 j;have t2:=s2 j;by_cases hlt:j<N
 ·have hne:¬(((fz d j).length % 136:Nat):Int)=0:=by have:=hm2 j hlt; omega
  have hnx:(fz d (j+1)).length=d.length+1+(j+1):=hfl (j+1);by_cases h0:j=0
  ·subst h0;simp only[sumQ_0];refine runB (ai m1 (eq_false hne)) ?_;refine jd4 ?_;unfold appR;refine runB hbl ?_;refine ⟨.inr trivial,?_⟩;intro q' c' hnm2 g3 g4;rw[t1,t2];rw[t2] at g3;refine runB trivial ?_;refine roundV (0+1,q',c') ⟨hlt,g3,g4⟩ zeh ?_;simp only[sumQ_s d (Nat.succ_ne_zero 0),sumP_s (Nat.succ_ne_zero 0)];rfl
  ·simp only[sumQ_s d h0];refine runB (ai m1 (eq_false hne)) ?_;refine jd4 ?_;unfold appR;refine runB hbl ?_;refine ⟨.inl trivial,?_⟩;intro q' c' hnm2 g3 g4;rw[t1,t2];rw[t2] at g3;refine runB trivial ?_;refine roundV (j+1,q',c') ⟨hlt,g3,g4⟩ zeh ?_;simp only[sumQ_s d (Nat.succ_ne_zero j),sumP_s (Nat.succ_ne_zero j)];rfl
 have hjN:j=N:=om
 subst hjN;have hl1:1<=(fz d j).length:=om
 obtain ⟨x,hx,-,-⟩:=ja1 (l:=fz d j) (k:=(fz d j).length-1) om;have hdr:=bcs_drop hx;have hst:=mark_bcs hl1 hx;have hml:(fz d j).length=(jdc (fz d j)).length:=(mark_len _).symm;rw[<- hP] at hst hml;have hz:(((fz d j).length % 136:Nat):Int)=0:=by rw[hm1]; rfl
 clear t1 t2 s1 s2 hP hfl hm2 hm1 hx;obtain ⟨l,hl⟩:∃l,fz d j=l:=⟨_,rfl⟩;obtain ⟨P,hPP⟩:∃P,jen d=P:=⟨_,rfl⟩;rw[hPP] at hst hml hPl hsum;apply aw_meets ⟨[3],[],[],[]⟩ (fun _:Unit=>True) (fun _=>⟨83,[(3,.v (bys P))],[],[]⟩)
 ·intro tail;by_cases h0:j=0
  ·have hQ:sumQ d j q c=⟨83,[(3,.v (.val (.slice (some ⟨q,0,none⟩) l.length c)))],[(12,.var (jal l) (some q) (some (5,1,c)))],[]⟩:=by subst h0; rw[<- hl]; rfl
   rw[hl] at hst hml hdr hz m1 hl1 hbl hc1 hjl;simp only[hQ];refine jcw (jcs 5) (ai m1 (ai hz (ai hdr (ai hst hbl)))) ?_;refine aw_frzt 3 ?_;rw[bys_frz (id:=12) (r:=q) (n:=l.length) (cap:=c) (l:=P) rfl (by simp[jbo,jcb,Blk.nm,nmOf,jah]) rfl hml hc1];refine tail _ () trivial ?_;rfl
  ·have hQ:sumQ d j q c=⟨83,[(3,.v (.val (.slice (some ⟨q,0,none⟩) l.length c)))],[(19,.var (jal l) (some q) (some (5,1,c)))],[]⟩:=by rw[sumQ_s d h0,hl]
   rw[hl] at hst hml hdr hz m1 hl1 hbl hc1 hjl;simp only[hQ];refine jcw (jcs 5) (ai m1 (ai hz (ai hdr (ai hst hbl)))) ?_;refine aw_frzt 3 ?_;rw[bys_frz (id:=19) (r:=q) (n:=l.length) (cap:=c) (l:=P) rfl (by simp[jbo,jcb,Blk.nm,nmOf,jah]) rfl hml hc1];refine tail _ () trivial ?_;rfl
 intro _ _;clear hst hml hdr hz m1 hl1 hbl hc1 hc2 hjl hl hlt hj;obtain ⟨n,hn⟩:∃n,d.length / 136+1=n:=⟨_,rfl⟩;rw[hn] at hPl hsum;have hPb:P.length<=1048800:=om
 refine run ?_
 refine loop ⟨[3,4,5],[4],[],[]⟩ (fun y:Nat×List Int=>y.1<=n/\y.2.length=25/\jgh (n-y.1) y.2 (P.drop (136*y.1))=jgh n jav P) (fun y=>n-y.1)
  (fun y=>⟨83,[(3,.v (bys P)),(4,.p 4 0),(5,.v (vi ((136*y.1:Nat):Int)))],[(4,.var (wds y.2))],[]⟩) (0,jav) ⟨Nat.zero_le _,rfl,rfl⟩ ?_
 rintro ⟨k,s⟩ ⟨hk,hs,hb⟩;simp only at hk hs hb;have hPm:(P.map Cby).length=P.length:=List.length_map _;by_cases hlt:k<n
 ·have hlt2:(((136*k:Nat):Int)<(P.length:Int))=True:=eq_true om;obtain ⟨Q,hQ⟩:∃Q,(P.drop (136*k)).take 136=Q:=⟨_,rfl⟩;have hQl:Q.length=136:=by rw[<- hQ,List.length_take,List.length_drop]; omega
  have hQg:∀i,i<136->Q[i]? = P[136*k+i]? := fun i hi=>by rw[<- hQ,List.getElem?_take_of_lt hi,List.getElem?_drop]
  have hnk:n-k=(n-(k+1))+1:=om
  rw[hnk,jgh,hQ,List.drop_drop,show 136*k+136=136*(k+1) by omega] at hb;have hBl:=jkq s Q hs;have hfin:jfq (eatF s Q 136)=jbm s Q:=by rw[jbm]
  refine runW (ai hPm hlt2) ?_
  refine loop ⟨[3,4,5,6],[4],[],[]⟩ (fun i:Nat=>i<=136) (fun i=>136-i)
   (fun i=>⟨83,[(3,.v (bys P)),(4,.p 4 0),(5,.v (vi ((136*k:Nat):Int))),(6,.v (vi i))],[(4,.var (wds (eatF s Q i)))],[]⟩) 0 (Nat.zero_le _) ?_
  intro i hi;have hl:(eatF s Q i).length=25:=(eatF_len s Q i).trans hs;by_cases hilt:i<136
  ·obtain ⟨b,hb1,-,-⟩:=ja1 (l:=Q) (k:=i) om;have hg:Q.getD i 0=b:=by rw[List.getD_eq_getElem?_getD,hb1]; rfl
   have hx:P[136*k+i]? = some b:=by rw[<- hQg i hilt,hb1]
   have q0:((136*k:Nat):Int)+(i:Int)=((136*k+i:Nat):Int):=om
   have q1:((i:Nat):Int).tdiv 8=((i / 8:Nat):Int):=jht i 8;have q2:((i:Nat):Int).tmod 8=((i % 8:Nat):Int):=jcp i 8;have d1:=jbw (l:=eatF s Q i) (k:=i / 8) om
   have s1:(wds (eatF s Q i)).take (i / 8)++[vu (bitF .xor .u64 (atU (eatF s Q i) (i / 8)) (shF true .u64 (b.toNat:Int) (8*((i % 8:Nat):Int))))]++(wds (eatF s Q i)).drop (i / 8+1)=wds (eatF s Q (i+1)):=by
    rw[jpw,hg];exact jgr om _
   refine runW (ai q0 (ai hx (ai q1 (ai q2 (ai d1 (ai s1 (byte64 b))))))) ?_;exact round (i+1) hilt om
  ·have hi:i=136:=om
   subst hi;have hPr:=den_PermuteR (T:=T) (eatF s Q 136) hl;rw[hfin] at hPr;have q0:((136*k:Nat):Int)+136=((136*(k+1):Nat):Int):=om
   refine rcW (tk25 hl) hPr ?_;refine runW (ai hBl (ai (jo9 hl) q0)) ?_;exact round (k+1,jbm s Q) ⟨hlt,hBl,hb⟩ zeh
 have hkn:k=n:=om
 subst hkn;have hlt2:(((136*k:Nat):Int)<(P.length:Int))=False:=eq_false om;rw[Nat.sub_self,jgh] at hb;rw[<- hb] at hsum;rw[hsum];refine runW (ai hPm hlt2) ?_
 refine loop ⟨[4,7,8],[4],[7],[]⟩ (fun i:Nat=>i<=32) (fun i=>32-i)
  (fun i=>⟨83,[(4,.p 4 0),(7,.v (bys (digF s i))),(8,.v (vi i))],[(4,.var (wds s))],[(5,[7])]⟩) 0 (Nat.zero_le _) ?_
 intro i hi;by_cases hilt:i<32
 ·have q1:((i:Nat):Int).tdiv 8=((i / 8:Nat):Int):=jht i 8;have q2:((i:Nat):Int).tmod 8=((i % 8:Nat):Int):=jcp i 8;have d1:=jbw (l:=s) (k:=i / 8) om
  have hap:(digF s i).map Cby++[[vb8 (IntKind.u8.wrap (shF false .u64 (atU s (i / 8)) (8*((i % 8:Nat):Int))))]]=(digF s (i+1)).map Cby:=by
   rw[digF_succ,List.map_append,List.map_singleton];simp only[Cby,vb8,byte_back]
  have hdl:(digF s i).length=i:=by unfold digF; rw[List.length_map,List.length_range]
  refine runW (ai q1 (ai q2 (ai d1 hap))) ?_;exact round (i+1) hilt om
 ·have hi:i=32:=om
  subst hi;have hby:=byL_cs (digF s 32);rw[<- bys_flat] at hby;refine runW hby ?_;exact fin rfl
theorem ji6 (n a b:Int):Den prog T 32 [vi n,vi a,vi b] (vb (decide (a<=n/\n<=b))):=by
 refine ja0 call32 func32 15 ?_;by_cases h1:a<=n <;> by_cases h2:n<=b <;> (refine run ?_; refine fin (ja3 ?_); simp; try omega)
theorem jll (n:Int):Den prog T 32 [vi n,vi 1,vi 1073741824] (vb (idB n)):=ji6 n 1 1073741824
theorem den_wDay (n:Int):Den prog T 32 [vi n,vi 0,vi 1048575] (vb (dayG n)):=by
 have h:=ji6 (T:=T) n 0 1048575
 rwa [show decide (0<=n/\n<=1048575)=dayG n by unfold dayG; rw[Bool.decide_and]] at h
def txtH (c:Crt):Str:=xCert++decS c.num++jkt++decS c.prp++xDayS++decS c.day++xFiles
def txtJ (c:Crt) (j:Nat):Str:=(c.fls.take j).foldl (fun t f=>t++[32]++decS f) (txtH c)
theorem txtJ_s {c:Crt} {j:Nat} {f:Int} (h:c.fls[j]? = some f):txtJ c (j+1)=txtJ c j++[32]++decS f:=by
 unfold txtJ;rw[jdn h,List.foldl_append];rfl
theorem fold_fls:∀(l:List Int) (t:Str),l.foldl (fun t f=>t++[32]++decS f) t=t++flsT l
 | [],t=>by simp[flsT]
 | f::l,t=>by
  rw[List.foldl_cons,fold_fls l];simp[flsT]
theorem txtJ_end (c:Crt):txtJ c c.fls.length++[10]++c.bef=crtT c:=by
 unfold txtJ;rw[List.take_length,fold_fls];unfold crtT txtH;simp
theorem txtH_len {c:Crt} (h1:idB c.num=true) (h2:idB c.prp=true) (h3:dayG c.day=true):(txtH c).length<=100:=by
 have g1:=jfb (n:=c.num) (by have:=jef h1; omega);have g2:=jfb (n:=c.prp) (by have:=jef h2; omega);have g3:=jfb (n:=c.day) (by have:=jlm h3; omega);unfold txtH xCert jkt xDayS xFiles;exact zbz
theorem txtJ_len {c:Crt} (h0:(txtH c).length<=100):∀j:Nat,(∀f∈c.fls.take j,idB f=true)->(txtJ c j).length<=100+11*j
 | 0,_=>h0
 | j+1,hf=>by
  have ih:=txtJ_len h0 j fun f hm=>hf f (List.take_subset_take_left c.fls (Nat.le_succ j) hm);rcases Nat.lt_or_ge j c.fls.length with hlt | hge
  ·obtain ⟨f,hx,-,-⟩:=ja1 hlt;have hm:=hf f (mem_take hx (Nat.lt_succ_self j));have:=jfb (n:=f) (by have:=jef hm; omega);rw[txtJ_s hx];exact zbz
  ·have:txtJ c (j+1)=txtJ c j:=by unfold txtJ; rw[List.take_of_length_le om,List.take_of_length_le hge]
   rw[this];omega
set_option maxHeartbeats 8000000 in
theorem den_Digest14 (c:Crt) (hf:c.fls.length<=1048576) (hb:c.bef.length<=1048576):Den prog T 9 [.agg c.cs] (digV c):=by
 have no:∀ {b:Bool},b=false->(CrtOk c->b=true)->digV c= .tup [.str [],vi 1]:=fun h1 h2=>jfi fun h=>by rw[h2 h] at h1; cases h1
 refine ja0 call9 func9 97 ?_;refine rc (jll c.num) ?_;cases h1:idB c.num
 ·rw[no h1 fun h=>h.num];exact za
 refine rc (jll c.prp) ?_;cases h2:idB c.prp
 ·rw[no h2 fun h=>h.prp];exact za
 refine rc (den_wDay c.day) ?_;cases h3:dayG c.day
 ·rw[no h3 fun h=>h.day];exact za
 refine rc (ji6 c.fls.length 1 256) ?_;cases h4:decide (1<=(c.fls.length:Int)/\(c.fls.length:Int)<=256)
 ·rw[no h4 fun h=>decide_eq_true ⟨by have:=h.ne; omega,by have:=h.le; omega⟩];exact za
 by_cases h5:c.bef.length=32
 case neg=>
  rw[jfi fun h=>h5 h.bef];refine runW (eq_false h5) ?_;exact fin rfl
 have h4:=of_decide_eq_true h4;have hH:=txtH_len h1 h2 h3;have i1:=jef h1;have i2:=jef h2;have i3:=jlm h3;have g1:=jfb (n:=c.num) om;have g2:=jfb (n:=c.prp) om;have g3:=jfb (n:=c.day) om;have hHe:[99,101,114,116,105,102,105,99,97,116,101,32]++decS c.num++[32,112,114,111,112,111,115,97,108,32]++decS c.prp++[32,100,97,121,32]++decS c.day++[32,102,105,108,101,115]=txtJ c 0:=rfl;refine rcW h5 (jlh c.num om) ?_;refine rc (jlh c.prp om) ?_;refine rc (jlh c.day om) ?_;refine run ?_;refine jb6 ⟨[4,5,1],[1],[],[]⟩ (fun j:Nat=>j<=c.fls.length/\(∀f∈c.fls.take j,idB f=true)/\∀(i:Nat) x y,i+1<j->c.fls[i]? = some x->c.fls[i+1]? = some y->x<y) (fun j=>c.fls.length-j) (fun j=>[(4,.v (.str (txtJ c j))),(5,.v (vi j))]) 0 ⟨Nat.zero_le _,sm,fun i _ _ hi=>absurd hi (Nat.not_lt_zero _)⟩ ?_;rintro j ⟨hj,hall,hris⟩;have hjl:=txtJ_len hH j hall;by_cases hlt:j<c.fls.length
 ·obtain ⟨f,hx,-,hm⟩:=ja1 hlt;refine rcW hx (jll f) ?_;cases hi:idB f
  ·rw[no hi fun h=>List.all_eq_true.1 h.ids f hm];exact za
  have hi':=jef hi;have hall2:=jae (q:=fun f=>idB f=true) hall hx hi;have hds:=jfb (n:=f) om;have hnx:=txtJ_s hx;have hnl:=txtJ_len hH (j+1) hall2;obtain ⟨A,hA⟩:∃A,txtJ c j=A:=⟨_,rfl⟩;obtain ⟨B,hB⟩:∃B,txtJ c (j+1)=B:=⟨_,rfl⟩;rw[hA] at hjl hnx ⊢;by_cases h0:j=0
  ·subst h0;refine rcW hx (jlh f om) ?_;refine run ?_;refine round (0+1) ⟨hlt,hall2,fun i _ _ hi=>by omega⟩ om ?_;rw[hnx];rfl
  ·obtain ⟨g,hg,-,-⟩:=ja1 (l:=c.fls) (k:=j-1) om;have hpos:((0:Int)<(j:Int))=True:=eq_true om;by_cases hle:f<=g
   ·rw[jfi fun h=>by
     have:=(jfz c.fls).1 h.ris (j-1) g f hg (by rw[show j-1+1=j by omega]; exact hx)
     omega]
    refine runW (ai hpos (ai hx (ai hg (eq_true hle)))) ?_;exact fin rfl
   ·refine rcW (ai hpos (ai hx (ai hg (eq_false hle)))) (jlh f om) ?_;refine run ?_;refine round (j+1) ⟨hlt,hall2,fun i x y hi h1 h2=> ?_⟩ om ?_
    ·by_cases hij:i+1=j
     ·subst hij;rw[hx] at h2;cases h2;rw[show i+1-1=i by omega,h1] at hg;cases hg;omega
     ·exact hris i x y om h1 h2
    ·rw[hnx];rfl
 ·have hj2:j=c.fls.length:=om
  subst hj2;have hok:CrtOk c:=⟨h1,h2,h3,om,om,(jfz c.fls).2 fun i x y hx hy=>hris i x y (gsi.1 hy).1 hx hy,List.all_eq_true.2 fun f hf=>hall f (by rw[List.take_length]; exact hf),h5⟩;have hcl:=crtT_len hok;have he:=txtJ_end c;rw[digV_ok hok];obtain ⟨A,hA⟩:∃A,txtJ c c.fls.length=A:=⟨_,rfl⟩;rw[hA] at hjl he ⊢;refine rcW he (den_SumR (crtT c) om) ?_;exact za
theorem den_last14 (l:List Crt) (hl:l.length<=1048576):Den prog T 88 [crts l] (.str (befC l l.length)):=by
 have hby:=byL_zero 32;refine ja0 call88 func88 15 ?_;unfold befC jac;by_cases h0:l.length=0
 ·rw[if_pos h0];refine runW h0 ?_;intro r' hnm;have q1:(List.replicate 32 (vb8 0)).length=32:=rfl;have q2:List.take 32 (List.replicate 32 (vb8 0))=List.replicate 32 (vb8 0):=rfl;refine runW (ai q1 (ai q2 hby)) ?_;exact fin rfl
 ·rw[if_neg h0];obtain ⟨x,hx,-,-⟩:=ja1 (l:=l) (k:=l.length-1) om;rw[hx];have h0':¬((l.length:Nat):Int)=0:=om
  refine runW (ai (eq_false h0) (ai (eq_false h0') hx)) ?_;exact fin rfl
theorem befC_take {l:List Crt} {i:Nat} (h:i<=l.length):befC (l.take i) (l.take i).length=befC l i:=by
 have e:(l.take i).length=i:=by rw[List.length_take,Nat.min_eq_left h]
 rw[e];unfold befC jac;by_cases h0:i=0
 ·rw[if_pos h0,if_pos h0]
 ·rw[if_neg h0,if_neg h0,List.getElem?_take_of_lt om]
theorem den_right14 (l:List Crt) (i:Nat) (hl:l.length<=1048576/\∀c∈l,c.fls.length<=1048576/\c.bef.length<=1048576/\c.dig.length<=1048576) (hi:i<l.length):Den prog T 36 [crts l,vi i] (vb (jc0 l i)):=by
 have hl0:=hl.1;obtain ⟨c,hc,-,hm⟩:=ja1 hi;have hfc:=hl.2 c hm;have hD:=den_Digest14 (T:=T) c hfc.1 hfc.2.1;have hlk:jc0 l i=linkC (befC l i) i c:=by unfold jc0; rw[hc]
 have hL:=den_last14 (T:=T) (l.take i) ze8;rw[befC_take om] at hL;have htk:(l.map Crt.cs).take i=(l.take i).map Crt.cs:=(List.map_take ..).symm;rw[hlk];refine ja0 call36 func36 48 ?_;refine rcW hc hD ?_;unfold linkC digV digR;by_cases h2:c.num=(i:Int)+1
 ·cases h1:crtB c
  ·rw[if_neg dc];refine runW (ai hc (eq_true h2)) ?_;exact zr
  rw[if_pos rfl];cases h3:c.dig == sumD (crtT c)
  ·have h3':(sumD (crtT c) == c.dig)=false:=by rw[beq_eq_false_iff_ne] at h3 ⊢; exact fun e=>h3 e.symm
   refine runW (ai hc (ai (eq_true h2) h3')) ?_;exact zr
  ·have h3':(sumD (crtT c) == c.dig)=true:=by rw[beq_iff_eq] at h3 ⊢; exact h3.symm
   refine rcW (ai hc (ai (eq_true h2) (ai h3' htk))) hL ?_;refine runW (ai hc (ai (eq_true h2) h3')) ?_;exact zck
 ·refine runW (ai hc (eq_false h2)) ?_;exact zck
theorem joz (l:List Prp) (n:Int) (hl:l.length<=1048576):Den prog T 60 [prps l,vi n] (vi (jcm l n)):=by
 refine ja0 call60 func60 20 ?_;refine run ?_;refine ja7 ⟨[5,0,1],[],[],[]⟩ l.length (fun k=>∀o∈l.take k,jar n o=false) sm ?_;rintro k ⟨hk,hall⟩;by_cases hlt:k<l.length
 ·obtain ⟨x,hx,-,-⟩:=ja1 hlt;by_cases hxn:x.id=n
  ·refine runW hx ?_;exact fin (ja5 (jge (p:=jar n) hall hx (by simp[jar,hxn])))
  ·refine runW hx ?_;exact round (k+1) ⟨om,jae (q:=fun o:Prp=>jar n o=false) hall hx (by simp[jar,hxn])⟩ om
 ·refine run ?_;exact fin (ja5 (jgv (p:=jar n) hall hlt))
theorem den_has14 (l:List Int) (n:Int) (hl:l.length<=1048576):Den prog T 116 [ints l,vi n] (vb (hasI n l)):=by
 refine ja0 call116 func116 18 ?_;refine run ?_;refine ja7 ⟨[5,0,1],[],[],[]⟩ l.length (fun k=>∀x∈l.take k,decide (x=n)=false) sm ?_;rintro k ⟨hk,hall⟩;by_cases hlt:k<l.length
 ·obtain ⟨x,hx,-,hm⟩:=ja1 hlt;by_cases hxn:x=n
  ·have:hasI n l=true:=List.any_eq_true.2 ⟨x,hm,decide_eq_true hxn⟩;rw[this];exact ze
  ·refine runW hx ?_;exact round (k+1) ⟨om,jae (q:=fun x:Int=>decide (x=n)=false) hall hx (decide_eq_false hxn)⟩ om
 ·have:hasI n l=false:=List.any_eq_false.2 fun x hx=>by rw[jcq hall hlt x hx]; decide
  rw[this];exact za
theorem den_done14 (r:Rgs) (h:r.Fit) (n:Int):Den prog T 61 [.agg r.cs,vi n] (vb (jd0 r.crs n)):=by
 have hl:=h.crs.1;refine ja0 call61 func61 21 ?_;refine run ?_;refine ja7 ⟨[5,1,2],[2],[],[]⟩ r.crs.length (fun k=>∀x∈r.crs.take k,isCrtP n x=false) sm ?_;rintro k ⟨hk,hall⟩;by_cases hlt:k<r.crs.length
 ·obtain ⟨x,hx,-,hm⟩:=ja1 hlt;by_cases hxn:x.prp=n
  ·have:jd0 r.crs n=true:=List.any_eq_true.2 ⟨x,hm,decide_eq_true hxn⟩;rw[this];refine runW (ai hx hxn) ?_;exact fin rfl
  ·refine runW (ai hx (eq_false hxn)) ?_;exact round (k+1) ⟨om,jae (q:=fun x:Crt=>isCrtP n x=false) hall hx (decide_eq_false hxn)⟩ om
 ·have:jd0 r.crs n=false:=List.any_eq_false.2 fun x hx=>by rw[jcq hall hlt x hx]; decide
  rw[this];exact za
theorem jro (l:List Clk) (n d:Int) (hl:l.length<=1048576):Den prog T 114 [clks l,vi n,vi d] (vi (ix (jcl n d) l)):=by
 refine ja0 call114 func114 31 ?_;refine run ?_;refine ja7 ⟨[7,0,1,2],[],[],[]⟩ l.length (fun k=>∀o∈l.take k,jcl n d o=false) sm ?_;rintro k ⟨hk,hall⟩;by_cases hlt:k<l.length
 ·obtain ⟨x,hx,-,-⟩:=ja1 hlt;by_cases hxn:x.id=n
  ·refine rcW (ai hx hxn) (den_In04 x.frm x.til d) ?_;cases hin:inS x.frm x.til d
   ·refine runW hxn ?_;exact round (k+1) ⟨om,jae (q:=fun o:Clk=>jcl n d o=false) hall hx (by simp[jcl,hxn,hin])⟩ om
   ·refine runW hxn ?_;exact fin (ja5 (jge (p:=jcl n d) hall hx (by simp[jcl,hxn,hin])))
  ·refine runW (ai hx (eq_false hxn)) ?_;exact round (k+1) ⟨om,jae (q:=fun o:Clk=>jcl n d o=false) hall hx (by simp[jcl,hxn])⟩ om
 ·refine run ?_;exact fin (ja5 (jgv (p:=jcl n d) hall hlt))
theorem clkOn_ix (l:List Clk) (n d:Int):(jep l n d=false/\ix (jcl n d) l<0)\/(jep l n d=true/\¬ix (jcl n d) l<0):=by
 have h:=je5 (jcl n d) l;unfold jep;by_cases hi:ix (jcl n d) l<0
 ·left;rw[<- h];exact ⟨decide_eq_false om,hi⟩
 ·right;rw[<- h];exact ⟨decide_eq_true om,hi⟩
set_option maxHeartbeats 8000000 in
theorem den_clerks14 (l:List Clk) (hl:l.length<=1048576) (hn:∀c∈l,c.name.length<=1048576):Den prog T 44 [clks l] (vi (chk 32 l.length (jbs l)).2):=by
 refine ja0 call44 func44 61 ?_;by_cases h32:32<l.length
 ·rw[jdz h32];exact za
 refine run ?_;refine ja7 ⟨[3,0],[],[],[]⟩ l.length (fun k=>∀i,i<k->jbs l i=0) (fun i hi=>absurd hi (Nat.not_lt_zero i)) ?_;rintro k ⟨hk,hall⟩;by_cases hlt:k<l.length
 ·obtain ⟨c,hx,-,hm⟩:=ja1 hlt;have hcn:=hn c hm
  have hE:jbs l k=if idB c.id=false\/c.role<1\/3<c.role\/jaq c.frm c.til=false then 2 else if name c.name=false then 4 else if jj5 (jac l k) c=true then 5 else 0:=by
   unfold jbs;rw[hx]
  have bad:∀e:Int,jbs l k=e->e≠0->(chk 32 l.length (jbs l)).2=e:=fun e h1 h2=>by rw[jeb h32 hlt hall (by rw[h1]; exact h2)]; exact h1
  refine rcW hx (jll c.id) ?_;cases h1:idB c.id
  ·rw[bad 2 (by rw[hE,if_pos (.inl h1)]) dc];exact za
  refine rcW hx (ji6 c.role 1 3) ?_;cases h2:decide (1<=c.role/\c.role<=3)
  ·have h2:=of_decide_eq_false h2;rw[bad 2 (by rw[hE,if_pos (by by_cases g:c.role<1; exact .inr (.inl g); exact .inr (.inr (.inl om)))]) dc];exact za
  have h2:=of_decide_eq_true h2;refine rcW hx (jkn c.frm c.til) ?_;cases h3:jaq c.frm c.til
  ·rw[bad 2 (by rw[hE,if_pos (.inr (.inr (.inr h3)))]) dc];exact za
  have hE2:jbs l k=if name c.name=false then 4 else if jj5 (jac l k) c=true then 5 else 0:=by
   rw[hE,if_neg];rintro (e | e | e | e)
   ·rw[h1] at e; cases e
   ·omega
   ·omega
   ·rw[h3] at e; cases e
  refine rcW hx (jhm c.name hcn) ?_;cases h4:name c.name
  ·rw[bad 4 (by rw[hE2,if_pos h4]) dc];exact za
  rw[if_neg (by rw[h4]; decide)] at hE2
  have next:jbs l k=0->∀i,i<k+1->jbs l i=0:=fun h0 i hi=>by
   by_cases e:i=k
   ·rw[e]; exact h0
   ·exact zb2
  by_cases h0:k=0
  ·have hz:jbs l k=0:=by rw[hE2]; unfold jac; rw[if_pos h0]; rfl
   have nx:=next hz;subst h0;refine runW hx ?_;exact round (0+1) ⟨hlt,nx⟩ om
  ·obtain ⟨q,hq,-,-⟩:=ja1 (l:=l) (k:=k-1) om;have hpos:((0:Int)<(k:Int))=True:=eq_true om;have hE3:jbs l k=if decide (c.id<=q.id)=true then 5 else 0:=by rw[hE2]; unfold jac; rw[if_neg h0,hq]; rfl
   by_cases hle:c.id<=q.id
   ·rw[bad 5 (by rw[hE3,if_pos (decide_eq_true hle)]) dc];refine runW (ai hpos (ai hx (ai hq (eq_true hle)))) ?_;exact fin rfl
   ·refine runW (ai hpos (ai hx (ai hq (eq_false hle)))) ?_;exact round (k+1) ⟨hlt,next (by rw[hE3,decide_eq_false hle]; rfl)⟩ om
 ·rw[jds h32 fun i hi=>hall i om];exact za
set_option maxHeartbeats 16000000 in
theorem den_proposal14 (r:Rgs) (h:r.Fit) (i:Nat) (hi:i<r.pps.length):Den prog T 45 [.agg r.cs,vi i] (vi (jc9 r i)):=by
 have hpl:=h.pps.1;have hfl:=h.fls.1;have hcl:=h.cks.1;obtain ⟨p,hx,-,hm⟩:=ja1 hi;have hpf:=h.pps.2 p hm;have hE0:jc9 r i=prpE r (r.pps.take i) (jac r.pps i) p:=by unfold jc9; rw[hx]
 rw[hE0];obtain ⟨E,hEE⟩:∃E,prpE r (r.pps.take i) (jac r.pps i) p=E:=⟨_,rfl⟩;rw[hEE];unfold prpE at hEE
 have hwd:∀b:Bool,wdrB p=b->((p.day<=p.wdr/\p.wdr<=1048575)/\b=true)\/(¬(p.day<=p.wdr/\p.wdr<=1048575)/\((p.wdr=1048576/\b=true)\/(¬p.wdr=1048576/\b=false))):=fun b hb=>by
  subst hb;unfold wdrB;by_cases g1:p.day<=p.wdr <;> by_cases g2:p.wdr<=1048575 <;> by_cases g3:p.wdr=1048576 <;> simp[g1,g2,g3]
 refine ja0 call45 func45 146 ?_;refine rcW hx (jll p.id) ?_;cases h1:idB p.id
 ·rw[if_pos (.inl h1)] at hEE;subst hEE;exact za
 refine rc (den_wDay p.day) ?_;cases h2:dayG p.day
 ·rw[if_pos (.inr (.inl h2))] at hEE;subst hEE;exact za
 refine run ?_;apply jni (wdrB p=true) ⟨146,[(1,.v (vi i)),(2,.p 2 0),(5,.p 5 0)],[(5,.var p.cs),(2,.var r.cs)],[]⟩
 ·intro tail;refine call (ji6 p.wdr p.day 1048575) ?_;rcases hwd _ rfl with ⟨g1,g2⟩ | ⟨g1,⟨g2,g3⟩ | ⟨g2,g3⟩⟩
  ·rw[decide_eq_true g1];refine runD trivial ?_;refine tail _ g2 ?_;exact zbu
  ·rw[decide_eq_false g1];refine runD (eq_true g2) ?_;refine tail _ g3 ?_;exact zbu
  ·rw[decide_eq_false g1];rw[if_pos (.inr (.inr g3))] at hEE;subst hEE;refine runW (eq_false g2) ?_;exact fin rfl
 intro hw;rw[if_neg (by rw[h1,h2,hw]; decide)] at hEE;clear hwd;apply jni (jeh (jac r.pps i) p=false) ⟨146,[(1,.v (vi i)),(2,.p 2 0),(5,.p 5 0)],[(5,.var p.cs),(2,.var r.cs)],[]⟩
 ·intro tail;by_cases h0:i=0
  ·have hz:jeh (jac r.pps i) p=false:=by unfold jac; rw[if_pos h0]; rfl
   subst h0;refine jcw (jcs 6) trivial ?_;refine tail _ hz ?_;exact zbu
  ·obtain ⟨q,hq,-,-⟩:=ja1 (l:=r.pps) (k:=i-1) om;have hpos:((0:Int)<(i:Int))=True:=eq_true om;have hz:jeh (jac r.pps i) p=(decide (p.id<=q.id) || decide (p.day<q.day)):=by unfold jac; rw[if_neg h0,hq]; rfl
   by_cases g1:p.id<=q.id
   ·rw[if_pos (by rw[hz,decide_eq_true g1]; rfl)] at hEE;subst hEE;refine runW (ai hpos (ai hq (eq_true g1))) ?_;exact fin rfl
   by_cases g2:p.day<q.day
   ·rw[if_pos (by rw[hz,decide_eq_true g2,Bool.or_true])] at hEE;subst hEE;refine runW (ai hpos (ai hq (ai (eq_false g1) (eq_true g2)))) ?_;exact fin rfl
   ·refine jcw (jcs 6) (ai hpos (ai hq (ai (eq_false g1) (eq_false g2)))) ?_;refine tail _ (by rw[hz,decide_eq_false g1,decide_eq_false g2]; rfl) ?_;exact zbu
 intro hea;rw[if_neg (by rw[hea]; decide)] at hEE;clear hea;refine rc (jro r.cks p.clk p.day hcl) ?_;rcases clkOn_ix r.cks p.clk p.day with ⟨g1,g2⟩ | ⟨g1,g2⟩
 ·rw[if_pos g1] at hEE;subst hEE;refine runW (eq_true g2) ?_;exact fin rfl
 rw[if_neg (by rw[g1]; decide)] at hEE;by_cases hne:p.fls=[]
 ·rw[if_pos hne] at hEE;subst hEE;have hl0:p.fls.length=0:=by rw[hne]; rfl
  refine runW (ai (eq_false g2) hl0) ?_;exact fin rfl
 rw[if_neg hne] at hEE;have hl0:¬p.fls.length=0:=fun e=>hne (List.eq_nil_of_length_eq_zero e);refine runW (ai (eq_false g2) (eq_false hl0)) ?_;clear g1 g2;refine ja7 ⟨[6,1,2,5],[5,2],[],[]⟩ p.fls.length (fun k=>∀f∈p.fls.take k,hasF r.fls f=true) sm ?_;rintro k ⟨hk,hall⟩;by_cases hlt:k<p.fls.length
 ·obtain ⟨f,hf,-,hfm⟩:=ja1 hlt;have hh:=jot r.fls f;refine rcW hf (jnr r.fls f hfl) ?_;by_cases g:jbp r.fls f<0
  ·rw[decide_eq_true g] at hh;have hna:p.fls.all (hasF r.fls)=false:=List.all_eq_false.2 ⟨f,hfm,by rw[hh]; decide⟩;rw[if_pos hna] at hEE;subst hEE;refine runW (eq_true g) ?_;exact fin rfl
  ·rw[decide_eq_false g] at hh;refine runW (eq_false g) ?_;exact round (k+1) ⟨hlt,jae (q:=fun f=>hasF r.fls f=true) hall hf hh⟩ om
 rw[if_neg (by rw[List.all_eq_true.2 fun f hf=>jcq hall hlt f hf]; decide)] at hEE;clear hall;refine run ?_;refine jb6 ⟨[7,1,2,5],[5,2],[],[]⟩ (fun k:Nat=>1<=k/\k<=p.fls.length/\∀(j:Nat) x y,j+1<k->p.fls[j]? = some x->p.fls[j+1]? = some y->x<y) (fun k=>p.fls.length-k) (fun k=>[(7,.v (vi k))]) 1 ⟨Nat.le_refl _,om,fun j _ _ hj=>by omega⟩ ?_;rintro k ⟨hk1,hk,hris⟩;by_cases hlt:k<p.fls.length
 ·obtain ⟨f,hf,-,-⟩:=ja1 hlt;obtain ⟨g,hg,-,-⟩:=ja1 (l:=p.fls) (k:=k-1) om;by_cases hle:f<=g
  ·have hnr:risI p.fls=false:=Bool.eq_false_iff.2 fun e=>by
    have:=(jfz p.fls).1 e (k-1) g f hg (by rw[show k-1+1=k by omega]; exact hf);omega
   rw[if_pos hnr] at hEE;subst hEE;refine runW (ai hf (ai hg (eq_true hle))) ?_;exact fin rfl
  ·refine runW (ai hf (ai hg (eq_false hle))) ?_;refine round (k+1) ⟨om,hlt,fun j x y hj h1 h2=> ?_⟩ om;by_cases hjk:j+1=k
   ·subst hjk;rw[hf] at h2;cases h2;rw[show j+1-1=j by omega,h1] at hg;cases hg;omega
   ·exact hris j x y om h1 h2
 have hrt:risI p.fls=true:=(jfz p.fls).2 fun j x y h1 h2=>hris j x y (by have:=(gsi.1 h2).1; omega) h1 h2;rw[if_neg (by rw[hrt]; decide)] at hEE;clear hris;refine run ?_;refine ja7 ⟨[8,1,2,5],[5,2],[],[]⟩ i (fun k=>∀q∈r.pps.take k,∀f∈p.fls,jf7 p.day f q=false) sm ?_;rintro k ⟨hk,hall⟩;by_cases hlt:k<i
 ·obtain ⟨q,hq,-,hqm⟩:=ja1 (l:=r.pps) (k:=k) om;have hqf:=h.pps.2 q hqm;refine runW (eq_true hlt) ?_;refine ja7 ⟨[9,1,2,5,8],[5,2],[],[]⟩ p.fls.length (fun n=>∀f∈p.fls.take n,jf7 p.day f q=false) sm ?_;rintro n ⟨hn,hin⟩;by_cases hnlt:n<p.fls.length
  ·obtain ⟨f,hf,-,hfm⟩:=ja1 hnlt;by_cases g1:p.day<q.wdr
   ·refine rcW (ai hq (ai hf (eq_true g1))) (den_has14 q.fls f hqf) ?_;cases g2:hasI f q.fls
    ·refine run ?_;exact round (n+1) ⟨hnlt,jae (q:=fun f=>jf7 p.day f q=false) hin hf (by unfold jf7; rw[g2,Bool.and_false])⟩ om
    ·have hany:p.fls.any (jhe (r.pps.take i) p.day)=true:=List.any_eq_true.2 ⟨f,hfm,List.any_eq_true.2 ⟨q,mem_take hq hlt,by unfold jf7; rw[g2,decide_eq_true g1]; rfl⟩⟩;rw[if_pos hany] at hEE;subst hEE;exact za
   ·refine runW (ai hq (ai hf (eq_false g1))) ?_;exact round (n+1) ⟨hnlt,jae (q:=fun f=>jf7 p.day f q=false) hin hf (by unfold jf7; rw[decide_eq_false g1,Bool.false_and])⟩ om
  refine run ?_;exact round (k+1) ⟨hlt,jae (q:=fun q=>∀f∈p.fls,jf7 p.day f q=false) hall hq fun f hf=>jcq hin hnlt f hf⟩ om
 have hki:k=i:=om
 subst hki
 have hany:p.fls.any (jhe (r.pps.take k) p.day)=false:=List.any_eq_false.2 fun f hf e=>by
  obtain ⟨q,hq,hh⟩:=List.any_eq_true.1 e;rw[hall q hq f hf] at hh;cases hh
 exact zc6
set_option maxHeartbeats 16000000 in
theorem den_approval14 (r:Rgs) (h:r.Fit) (i:Nat) (hi:i<r.aps.length):Den prog T 46 [.agg r.cs,vi i] (vi (jbt r i)):=by
 have hpl:=h.pps.1;have hal:=h.aps;have hcl:=h.cks.1;obtain ⟨a,hx,-,-⟩:=ja1 hi;have hfd:=joz (T:=T) r.pps a.prp hpl;rcases jee (jar a.prp) r.pps with ⟨h1,h2⟩ | ⟨k,p,h1,hk,hpx,-,h2⟩
 ·have hE:jbt r i=7:=by unfold jbt; rw[hx]; simp only[h2]
  rw[show jcm r.pps a.prp= -1 from h1] at hfd;rw[hE];refine ja0 call46 func46 89 ?_;refine rcW hx hfd ?_;exact za
 have hE:jbt r i=apvE r (r.aps.take i) (jac r.aps i) a p:=by unfold jbt; rw[hx]; simp only[h2]
 rw[show jcm r.pps a.prp=(k:Int) from h1] at hfd;rw[hE];obtain ⟨E,hEE⟩:∃E,apvE r (r.aps.take i) (jac r.aps i) a p=E:=⟨_,rfl⟩;rw[hEE];unfold apvE at hEE;refine ja0 call46 func46 89 ?_;refine rcW hx hfd ?_;refine rcW hpx (ji6 a.day p.day 1048575) ?_;by_cases c1:p.day<=a.day/\a.day<=1048575
 case neg=>
  rw[if_pos (by by_cases g:a.day<p.day; exact .inl g; exact .inr om)] at hEE;subst hEE;rw[decide_eq_false c1];exact za
 rw[if_neg om] at hEE;rw[decide_eq_true c1];apply jni (jhg (jac r.aps i) a=false) ⟨89,[(1,.v (vi i)),(2,.p 2 0),(5,.p 5 0),(7,.p 7 0)],[(7,.var p.cs),(5,.var a.cs),(2,.var r.cs)],[]⟩
 ·intro tail;by_cases h0:i=0
  ·have hz:jhg (jac r.aps i) a=false:=by unfold jac; rw[if_pos h0]; rfl
   subst h0;refine jcw (jcs 10) trivial ?_;refine tail _ hz ?_;exact jak [7,5,2] [1,2,5,7] rfl rfl rfl (fun _ _ e=>e) rfl
  ·obtain ⟨q,hq,-,-⟩:=ja1 (l:=r.aps) (k:=i-1) om;have hpos:((0:Int)<(i:Int))=True:=eq_true om;have hz:jhg (jac r.aps i) a=decide (a.day<q.day):=by unfold jac; rw[if_neg h0,hq]; rfl
   by_cases g2:a.day<q.day
   ·rw[if_pos (by rw[hz,decide_eq_true g2])] at hEE;subst hEE;refine runW (ai hpos (ai hq (eq_true g2))) ?_;exact fin rfl
   ·refine jcw (jcs 10) (ai hpos (ai hq (eq_false g2))) ?_;refine tail _ (by rw[hz,decide_eq_false g2]) ?_;exact jak [7,5,2] [1,2,5,7] rfl rfl rfl (fun _ _ e=>e) rfl
 intro hea;rw[if_neg (by rw[hea]; decide)] at hEE;clear hea;by_cases c3:p.wdr<=a.day
 ·rw[if_pos c3] at hEE;subst hEE;refine runW (eq_true c3) ?_;exact fin rfl
 rw[if_neg c3] at hEE;refine rcW (eq_false c3) (jro r.cks a.clk a.day hcl) ?_;rcases clkOn_ix r.cks a.clk a.day with ⟨g1,g2⟩ | ⟨g1,g2⟩
 ·rw[if_pos g1] at hEE;subst hEE;refine runW (eq_true g2) ?_;exact fin rfl
 rw[if_neg (by rw[g1]; decide)] at hEE;by_cases c5:a.clk=p.clk
 ·rw[if_pos c5] at hEE;subst hEE;refine runW (ai (eq_false g2) (eq_true c5)) ?_;exact fin rfl
 rw[if_neg c5] at hEE;refine runW (ai (eq_false g2) (eq_false c5)) ?_;clear g1 g2;refine ja7 ⟨[8,1,2,5],[5,2],[],[]⟩ i (fun n=>∀b∈r.aps.take n,jem a b=false) sm ?_;rintro n ⟨hn,hall⟩;by_cases hlt:n<i
 ·obtain ⟨b,hb,-,-⟩:=ja1 (l:=r.aps) (k:=n) om;by_cases q1:b.prp=a.prp
  ·by_cases q2:b.clk=a.clk
   ·have hany:(r.aps.take i).any (jem a)=true:=List.any_eq_true.2 ⟨b,mem_take hb hlt,by unfold jem; rw[decide_eq_true q1,decide_eq_true q2]; rfl⟩;rw[if_pos hany] at hEE;subst hEE;refine runW (ai (eq_true hlt) (ai hb (ai (eq_true q1) (eq_true q2)))) ?_;exact fin rfl
   ·refine runW (ai (eq_true hlt) (ai hb (ai (eq_true q1) (eq_false q2)))) ?_;exact round (n+1) ⟨hlt,jae (q:=fun b=>jem a b=false) hall hb (by unfold jem; rw[decide_eq_false q2,Bool.and_false])⟩ om
  ·refine runW (ai (eq_true hlt) (ai hb (eq_false q1))) ?_;exact round (n+1) ⟨hlt,jae (q:=fun b=>jem a b=false) hall hb (by unfold jem; rw[decide_eq_false q1,Bool.false_and])⟩ om
 have hni:n=i:=om
 subst hni;have hany:(r.aps.take n).any (jem a)=false:=List.any_eq_false.2 fun b hb=>by rw[hall b hb]; decide
 exact zc6
theorem js6 (r:Rgs) (h:r.Fit) (i:Nat) (hi:i<r.crs.length):Den prog T 47 [.agg r.cs,vi i] (vi (jbh r i)):=by
 have hpl:=h.pps.1;have hcl:=h.crs.1;obtain ⟨c,hx,-,hm⟩:=ja1 hi;have hcf:=(h.crs.2 c hm).1;have hfd:=joz (T:=T) r.pps c.prp hpl;have hrt:=den_right14 (T:=T) r.crs i h.crs hi;rcases jee (jar c.prp) r.pps with ⟨h1,h2⟩ | ⟨k,p,h1,hk,hpx,-,h2⟩
 ·have hE:jbh r i=7:=by unfold jbh; rw[hx]; simp only[h2]
  rw[show jcm r.pps c.prp= -1 from h1] at hfd;rw[hE];refine ja0 call47 func47 34 ?_;refine rcW hx hfd ?_;exact za
 have hE:jbh r i=if c.fls≠p.fls then 10 else if jc0 r.crs i=false then 14 else 0:=by unfold jbh; rw[hx]; simp only[h2]
 rw[show jcm r.pps c.prp=(k:Int) from h1] at hfd;rw[hE];refine ja0 call47 func47 34 ?_;refine rcW hx hfd ?_;refine rcW hpx (jk7 c.fls p.fls hcf) ?_;by_cases c1:c.fls=p.fls
 ·rw[if_neg (fun e=>e c1),decide_eq_true c1];refine rc hrt ?_;cases hz:jc0 r.crs i
  ·rw[if_pos rfl];exact za
  ·rw[if_neg dc];exact za
 ·rw[if_pos c1,decide_eq_false c1];exact za
theorem chk_many2 {lim n:Nat} {f:Nat->Int} (h:lim<n):(chk lim n f).2=8:=by rw[jdz h]
set_option maxHeartbeats 8000000 in
theorem jls (L:LibC T) (r:Rgs) (h:r.Fit):Den prog T 13 [.agg r.cs] (vi (jas r)):=by
 have hpl:=h.pps.1;have hal:=h.aps;have hcl:=h.crs.1;have hG:=den_CheckGRef L r h;have hK:=den_clerks14 (T:=T) r.cks h.cks.1 h.cks.2;have hE:jas r=fstE [checkG r,(chk 32 r.cks.length (jbs r.cks)).2,(chk 1024 r.pps.length (jc9 r)).2,(chk 1024 r.aps.length (jbt r)).2,(chk r.crs.length r.crs.length (jbh r)).2]:=rfl;rw[hE];refine ja0 call13 func13 64 ?_;refine rc hG ?_;by_cases e1:checkG r=0
 case neg=>
  simp only[fstE,ne_eq,e1,not_false_eq_true,if_true];refine runW (eq_false e1) ?_;exact fin rfl
 refine rcW e1 hK ?_;by_cases e2:(chk 32 r.cks.length (jbs r.cks)).2=0
 case neg=>
  simp only[fstE,ne_eq,e1,e2,not_false_eq_true,not_true,if_true,if_false];refine runW (eq_false e2) ?_;exact fin rfl
 by_cases e3:1024<r.pps.length
 ·have b3:(chk 1024 r.pps.length (jc9 r)).2=8:=chk_many2 e3;simp only[fstE,ne_eq,e1,e2,b3,not_true,if_false];refine runW (ai e2 (eq_true e3)) ?_;exact fin rfl
 refine runW (ai e2 (eq_false e3)) ?_;refine ja7 ⟨[4,1],[1],[],[]⟩ r.pps.length (fun k=>∀i,i<k->jc9 r i=0) (fun i hi=>absurd hi (Nat.not_lt_zero i)) ?_;rintro k ⟨hk,hall⟩;by_cases hlt:k<r.pps.length
 ·refine rc (den_proposal14 r h k hlt) ?_;by_cases hz:jc9 r k=0
  ·refine runW hz ?_;refine round (k+1) ⟨hlt,fun i hi=> ?_⟩ om;by_cases e:i=k
   ·exact zcr
   ·exact zb2
  ·have hb:(chk 1024 r.pps.length (jc9 r)).2=jc9 r k:=by rw[jeb e3 hlt hall hz]
   simp only[fstE,ne_eq,e1,e2,hb,hz,not_false_eq_true,not_true,if_true,if_false];exact zcg
 have b3:(chk 1024 r.pps.length (jc9 r)).2=0:=by rw[jds e3 fun i hi=>hall i om]
 clear hall;by_cases e4:1024<r.aps.length
 ·have b4:(chk 1024 r.aps.length (jbt r)).2=8:=chk_many2 e4;simp only[fstE,ne_eq,e1,e2,b3,b4,not_true,if_false];refine runW (eq_true e4) ?_;exact fin rfl
 refine runW (eq_false e4) ?_;refine ja7 ⟨[5,1],[1],[],[]⟩ r.aps.length (fun k=>∀i,i<k->jbt r i=0) (fun i hi=>absurd hi (Nat.not_lt_zero i)) ?_;rintro k ⟨hk,hall⟩;by_cases hlt:k<r.aps.length
 ·refine rc (den_approval14 r h k hlt) ?_;by_cases hz:jbt r k=0
  ·refine runW hz ?_;refine round (k+1) ⟨hlt,fun i hi=> ?_⟩ om;by_cases e:i=k
   ·exact zcr
   ·exact zb2
  ·have hb:(chk 1024 r.aps.length (jbt r)).2=jbt r k:=by rw[jeb e4 hlt hall hz]
   simp only[fstE,ne_eq,e1,e2,b3,hb,hz,not_false_eq_true,not_true,if_true,if_false];exact zcg
 have b4:(chk 1024 r.aps.length (jbt r)).2=0:=by rw[jds e4 fun i hi=>hall i om]
 clear hall;refine run ?_;refine ja7 ⟨[6,1],[1],[],[]⟩ r.crs.length (fun k=>∀i,i<k->jbh r i=0) (fun i hi=>absurd hi (Nat.not_lt_zero i)) ?_;rintro k ⟨hk,hall⟩;by_cases hlt:k<r.crs.length
 ·refine rc (js6 r h k hlt) ?_;by_cases hz:jbh r k=0
  ·refine runW hz ?_;refine round (k+1) ⟨hlt,fun i hi=> ?_⟩ om;by_cases e:i=k
   ·exact zcr
   ·exact zb2
  ·have hb:(chk r.crs.length r.crs.length (jbh r)).2=jbh r k:=by rw[jeb (Nat.lt_irrefl _) hlt hall hz]
   simp only[fstE,ne_eq,e1,e2,b3,b4,hb,hz,not_false_eq_true,not_true,if_true,if_false];exact zcg
 have b5:(chk r.crs.length r.crs.length (jbh r)).2=0:=by rw[jds (Nat.lt_irrefl _) fun i hi=>hall i om]
 simp only[fstE,ne_eq,e1,e2,b3,b4,b5,not_true,if_false];exact za
set_option maxHeartbeats 8000000 in
theorem den_SameO (a:List Ofc) (ha:a.length<=1048576) (hn:∀o∈a,o.nxt.length<=1048576):Den prog T 62 [ofcs a,ofcs a] (vb true):=by
 refine ja0 call62 func62 68 ?_;refine run ?_;refine jb6 ⟨[5,0,1],[],[],[]⟩ (fun k:Nat=>k<=a.length) (fun k=>a.length-k) (fun k=>[(5,.v (vi k))]) 0 om ?_;intro k hk;by_cases hlt:k<a.length
 ·obtain ⟨x,hx,-,hm⟩:=ja1 hlt;have hs:=jk7 (T:=T) x.nxt x.nxt (hn x hm);rw[decide_eq_true rfl] at hs;refine rcW hx hs ?_;refine run ?_;exact zx
 ·exact za
set_option maxHeartbeats 8000000 in
theorem den_SameP (a:List Plan) (ha:a.length<=1048576) (hn:∀p∈a,p.cls.length<=1048576/\p.mov.length<=1048576):Den prog T 63 [jad a,jad a] (vb true):=by
 refine ja0 call63 func63 127 ?_;refine run ?_;refine jb6 ⟨[5,0,1],[],[],[]⟩ (fun k:Nat=>k<=a.length) (fun k=>a.length-k) (fun k=>[(5,.v (vi k))]) 0 om ?_;intro k hk;by_cases hlt:k<a.length
 ·obtain ⟨x,hx,-,hm⟩:=ja1 hlt;obtain ⟨hc,hv⟩:=hn x hm;refine runW hx ?_;refine jb6 ⟨[6,0,1,5],[],[],[]⟩ (fun j:Nat=>j<=x.cls.length) (fun j=>x.cls.length-j) (fun j=>[(6,.v (vi j))]) 0 om ?_;intro j hj;by_cases hjl:j<x.cls.length
  ·exact zdx
  refine runW hx ?_;refine jb6 ⟨[7,0,1,5],[],[],[]⟩ (fun j:Nat=>j<=x.mov.length) (fun j=>x.mov.length-j) (fun j=>[(7,.v (vi j))]) 0 om ?_;intro j hj;by_cases hjl:j<x.mov.length
  ·exact zdx
  refine runW hx ?_;exact zx
 ·exact za
abbrev gr158a:List Gent:=⟨bz 12 0,12,.one 0 0⟩::⟨bz 12 1,11,.one 1 0⟩::⟨bz 12 3,10,.one 2 0⟩::⟨bz 12 7,9,.ld 3 0⟩::⟨bz 12 15,8,.one 4 0⟩::⟨bz 12 31,7,.one 5 0⟩::⟨bz 12 63,6,.one 6 0⟩::⟨bz 12 127,5,.ld 7 0⟩::⟨bz 12 255,4,.alt [(8,1),(9,0)]⟩::⟨bz 12 767,3,.alt [(8,1)]⟩::⟨bz 12 511,3,.alt [(9,0)]⟩::⟨bz 12 1023,2,.alt [(10,0)]⟩::⟨bz 12 2047,1,.alt [(11,0)]⟩::⟨bz 12 4095,0,.fin⟩::[]
set_option maxHeartbeats 8000000 in
theorem den_SameF (a:List Fil) (ha:a.length<=1048576) (hn:∀f∈a,f.Fit):Den prog T 64 [fils a,fils a] (vb true):=by
 refine ja0 call64 func64 82 ?_;refine run ?_;refine jb6 ⟨[5,0,1],[],[],[]⟩ (fun k:Nat=>k<=a.length) (fun k=>a.length-k) (fun k=>[(5,.v (vi k))]) 0 om ?_;intro k hk;by_cases hlt:k<a.length
 ·obtain ⟨x,hx,-,hm⟩:=ja1 hlt;have hxn:=(hn x hm).2.2.1;have hs:=den_SameNotes (T:=T) x.nts x.nts hxn hxn;rw[decide_eq_true rfl] at hs;refine runD hx ?_;refine jf4 .nm (fun _:Unit=>True) (fun _=>⟨82,[(0,.v (fils a)),(1,.v (fils a)),(5,.v (vi k)),(6,.p 6 0),(7,.p 7 0)],[(6,.var x.cs),(7,.var x.cs)],[]⟩) ?_ ?_
  ·intro E hE;refine jat gr158a ?_;refine jab hx ?_
   try simp only[and_self,and_self_left,and_self_right,jag,jai]
   repeat' (with_reducible refine ai ?_ ?_)
   all_goals refine hE () _ trivial ?_
   all_goals exact jak [6,7] [0,1,5,6,7] rfl rfl rfl (fun i k e=>by
    rw[ja4,ja4] at e;split at e
    ·exact zo
    split at e
    ·exact zo
    ·cases e) rfl
  intro _ _
  show aw _ _ _ ⟨82,[(0,.v (fils a)),(1,.v (fils a)),(5,.v (vi k)),(6,.p 6 0),(7,.p 7 0)],[(6,.var x.cs),(7,.var x.cs)],[]⟩ _
  refine rc hs ?_;refine run ?_;exact zx
 ·exact za
theorem den_SameR (a:List Rul) (ha:a.length<=1048576):Den prog T 65 [ruls a,ruls a] (vb true):=by
 refine ja0 call65 func65 26 ?_;refine run ?_;refine jb6 ⟨[5,0,1],[],[],[]⟩ (fun k:Nat=>k<=a.length) (fun k=>a.length-k) (fun k=>[(5,.v (vi k))]) 0 om ?_;intro k hk;by_cases hlt:k<a.length
 ·exact zbq
 ·exact za
theorem den_SameCrt (c:Crt) (hc:c.fls.length<=1048576):Den prog T 126 [.agg c.cs,.agg c.cs] (vb true):=by
 have hs:=jk7 (T:=T) c.fls c.fls hc;rw[decide_eq_true rfl] at hs;refine ja0 call126 func126 45 ?_;refine rc hs ?_;exact za
abbrev gr158b:List Gent:=⟨bz 14 0,14,.one 0 0⟩::⟨bz 14 1,13,.ld 1 0⟩::⟨bz 14 3,12,.one 2 0⟩::⟨bz 14 7,11,.one 3 0⟩::⟨bz 14 15,10,.ld 4 0⟩::⟨bz 14 31,9,.one 5 0⟩::⟨bz 14 63,8,.ld 6 0⟩::⟨bz 14 127,7,.one 7 0⟩::⟨bz 14 255,6,.one 8 0⟩::⟨bz 14 511,5,.ld 9 0⟩::⟨bz 14 1023,4,.alt [(10,0),(11,1)]⟩::⟨bz 14 2047,3,.alt [(11,1)]⟩::⟨bz 14 3071,3,.alt [(10,0)]⟩::⟨bz 14 4095,2,.alt [(12,0)]⟩::⟨bz 14 8191,1,.alt [(13,0)]⟩::⟨bz 14 16383,0,.fin⟩::[]
abbrev gr158c:List Gent:=⟨bz 14 0,14,.one 0 0⟩::⟨bz 14 1,13,.ld 1 0⟩::⟨bz 14 3,12,.one 2 0⟩::⟨bz 14 7,11,.one 3 0⟩::⟨bz 14 15,10,.ld 4 0⟩::⟨bz 14 31,9,.one 5 0⟩::⟨bz 14 63,8,.ld 6 0⟩::⟨bz 14 127,7,.one 7 0⟩::⟨bz 14 255,6,.one 8 0⟩::⟨bz 14 511,5,.ld 9 0⟩::⟨bz 14 1023,4,.alt [(10,0),(11,1)]⟩::⟨bz 14 2047,3,.alt [(11,1)]⟩::⟨bz 14 3071,3,.alt [(10,0)]⟩::⟨bz 14 4095,2,.alt [(12,0)]⟩::⟨bz 14 8191,1,.alt [(13,0)]⟩::⟨bz 14 16383,0,.fin⟩::[]
set_option maxHeartbeats 16000000 in
theorem den_sameLists (r:Rgs) (h:r.Fit):Den prog T 67 [.agg r.cs,.agg r.cs] (vb true):=by
 have hsl:=h.sls.1;have hpl:=h.pps.1;have hcl:=h.crs.1;refine ja0 call67 func67 144 ?_;refine jcw (jcs 3) trivial ?_;refine jhi 2 ?_;refine jhi 3 ?_;refine jbx (st':=⟨144,[(2,.p 2 0),(3,.p 3 0)],[(2,.con r.cs),(3,.con r.cs)],[]⟩) ⟨[2,3],[2,3],[],[]⟩ rfl ?_;refine run ?_;refine jb6 ⟨[5,2,3],[2,3],[],[]⟩ (fun k:Nat=>k<=r.sls.length) (fun k=>r.sls.length-k) (fun k=>[(5,.v (vi k))]) 0 om ?_;intro k hk;by_cases hlt:k<r.sls.length
 ·obtain ⟨x,hx,-,hm⟩:=ja1 hlt;have hs:=jk7 (T:=T) x.fls x.fls (h.sls.2 x hm);rw[decide_eq_true rfl] at hs;refine runD hx ?_;refine jf4 .nm (fun _:Unit=>True) (fun _=>⟨144,[(2,.p 2 0),(3,.p 3 0),(5,.v (vi k)),(6,.p 6 0),(7,.p 7 0)],[(6,.var x.cs),(7,.var x.cs),(2,.con r.cs),(3,.con r.cs)],[]⟩) ?_ ?_
  ·intro E hE;refine jat gr158b ?_;refine jab hx ?_
   try simp only[and_self,and_self_left,and_self_right,jag,jai]
   repeat' (with_reducible refine ai ?_ ?_)
   all_goals refine hE () _ trivial ?_
   all_goals exact jak [6,7,2,3] [2,3,5,6,7] rfl rfl rfl (fun i k e=>by
    rw[ja4,ja4,ja4,ja4] at e;split at e
    ·exact zo
    split at e
    ·exact zo
    split at e
    ·exact zo
    split at e
    ·exact zo
    ·cases e) rfl
  intro _ _
  show aw _ _ _ ⟨144,[(2,.p 2 0),(3,.p 3 0),(5,.v (vi k)),(6,.p 6 0),(7,.p 7 0)],[(6,.var x.cs),(7,.var x.cs),(2,.con r.cs),(3,.con r.cs)],[]⟩ _
  refine rc hs ?_;refine run ?_;exact zx
 refine run ?_;refine jb6 ⟨[8,2,3],[2,3],[],[]⟩ (fun k:Nat=>k<=r.pps.length) (fun k=>r.pps.length-k) (fun k=>[(8,.v (vi k))]) 0 om ?_;intro k hk;by_cases hlt:k<r.pps.length
 ·obtain ⟨x,hx,-,hm⟩:=ja1 hlt;have hs:=jk7 (T:=T) x.fls x.fls (h.pps.2 x hm);rw[decide_eq_true rfl] at hs;refine runD hx ?_;refine jf4 .nm (fun _:Unit=>True) (fun _=>⟨144,[(2,.p 2 0),(3,.p 3 0),(8,.v (vi k)),(9,.p 9 0),(10,.p 10 0)],[(9,.var x.cs),(10,.var x.cs),(2,.con r.cs),(3,.con r.cs)],[]⟩) ?_ ?_
  ·intro E hE;refine jat gr158c ?_;refine jab hx ?_
   try simp only[and_self,and_self_left,and_self_right,jag,jai]
   repeat' (with_reducible refine ai ?_ ?_)
   all_goals refine hE () _ trivial ?_
   all_goals exact jak [9,10,2,3] [2,3,8,9,10] rfl rfl rfl (fun i k e=>by
    rw[ja4,ja4,ja4,ja4] at e;split at e
    ·exact zo
    split at e
    ·exact zo
    split at e
    ·exact zo
    split at e
    ·exact zo
    ·cases e) rfl
  intro _ _
  show aw _ _ _ ⟨144,[(2,.p 2 0),(3,.p 3 0),(8,.v (vi k)),(9,.p 9 0),(10,.p 10 0)],[(9,.var x.cs),(10,.var x.cs),(2,.con r.cs),(3,.con r.cs)],[]⟩ _
  refine rc hs ?_;refine run ?_;exact zx
 refine run ?_;refine jb6 ⟨[11,2,3],[2,3],[],[]⟩ (fun k:Nat=>k<=r.crs.length) (fun k=>r.crs.length-k) (fun k=>[(11,.v (vi k))]) 0 om ?_;intro k hk;by_cases hlt:k<r.crs.length
 ·obtain ⟨x,hx,-,hm⟩:=ja1 hlt;refine rcW hx (den_SameCrt x (h.crs.2 x hm).1) ?_;refine run ?_;exact zx
 exact za
set_option maxHeartbeats 16000000 in
theorem jpz (r:Rgs) (h:r.Fit):Den prog T 20 [.agg r.cs,.agg r.cs] (vb true):=by
 have hkl:=h.cks.1;have hal:=h.aps;have hdl:=h.dps;refine ja0 call20 func20 138 ?_;refine rc (den_SameO r.ofs h.ofs.1 fun o ho=>(h.ofs.2 o ho).2) ?_;refine rc (den_SameP r.pls h.pls.1 fun p hp=>⟨(h.pls.2 p hp).1,(h.pls.2 p hp).2.1⟩) ?_;refine rc (den_SameF r.fls h.fls.1 h.fls.2) ?_;refine rc (den_SameR r.rls h.rls.1) ?_;refine rc (den_SameH r.hls h.hls.1) ?_;refine rc (den_sameLists r h) ?_;refine run ?_;refine jb6 ⟨[5,2,3],[2,3],[],[]⟩ (fun k:Nat=>k<=r.cks.length) (fun k=>r.cks.length-k) (fun k=>[(5,.v (vi k))]) 0 om ?_;intro k hk;by_cases hlt:k<r.cks.length
 ·exact zbq
 refine run ?_;refine jb6 ⟨[6,2,3],[2,3],[],[]⟩ (fun k:Nat=>k<=r.aps.length) (fun k=>r.aps.length-k) (fun k=>[(6,.v (vi k))]) 0 om ?_;intro k hk;by_cases hlt:k<r.aps.length
 ·exact zbq
 refine run ?_;refine jb6 ⟨[7,2,3],[2,3],[],[]⟩ (fun k:Nat=>k<=r.dps.length) (fun k=>r.dps.length-k) (fun k=>[(7,.v (vi k))]) 0 om ?_;intro k hk;by_cases hlt:k<r.dps.length
 ·exact zbq
 exact za
theorem jqm (L:LibC T) (x:Rgs) (hx:x.Fit):Den prog T 53 [.agg x.cs] (.tup [.agg (chgd x).1.cs,vi (chgd x).2]):=by
 have hck:=jls L x hx;refine ja0 call53 func53 12 ?_;refine rc hck ?_;by_cases hz:jas x=0
 ·have e:chgd x=(x,0):=by unfold chgd; rw[if_neg (fun h=>h hz)]
  rw[e];refine runW hz ?_;exact fin rfl
 ·have e:chgd x=(jbn,jas x):=by unfold chgd; rw[if_pos hz]
  rw[e];exact zj
theorem jln {P:Program} {α:Type} {c:Code} {st:St} {Q:AX->St->Prop} {cs:α->List V} {z:Nat} (hz:∀x,(cs x).length=z) (k id j:Nat) {l:List α} {cap b:Nat} {kk':Option (TypeId×Nat×Nat)} {C:List V}
  (h1:Ab.look k st.h=some (.var (l.map cs).flatten (some b) kk')) (h2:Ab.look id st.h=some (.var C none none)) (hne:id≠k) (h3:C[j]? = some (.val (.slice (some ⟨b,0,none⟩) l.length cap))) (h4:l.length<=cap) (h5:cap<=maxLen)
  (h:aw P T c ⟨st.n,st.t,seth id (.var (jbi C j [.slice z (l.map cs)]) none none) (frz1 k (seth k (.var (l.map cs).flatten) st.h)),st.o⟩ Q):aw P T c st Q:=by
 refine aw_cfrz k id j l.length cap z b (l.map cs).flatten C none none kk' h1 h2 hne h3 h4 h5 (by rw[jc4 hz]; exact Nat.le_refl _) ?_;unfold fcSt;rw[jji hz];exact h
abbrev gr160:List Gent:=⟨bz 8 0,8,.one 0 0⟩::⟨bz 8 1,7,.ld 2 0⟩::⟨bz 8 5,6,.alt [(1,1),(3,0)]⟩::⟨bz 8 13,5,.alt [(1,1),(4,2)]⟩::⟨bz 8 7,5,.alt [(3,0)]⟩::⟨bz 8 15,4,.alt [(4,1)]⟩::⟨bz 8 29,4,.alt [(1,0)]⟩::⟨bz 8 31,3,.alt [(5,0)]⟩::⟨bz 8 63,2,.one 6 0⟩::⟨bz 8 127,1,.alt [(7,0)]⟩::⟨bz 8 255,0,.fin⟩::[]
set_option maxHeartbeats 16000000 in
theorem den_Propose14 (L:LibC T) (r:Rgs) (h:r.Fit) (p:Prp) (hp:p.fls.length<=1048576) (hl:r.pps.length<1048576):Den prog T 15 [.agg r.cs,.agg p.cs] (.tup [.agg (propR r p).1.cs,vi (propR r p).2]):=by
 have hck:=jls L r h;have hch:=jqm L (morP r p) (fit_morP h hp hl);have hC:=jo6 (T:=T) r h 0;have hfi:=jkf (T:=T) p hp;have hrow:(r.pps.map Prp.cs).flatten++[Prp.cs p].flatten=((r.pps++[p]).map Prp.cs).flatten:=by rw[List.map_append,List.flatten_append]; rfl
 have hw:=jc4 (cs:=Prp.cs) (z:=5) (fun _=>rfl) r.pps;have hlen:r.pps.length+1=(r.pps++[p]).length:=by rw[List.length_append]; rfl
 have hlb:r.pps.length<1048576:=hl;refine ja0 call15 func15 28 ?_;unfold propR;refine rc hck ?_;by_cases hz:jas r=0
 case neg=>
  rw[if_pos hz];exact zj
 rw[if_neg (fun e=>e hz)];by_cases hwd:p.wdr=1048576
 case neg=>
  rw[if_pos hwd];refine runW (ai hz (eq_false hwd)) ?_;exact zbx
 rw[if_neg (fun e=>e hwd)];refine runW (ai hz (eq_true hwd)) ?_;have fini:∀(c:Nat×Nat),(r.pps++[p]).length<=c.2->c.2<=maxLen->True:=fun _ _ _=>trivial;refine jdv (callU 16 hC ?_ ?_)
 ·rintro rr ⟨s,hs,hro,rfl⟩;have hs0:s=none:=by cases s with | none=>rfl | some z=>cases hro
  subst hs0;have hnil:r.pps=[]:=List.eq_nil_of_length_eq_zero hs;have hrow0:([]:List V)++[Prp.cs p].flatten=((r.pps++[p]).map Prp.cs).flatten:=by rw[hnil]; rfl
  have hlen0:0+[Prp.cs p].length=(r.pps++[p]).length:=by rw[hnil]; rfl
  simp only[cs_q,sOpt,slO];refine runD (ai ja9 (ai jaa ja2)) ?_;refine jhi 3 ?_;refine jat gr160 ?_;refine jea (fun x:Nat×Nat=>(r.pps++[p]).length<=x.2/\x.2<=maxLen) ⟨[4,6],[4,6,22],[],[]⟩ (fun x=>⟨28,[(4,.p 4 0),(6,.p 6 0)],[(4,.var zc12),(6,.var (cpQ r (.val (.slice (some ⟨x.1,0,none⟩) (r.pps++[p]).length x.2)))),(22,.var ((r.pps++[p]).map Prp.cs).flatten (some x.1) (some (49,5,x.2)))],[]⟩) (fun st st' hk h=>jbx _ hk h) ?_ (fun K' hK=> ?_)
  rotate_left
  ·refine jab (ai ja9 (ai jaa ja2)) ?_
   try simp only[and_self,and_self_left,and_self_right,jag,jai,and_assoc]
   apply viaA
   ·have hX:=fun k kn m h0=>call (T:=T) (k:=k) (kn:=kn) (m:=m) hfi h0
    repeat' (first | with_reducible apply And.imp | exact hX _ _ _)
   refine jb8 (ai ja9 (ai jaa ja2)) ?_
   try simp only[and_self,and_self_left,and_self_right,jag,jai]
   refine jd4 ?_;unfold appR;refine jb8 (ai ja9 (ai jaa ja2)) ?_;intro r' cap' hnm h1 h2;rw[hrow0,hlen0];rw[hlen0] at h1;exact z8
  rintro ⟨b,cap⟩ ⟨g1,g2⟩;apply jln (cs:=Prp.cs) (z:=5) (fun _=>rfl) 22 6 7 (hne:=by decide) (h4:=g1) (h5:=g2)
  ·rfl
  ·rfl
  ·rfl
  exact z6
 ·rintro b rr ⟨s,hs,hro,rfl⟩ hnm;obtain ⟨⟨q,c⟩,rfl⟩:∃x,s=some x:=by cases s with | none=>cases hro | some z=>exact ⟨z,rfl⟩
  cases hro;obtain ⟨hc1,hc2⟩:r.pps.length<=c/\c<=maxLen:=hs;simp only[cs_q,sOpt,slO];refine runD (ai ja9 (ai jaa ja2)) ?_;refine jhi 3 ?_;refine jat gr160 ?_;refine jea (fun x:Nat×Nat=>(r.pps++[p]).length<=x.2/\x.2<=maxLen) ⟨[4,6],[4,6,22],[],[]⟩ (fun x=>⟨28,[(4,.p 4 0),(6,.p 6 0)],[(4,.var zc12),(6,.var (cpQ r (.val (.slice (some ⟨x.1,0,none⟩) (r.pps++[p]).length x.2)))),(22,.var ((r.pps++[p]).map Prp.cs).flatten (some x.1) (some (49,5,x.2)))],[]⟩) (fun st st' hk h=>jbx _ hk h) ?_ (fun K' hK=> ?_)
  rotate_left
  ·refine jab (ai ja9 (ai jaa ja2)) ?_
   try simp only[and_self,and_self_left,and_self_right,jag,jai,and_assoc]
   apply viaA
   ·have hX:=fun k kn m h0=>call (T:=T) (k:=k) (kn:=kn) (m:=m) hfi h0
    repeat' (first | with_reducible apply And.imp | exact hX _ _ _)
   refine jb8 (ai hw (ai ja9 (ai jaa ja2))) ?_
   try simp only[and_self,and_self_left,and_self_right,jag,jai]
   refine jd4 ?_;unfold appR;refine jb8 (ai hw (ai ja9 (ai jaa ja2))) ?_;refine ⟨hc1,⟨om,om⟩,.inr trivial,?_⟩;intro r' cap' hnm h1 h2;rw[hrow,show r.pps.length+[Prp.cs p].length=(r.pps++[p]).length from hlen];rw[show r.pps.length+[Prp.cs p].length=(r.pps++[p]).length from hlen] at h1;exact z8
  rintro ⟨b,cap⟩ ⟨g1,g2⟩;apply jln (cs:=Prp.cs) (z:=5) (fun _=>rfl) 22 6 7 (hne:=by decide) (h4:=g1) (h5:=g2)
  ·rfl
  ·rfl
  ·rfl
  exact z6
set_option maxHeartbeats 16000000 in
theorem den_Approve14 (L:LibC T) (r:Rgs) (h:r.Fit) (a:Apv) (hl:r.aps.length<1048576):Den prog T 17 [.agg r.cs,.agg a.cs] (.tup [.agg (apprR r a).1.cs,vi (apprR r a).2]):=by
 have hck:=jls L r h;have hch:=jqm L (morA r a) (fit_morA h hl);have hC:=jo6 (T:=T) r h 1;have hrow:(r.aps.map Apv.cs).flatten++[Apv.cs a].flatten=((r.aps++[a]).map Apv.cs).flatten:=by rw[List.map_append,List.flatten_append]; rfl
 have hw:=jc4 (cs:=Apv.cs) (z:=3) (fun _=>rfl) r.aps;have hlen:r.aps.length+[Apv.cs a].length=(r.aps++[a]).length:=by rw[List.length_append]; rfl
 have hlb:r.aps.length<1048576:=hl;refine ja0 call17 func17 23 ?_;unfold apprR;refine rc hck ?_;by_cases hz:jas r=0
 case neg=>
  rw[if_pos hz];exact zj
 rw[if_neg (fun e=>e hz)];refine runW hz ?_;refine jdv (callU 12 hC ?_ ?_)
 ·rintro rr ⟨s,hs,hro,rfl⟩;have hs0:s=none:=by cases s with | none=>rfl | some z=>cases hro
  subst hs0;have hnil:r.aps=[]:=List.eq_nil_of_length_eq_zero hs;have hrow0:([]:List V)++[Apv.cs a].flatten=((r.aps++[a]).map Apv.cs).flatten:=by rw[hnil]; rfl
  have hlen0:0+[Apv.cs a].length=(r.aps++[a]).length:=by rw[hnil]; rfl
  simp only[cs_a,sOpt,slO];refine runB (ai ja9 (ai jaa ja2)) ?_;refine jd4 ?_;unfold appR;refine runB (ai ja9 (ai jaa ja2)) ?_;intro r' cap' hnm h1 h2;rw[hrow0,hlen0];rw[hlen0] at h1;refine jcw (jcs 5) (ai ja9 (ai jaa ja2)) ?_;apply jln (cs:=Apv.cs) (z:=3) (fun _=>rfl) 17 6 8 (hne:=by decide) (h4:=h1) (h5:=h2)
  ·rfl
  ·rfl
  ·rfl
  exact z6
 ·rintro b rr ⟨s,hs,hro,rfl⟩ hnm;obtain ⟨⟨q,c⟩,rfl⟩:∃x,s=some x:=by cases s with | none=>cases hro | some z=>exact ⟨z,rfl⟩
  cases hro;obtain ⟨hc1,hc2⟩:r.aps.length<=c/\c<=maxLen:=hs;simp only[cs_a,sOpt,slO];refine runB (ai ja9 (ai jaa ja2)) ?_;refine jd4 ?_;unfold appR;refine runB (ai hw (ai ja9 (ai jaa ja2))) ?_;refine ⟨.inr trivial,?_⟩;intro r' cap' hnm h1 h2;rw[hrow,hlen];rw[hlen] at h1;refine jcw (jcs 5) (ai ja9 (ai jaa ja2)) ?_;apply jln (cs:=Apv.cs) (z:=3) (fun _=>rfl) 17 6 8 (hne:=by decide) (h4:=h1) (h5:=h2)
  ·rfl
  ·rfl
  ·rfl
  exact z6
set_option maxHeartbeats 16000000 in
theorem den_Withdraw14 (L:LibC T) (r:Rgs) (h:r.Fit) (n d:Int):Den prog T 19 [.agg r.cs,vi n,vi d] (.tup [.agg (wdrR r n d).1.cs,vi (wdrR r n d).2]):=by
 have hck:=jls L r h;have hpl:=h.pps.1;have hal:=h.aps;have hfd:=joz (T:=T) r.pps n hpl;have hdo:=den_done14 (T:=T) r h n;have hC:=jo6 (T:=T) r h 0
 have bad:∀e,wdrE r n d=e->e≠0->wdrR r n d=(jbn,e):=fun e h1 h2=>by
  unfold wdrR;rw[if_pos (by rw[h1]; exact h2),h1]
 rcases jee (jar n) r.pps with ⟨h1,h2⟩ | ⟨k,p,h1,hk,hx,hpm,h2⟩
 ·rw[show jcm r.pps n= -1 from h1] at hfd;refine ja0 call19 func19 80 ?_;refine rc hck ?_;by_cases hz:jas r=0
  ·rw[bad 7 (by unfold wdrE; rw[if_neg (fun e=>e hz),h2]) dc];refine rcW hz hfd ?_;exact zdq
  ·exact zbv
 have h1':jcm r.pps n=(k:Int):=h1;rw[h1'] at hfd;refine ja0 call19 func19 80 ?_;refine rc hck ?_;by_cases hz:jas r=0
 case neg=>
  exact zbv
 have hE:wdrE r n d=if d<p.day\/1048575<d then 2 else if p.wdr≠1048576\/jd0 r.crs n=true\/r.aps.any (jcz n d)=true then 11 else 0:=by
  unfold wdrE;rw[if_neg (fun e=>e hz),h2]
 refine rcW hz hfd ?_;refine rcW hx (ji6 d p.day 1048575) ?_;by_cases hd:p.day<=d/\d<=1048575
 case neg=>
  rw[bad 2 (by rw[hE,if_pos (by by_cases g:d<p.day; exact .inl g; exact .inr om)]) dc,decide_eq_false hd];exact zdq
 rw[if_neg om] at hE;rw[decide_eq_true hd];by_cases hw:p.wdr=1048576
 case neg=>
  exact zdc
 refine rcW (ai hx (eq_true hw)) hdo ?_;cases hc:jd0 r.crs n
 case true=>
  rw[bad 11 (by rw[hE,if_pos (.inr (.inl hc))]) dc];exact zdq
 refine run ?_;refine ja7 ⟨[9,1,2,3,6,8],[3,6],[],[]⟩ r.aps.length (fun j=>∀a∈r.aps.take j,jcz n d a=false) sm ?_;rintro j ⟨hj,hall⟩;by_cases hlt:j<r.aps.length
 ·obtain ⟨a,ha,-,ham⟩:=ja1 hlt;by_cases q1:a.prp=n
  ·by_cases q2:d<=a.day
   ·have hany:r.aps.any (jcz n d)=true:=List.any_eq_true.2 ⟨a,ham,by unfold jcz; rw[decide_eq_true q1,decide_eq_true q2]; rfl⟩;rw[bad 11 (by rw[hE,if_pos (.inr (.inr hany))]) dc];refine runW (ai ha (ai (eq_true q1) (ai (eq_true q2) jfc))) ?_;exact zbx
   ·refine runW (ai ha (ai (eq_true q1) (eq_false q2))) ?_;exact round (j+1) ⟨hlt,jae (q:=fun a=>jcz n d a=false) hall ha (by unfold jcz; rw[decide_eq_false q2,Bool.and_false])⟩ om
  ·refine runW (ai ha (eq_false q1)) ?_;exact round (j+1) ⟨hlt,jae (q:=fun a=>jcz n d a=false) hall ha (by unfold jcz; rw[decide_eq_false q1,Bool.false_and])⟩ om
 have hany:r.aps.any (jcz n d)=false:=List.any_eq_false.2 fun a ha=>by rw[jcq hall hlt a ha]; decide
 have hE0:wdrE r n d=0:=by rw[hE,if_neg (by rintro (e | e | e); exact e hw; rw[hc] at e; cases e; rw[hany] at e; cases e)]
 have e2:wdrR r n d=(wdrG r k d,0):=by unfold wdrR; rw[if_neg (fun e=>e hE0),h1']; rfl
 rw[e2];have hln:=jn0 (r:=r) k d;refine run ?_;refine jdv (callU 72 hC ?_ ?_)
 ·rintro rr ⟨s,hs,hro,rfl⟩;have hs0:s=none:=by cases s with | none=>rfl | some z=>cases hro
  subst hs0;have hs:r.pps.length=0:=hs;omega
 ·rintro b rr ⟨s,hs,hro,rfl⟩ hnm;obtain ⟨⟨q,c⟩,rfl⟩:∃x,s=some x:=by cases s with | none=>cases hro | some z=>exact ⟨z,rfl⟩
  cases hro;obtain ⟨hc1,hc2⟩:r.pps.length<=c/\c<=maxLen:=hs;have hwl:=jc4 (cs:=Prp.cs) (z:=5) (fun _=>rfl) r.pps
  have hset:((r.pps.map Prp.cs).flatten).take (k*5+4)++[vi d]++((r.pps.map Prp.cs).flatten).drop (k*5+4+1)=((wdrG r k d).pps.map Prp.cs).flatten:=by
   rw[prp_row hx d]
   show _=((wdrP r.pps k d).map Prp.cs).flatten
   rw[wdrP_set hx]
  obtain ⟨W,hW⟩:∃W,(r.pps.map Prp.cs).flatten=W:=⟨_,rfl⟩;simp only[cs_q,sOpt,slO];simp only[hW] at hwl hset ⊢;refine jcw (jcs 17) (ai hset (ai hwl (ai ja9 (ai jaa ja2)))) ?_;rw[<- hln];rw[<- hln] at hc1;apply jln (cs:=Prp.cs) (z:=5) (fun _=>rfl) 72 10 7 (hne:=by decide) (h4:=hc1) (h5:=hc2)
  ·rfl
  ·rfl
  ·rfl
  refine runW jfc ?_;exact fin rfl
theorem jjl:jbn.Fit:=
  { ofs:=⟨Nat.zero_le _,fun _ h=>nomatch h⟩,pls:=⟨Nat.zero_le _,fun _ h=>nomatch h⟩,fls:=⟨Nat.zero_le _,fun _ h=>nomatch h⟩,rls:=⟨Nat.zero_le _,fun _ h=>nomatch h⟩,hls:=⟨Nat.zero_le _,fun _ h=>nomatch h⟩
    cks:=⟨Nat.zero_le _,fun _ h=>nomatch h⟩,sls:=⟨Nat.zero_le _,fun _ h=>nomatch h⟩,pps:=⟨Nat.zero_le _,fun _ h=>nomatch h⟩,aps:=Nat.zero_le _,crs:=⟨Nat.zero_le _,fun _ h=>nomatch h⟩,dps:=Nat.zero_le _ }
theorem fit_propR {r:Rgs} (h:r.Fit) {p:Prp} (hp:p.fls.length<=1048576) (hl:r.pps.length<1048576):(propR r p).1.Fit:=by
 unfold propR chgd;split
 ·exact jjl
 split
 ·exact jjl
 split
 ·exact jjl
 ·exact fit_morP h hp hl
theorem fit_apprR {r:Rgs} (h:r.Fit) {a:Apv} (hl:r.aps.length<1048576):(apprR r a).1.Fit:=by
 unfold apprR chgd;split
 ·exact jjl
 split
 ·exact jjl
 ·exact fit_morA h hl
theorem fit_wdrR {r:Rgs} (h:r.Fit) (n d:Int):(wdrR r n d).1.Fit:=by
 unfold wdrR;split
 ·exact jjl
 ·exact fit_wdrG h _ _
set_option maxHeartbeats 16000000 in
theorem js3 (L:LibT T) (r:Rgs) (p:Prp) (a:Apv) (n d:Int) (h:r.Fit) (hp:p.fls.length<=1048576):Den prog T 4 [.agg r.cs,.agg p.cs,.agg a.cs,vi n,vi d] (vb true):=by
 have LC:=libC L;have hfw:=den_Few14 (T:=T) r h;refine ja0 call4 func4 100 ?_;refine rc (den_awake14 L) ?_;refine rc hfw ?_;cases hf:few14 r
 ·exact za
 have hF:=few14_of hf;have hpl:r.pps.length<1048576:=by have:=hF.pps; show _<1048576; omega
 have hal:r.aps.length<1048576:=by have:=hF.aps; show _<1048576; omega
 by_cases h12:12<p.fls.length
 ·refine runW (eq_true h12) ?_;exact fin rfl
 refine rcW (eq_false h12) (den_Propose L r h p hp hpl) ?_;refine rc (den_Propose14 LC r h p hp hpl) ?_;refine rc (den_Approve L r h a hal) ?_;refine rc (den_Approve14 LC r h a hal) ?_;refine rc (den_Withdraw L r h n d) ?_;refine rc (den_Withdraw14 LC r h n d) ?_;have s1:=jpz (T:=T) _ (fit_propR h hp hpl);have s2:=jpz (T:=T) _ (fit_apprR h (a:=a) hal);have s3:=jpz (T:=T) _ (fit_wdrR h n d);obtain ⟨X,hX⟩:∃X,(propR r p).1=X:=⟨_,rfl⟩;obtain ⟨Y,hY⟩:∃X,(apprR r a).1=X:=⟨_,rfl⟩;obtain ⟨Z,hZ⟩:∃X,(wdrR r n d).1=X:=⟨_,rfl⟩;rw[hX] at s1;rw[hY] at s2;rw[hZ] at s3;rw[hX,hY,hZ];refine rc s1 ?_;refine rc s2 ?_;refine rc s3 ?_;exact za
end Go.Arc
