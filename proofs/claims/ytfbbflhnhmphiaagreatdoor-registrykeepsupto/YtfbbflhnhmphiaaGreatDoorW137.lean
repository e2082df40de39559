/- A part of this claim. -/
import Derived.Test.YtfbbflhnhmphiaaGreatDoorBaQ
set_option maxHeartbeats 64000000
set_option maxRecDepth 100000
namespace Go.Arc
open Go.Ab Go.RowKit Go.Proofs Tryz
variable {T : Lay}
variable {α:Type}{cs:α->List V}{l:List α}{z:Nat}{off:Nat}{k:Nat}{x:α}{v:V}
theorem qve(hz:∀x,(cs x).length=z)(h:l[k]?=some x)(hv:(cs x)[off]?=some v):((l.map cs).flatten)[k*z+off]?=some v:=by
 obtain⟨A,B,h1,h2,-⟩:=qcu hz h;have hlt:=(gsi.1 hv).1;rw[h1,yb omq,h2,Nat.add_sub_cancel_left,xp hlt];exact hv
theorem om(hz:∀x,(cs x).length=z)(h:l[k]?=some x)(hv:(cs x)[off]?=some v):((l.map cs).flatten).drop (k*z+off)=v::((l.map cs).flatten).drop (k*z+off+1):=by
 obtain⟨hlt,rfl⟩:=gsi.1 (qve hz h hv);exact xat hlt
theorem tx(hz:∀x,(cs x).length=z)(h:l[k]?=some x)(hv:(cs x)[off]?=some v):((l.map cs).flatten).take (k*z+off)++[v]++((l.map cs).flatten).drop (k*z+off+1)=(l.map cs).flatten:=by
 rw[xb,List.singleton_append,<- om hz h hv,xc2]
theorem ed:∀a n c,(Value.slice a n c).oneCell'=true:=fun _ _ _=>rfl
def zc12:List V:=[.val (.slice none 0 0),.val (.slice none 0 0),.val (.slice none 0 0),.val (.slice none 0 0),.val (.slice none 0 0),.val (.slice none 0 0),.val (.slice none 0 0),.val (.slice none 0 0),.val (.slice none 0 0),.val (.slice none 0 0),.val (.slice none 0 0),vi 0]
abbrev jfe:List Gent:=gd 13 [[0,0,0],[1,2,0],[5,3,0],[13,5,0],[45,1,1,4,0],[61,6,2],[47,4,0,0,0,0],[63,6,1],[125,7,1],[127,7,1],[253,1,0,8,1],[255,8,2,0,0,0],[509,1,1,9,0],[1021,1,1,0,0,0],[511,9,0,0,0,0],[1023,10,0],[2047,11,0],[4095,12,0,0,0,0],[8191]]
abbrev qzj:List Gent:=gd 26 [[0,0,0],[1,2,0],[5,3,0],[13,5,0],[45,6,0],[109,8,0],[365,13,0],[8557,15,0],[41325,1,2,4,0,7,1,14,3],[41341,1,4,7,7,14,6],[41453,9,7],[41327,4,2,7,3,14,1],[57709,16,6],[57711,16,10],[41343,7,6,14,7],[41455,9,7],[57725,16,10],[41469,9,7],[41965,10,1],[123245,17,6],[42989,1,10,4,7,11,14,14,12],[41471,9,7],[57727,16,7],[41967,10,7],[123247,17,7],[41981,10,2],[254317,1,5,4,7,7,9,18,10],[123261,17,6],[43005,1,10,11,16,14,17],[41983,10,9],[123263,17,7],[42991,4,7,11,9,14,10],[254319,4,5,7,10,18,11],[59373,16,17],[254333,1,3,7,5,18,13],[45037,1,5,4,9,12,13,14,11],[254445,9,13],[516461,1,6,4,10,7,14],[254335,7,17,18,18],[43007,11,14,14,15],[254461,9,25],[45039,4,12,12,16,14,17],[59375,16,17],[254447,9,17],[516463,4,12,7,18],[45053,1,8,12,7,14,18],[59389,16,18],[61421,16,19],[516477,1,8,7,13],[49133,1,8,4,3,14,18],[254957,10,18],[124909,17,17],[516589,9,17],[49149,1,18,14,21],[45055,12,17,14,18],[59391,16,18],[254463,9,14],[516479,7,18,0,0,0],[49135,4,13,14,18],[61423,16,18],[124911,17,18],[254959,10,17],[516605,9,18],[516591,9,16],[61437,16,17],[124925,17,17],[254973,10,16],[126957,17,16],[65517,16,16],[255981,1,9,4,13,11,14,18,16],[517101,10,15],[254975,10,18],[49151,14,15,0,0,0],[61439,16,15],[124927,17,15],[65533,16,19],[516607,9,14],[65519,16,14],[126959,17,15],[255983,4,10,11,14,18,7],[517103,10,6],[517117,10,11],[126973,17,13],[255997,1,6,11,12,18,9],[258029,1,9,4,11,12,12,18,13],[131053,17,11],[518125,1,0,4,6,11,11],[518127,4,14,11,13],[65535,16,11],[126975,17,9],[255999,11,8,18,11],[517119,10,10],[131055,17,10],[518141,1,8,11,10],[258031,4,4,12,8,18,6],[131069,17,9],[258045,1,2,12,8,18,7],[262125,1,5,4,7,18,8],[520173,1,2,4,5,12,7],[258047,12,9,18,7],[131071,17,8],[520175,4,5,12,8],[518143,11,4,0,0,0],[262127,4,5,18,6],[520189,1,2,12,6],[262141,1,3,18,5],[524269,1,3,4,4,19,1],[520191,12,5,0,0,0],[1048557,1,3,4,5],[262143,18,3,0,0,0],[524271,4,2,19,1],[524285,1,1,19,2],[1048559,20,2],[524287,19,2,0,0,0],[1048573,1,1,0,0,0],[2097135,21,2],[1048575,20,0],[2097151,21,2],[4194287,4,1,22,0],[8388591,4,1,0,0,0],[4194303,22,0,0,0,0],[8388607,23,0],[16777215,24,0],[33554431,25,0,0,0,0],[67108863]]
abbrev jr9:List Gent:=gd 15 [[0,0,0],[1,3,0],[9,6,0],[73,1,2,4,0,7,1],[89,1,2,7,5],[201,1,3,4,4],[75,2,1,4,0,7,2],[91,2,5,7,4],[79,4,4,7,2],[203,2,1,4,2],[217,1,1,0,0,0],[207,4,2,0,0,0],[219,2,1,0,0,0],[95,5,1,7,0],[223,9,2],[127,7,0,0,0,0],[255,9,1],[735,5,0,0,0,0],[767,8,0,0,0,0],[1023,10,0,0,0,0],[2047,11,0],[4095,12,0,0,0,0],[8191,13,0],[16383,14,0,0,0,0],[32767]]
abbrev qzi:List Gent:=gd 10 [[0,0,0],[1,3,0],[9,1,1,4,0],[25,1,1,0,0,0],[11,2,1,4,0],[27,2,1,0,0,0],[15,4,0,0,0,0],[31,6,0],[95,5,0,0,0,0],[127,7,0,0,0,0],[255,8,0],[511,9,0,0,0,0],[1023]]
abbrev N3J:=Option (Nat×Nat)×Option (Nat×Nat)×Option (Nat×Nat)
abbrev rUJ(r:Rgs):=rowB 92 (r.rls.map Rul.cs).flatten 118 8
abbrev rDJ(r:Rgs):=rowB 95 (r.hls.map Hld.cs).flatten 147 7
abbrev rCJ(r:Rgs):=rowB 98 (r.cks.map Clk.cs).flatten 94 5
abbrev rSJ(r:Rgs):=rowB 104 (r.sls.map Sel.cs).flatten 149 3
abbrev rQJ(r:Rgs):=rowB 107 (r.pps.map Prp.cs).flatten 151 5
abbrev rKJ(r:Rgs):=rowB 110 (r.crs.map Crt.cs).flatten 48 6
abbrev rAJ(r:Rgs):=rowB 173 (r.aps.map Apv.cs).flatten 96 3
abbrev rMJ(r:Rgs):=rowB 176 (r.dps.map Dep.cs).flatten 98 2
abbrev n0J:V:=.val (.slice none 0 0)
abbrev svJ(b n c:Nat):V:=.val (.slice (some ⟨b,0,none⟩) n c)
abbrev rbJ(r:Rgs)(a b c:V):Nat×Blk:=(1,Blk.var [a,b,c,ruls r.rls,hlds r.hls,clks r.cks,sels r.sls,prps r.pps,apvs r.aps,crts r.crs,deps r.dps,vi r.chg])
abbrev rcJ(r:Rgs)(sO sP sF sU sD sC:Option (Nat×Nat))(a b c:V):Nat×Blk:=(1,Blk.var [sOpt r.ofs.length sO,sOpt r.pls.length sP,sOpt r.fls.length sF,sOpt r.rls.length sU,sOpt r.hls.length sD,sOpt r.cks.length sC,a,b,apvs r.aps,c,deps r.dps,vi r.chg])
abbrev z2J:Nat×Blk:=(2,Blk.var zc12)
abbrev rOJ(r:Rgs):=rowB 11 (r.ofs.map Ofc.cs).flatten 136 5
abbrev rPJ(r:Rgs):=rowB 14 (r.pls.map Plan.cs).flatten 140 5
abbrev rFJ(r:Rgs):=rowB 17 (r.fls.map Fil.cs).flatten 52 8
abbrev rqJ(q:Nat)(W:List V)(b t z c:Nat):Nat×Blk:=(q,Blk.var W (some b) (some (t,z,c)))
abbrev s2J(h:List (Nat×Blk)):St:=⟨180,[(1,.p 1 0),(2,.p 2 0)],h,[]⟩
abbrev skJ(i k j n:Nat)(h:List (Nat×Blk)):St:=⟨180,[(i,.v (vi k)),(1,.p 1 0),(2,.p 2 0),(j,.v (vi n))],h,[]⟩
theorem hR1{P:Program}{g:FuncId}{vs:List V}{e:TypeId}{es:List (List V)}(q n:Nat)(h:DenU P T g vs (lm e z es))(hl:es.length=n:=by exact vm _)(st:St)(K:St->Prop)(k:V->Option TypeId->Prop)(kn:Nat->List (List V)->Prop)(hn:Ab.look q st.h=none)(hq:q<st.n) 
  (hk:AllS n fun s=>Ab.retM (some q) K { st with h:=rowB q es.flatten e z s++st.h } (.v (sOpt n s))):Ab.Call P T g vs k kn (Ab.CallX P T g vs [] st (some q) K):=callR q n hl h hq hn hk
theorem jc9{P:Program}{x y:Code}{n:Nat}{t:List (Nat×TV)}{X Z:Nat×Blk}{A R:List (Nat×Blk)}{la lr:List Nat}{Q:AX->St->Prop} 
  (h1:∀E:AX->St->Prop,(∀(_:Unit) st,True->Ab.Sub P T ⟨n,t,X::Z::A,[]⟩ st->E .nm st)->aw P T x ⟨n,t,X::Z::A,[]⟩ E) (h2:aw P T y ⟨n,t,X::Z::(R++A),[]⟩ Q)
  (ha:Ids A la:=by exact cf _) (hr:Ids R lr:=by repeat (first|exact cf _|apply ez)) (hd:(la.all fun i=> !lr.contains i)=true:=by rfl) (hx:(lr.all fun i=>decide (i≠X.1) && decide (i≠Z.1))=true:=by rfl)
  (hw:okW [X,Z] t=true:=by rfl) (hw1:okW (X::Z::A) t=true:=by rfl):aw P T (.seq x y) ⟨n,t,X::Z::(A++R),[]⟩ Q:=by
 have hn:(lr.all fun i=>(Ab.look i (X::Z::A)).isNone)=true:=xi.2 fun i hi=>by
  have h3:=xi.1 hx i hi;simp only[vn,vq] at h3;rw[show X::Z::A=(X.1,X.2)::(Z.1,Z.2)::A from rfl,ae,vd h3.1,ae,vd h3.2];cases e:Ab.look i A with
  |none=>rfl
  |some k=>
   have:=xi.1 hd i (ha i k e).1;simp[hi] at this
 refine qdq ?_;refine jj5 (h1:=X::Z::A) .nm (fun _:Unit=>True) (fun _=>⟨n,t,X::Z::A,[]⟩) hr h1 (fun _ _=>?_) (fun _=>hn) hn hw1;exact xa8 (h1:=[X,Z]) ha hr h2 hd hw
structure CX where
 (sO sP sF sU sD sC sS sQ sA sK sM:Option (Nat×Nat))
def CX.ok(x:CX)(r:Rgs):Prop:=okB r.ofs.length x.sO/\okB r.pls.length x.sP/\okB r.fls.length x.sF/\okB r.rls.length x.sU/\okB r.hls.length x.sD/\okB r.cks.length x.sC/\okB r.sls.length x.sS/\okB r.pps.length x.sQ/\okB r.aps.length x.sA/\okB r.crs.length x.sK/\okB r.dps.length x.sM
abbrev CX.st(x:CX)(r:Rgs):St:=⟨180,[(2,.p 2 0)],(2,Blk.var [sOpt r.ofs.length x.sO,sOpt r.pls.length x.sP,sOpt r.fls.length x.sF,sOpt r.rls.length x.sU,sOpt r.hls.length x.sD,sOpt r.cks.length x.sC,sOpt r.sls.length x.sS,sOpt r.pps.length x.sQ,sOpt r.aps.length x.sA,sOpt r.crs.length x.sK,sOpt r.dps.length x.sM,vi r.chg])::((rAJ r x.sA)++((rMJ r x.sM)++((rUJ r x.sU)++((rDJ r x.sD)++((rCJ r x.sC)++((rOJ r x.sO)++((rPJ r x.sP)++((rFJ r x.sF)++((rSJ r x.sS)++((rQJ r x.sQ)++(rKJ r x.sK))))))))))),[]⟩
theorem clnW {p:Prop} (h:p:=by
  refine mi (ug .rt (fun x:CX=>x.ok r) (fun x=>x.st r) ?_) ?_
  .intro E hE;refine runD trivial ?_;apply fj (st':=(s2J ([(1,.var r.cs),z2J]))) ⟨[1,2],[1,2],[],[]⟩ rfl;refine lj .nm (fun(⟨sO,sP,sF⟩:N3J)=>okB r.ofs.length sO/\okB r.pls.length sP/\okB r.fls.length sF) (fun(⟨sO,sP,sF⟩:N3J)=>(s2J ((rbJ r (sOpt r.ofs.length sO) (sOpt r.pls.length sP) (sOpt r.fls.length sF))::z2J::((rOJ r sO)++((rPJ r sP)++(rFJ r sF)))))) ?_ ?_
   .intro E hE;refine aq jr9 ?_;refine ax ac ?_
    try simp only[vz,bn,xaq]
    apply viaA
    .have hX:=hR1 (T:=T) (hl:=vm _) 11 r.ofs.length (jsy r.ofs (h.ofs.1))
     repeat' (first|with_reducible apply yh|(intro hk;exact hX _ _ _ _ (by simp[ae,dk]) (by show (11:Nat)<180;decide) hk))
    try simp only[jai]
    intro sO hO;refine ax ac ?_
    try simp only[vz]
    apply viaA
    .have hX:=hR1 (T:=T) (hl:=vm _) 14 r.pls.length (qfs r.pls (h.pls.1))
     repeat' (first|with_reducible apply yh|(intro hk;exact hX _ _ _ _ ze5 (by show (14:Nat)<180;decide) hk))
    try simp only[jai]
    intro sP hP;refine ax ac ?_
    try simp only[xg,xa,vz,bn,bq,xaq]
    apply viaA
    .have hX:=hR1 (T:=T) (hl:=vm _) 17 r.fls.length (qfu r.fls (h.fls.1))
     repeat' (first|with_reducible apply yh|(intro hk;exact hX _ _ _ _ ze5 (by show (17:Nat)<180;decide) hk))
    try simp only
    intro sF hF;refine ax ac ?_
    try simp only[xg,xa,vz,bn,bq]
    repeat' (with_reducible refine ai ?_ ?_)
    all_goals refine hE ⟨sO,sP,sF⟩ _ ⟨hO,hP,hF⟩ ?_
    all_goals exact bu [1,2] [1,2] rfl rfl rfl (fun i k e=>jgt (cf _) (cf _) (cf _) i k e) rfl
   rintro⟨sO,sP,sF⟩ ⟨hO,hP,hF⟩
   show aw _ _ _ (s2J ((rbJ r (sOpt r.ofs.length sO) (sOpt r.pls.length sP) (sOpt r.fls.length sF))::z2J::((rOJ r sO)++((rPJ r sP)++(rFJ r sF))))) _
   refine jc9 ?_ ?_
   .intro E hE;rcases sO with _|⟨b,c⟩
    .show aw _ _ _ (s2J [(rbJ r n0J (sOpt r.pls.length sP) (sOpt r.fls.length sF)),z2J]) _
     refine runD ac ?_;refine loop ⟨[24,1,2,23],[1,2],[],[]⟩ (fun k:Nat=>k=0) (fun k=>k) (fun k=>(skJ 24 k 23 (0:Nat) ([(rbJ r n0J (sOpt r.pls.length sP) (sOpt r.fls.length sF)),z2J]))) 0 rfl ?_;exact zco
    obtain⟨hc1,hc2⟩:r.ofs.length<=c/\c<=maxLen:=hO;have hw:=ct (cs:=Ofc.cs) (z:=5) (fun _=>rfl) r.ofs;have hbig:r.ofs.length<=1048576:=h.ofs.1
    show aw _ _ _ (s2J [(rbJ r (svJ b r.ofs.length c) (sOpt r.pls.length sP) (sOpt r.fls.length sF)),z2J,(rqJ 11 (r.ofs.map Ofc.cs).flatten b 136 5 c)]) _
    refine runD ac ?_;refine loop ⟨[24,1,2,23],[1,2,11],[],[]⟩ (fun k:Nat=>k<=r.ofs.length) (fun k=>r.ofs.length-k) (fun k=>(skJ 24 k 23 r.ofs.length ([(rbJ r (svJ b r.ofs.length c) (sOpt r.pls.length sP) (sOpt r.fls.length sF)),z2J,(rqJ 11 (r.ofs.map Ofc.cs).flatten b 136 5 c)]))) 0 (vj _) ?_;intro k hk;by_cases hlt:k<r.ofs.length
    .obtain⟨o,hx,-,hm⟩:=af hlt;have g4:=om (cs:=Ofc.cs) (z:=5) (fun _=>rfl) hx (off:=4) rfl;have s4:=tx (cs:=Ofc.cs) (z:=5) (fun _=>rfl) hx (off:=4) rfl;obtain⟨W,hW⟩:∃W,(r.ofs.map Ofc.cs).flatten=W:=⟨_,rfl⟩;simp only[hW] at hw g4 s4 ⊢;refine runD (ai (ai g4 s4) (ai ed ac)) ?_;refine lj .nm (fun _:Unit=>True) (fun _=>(skJ 24 k 23 r.ofs.length ([(rbJ r (svJ b r.ofs.length c) (sOpt r.pls.length sP) (sOpt r.fls.length sF)),z2J,(rqJ 11 W b 136 5 c)]))) ?_ ?_
     .intro E1 hE1;refine aq jfe ?_;refine ax (ai (ai g4 s4) (ai ed ac)) ?_
      try simp only[xa]
      apply viaA
      .have hX:=fun k kn m h0=>call (T:=T) (k:=k) (kn:=kn) (m:=m) (rp o.nxt (h.ofs.2 o hm).2).den h0
       repeat' (first|with_reducible apply yh|exact hX _ _ _)
      refine ax (ai (ai g4 s4) (ai ed ac)) ?_
      try simp only[xg,xa,vz,bn,bq]
      repeat' (with_reducible refine ai ?_ ?_)
      all_goals refine hE1 () _ trivial ?_
      all_goals exact bu [1,2,11] [24,1,2,23] rfl rfl rfl (fun _ _ e=>e) rfl
     intro _ _
     show aw _ _ _ (skJ 24 k 23 r.ofs.length ([(rbJ r (svJ b r.ofs.length c) (sOpt r.pls.length sP) (sOpt r.fls.length sF)),z2J,(rqJ 11 W b 136 5 c)])) _
     exact zdf
    have hk2:k=r.ofs.length:=omq;subst hk2;exact zb
   simp only[xb];refine jc9 ?_ ?_
   .intro E hE;rcases sP with _|⟨b,c⟩
    .show aw _ _ _ (s2J [(rbJ r (sOpt r.ofs.length sO) n0J (sOpt r.fls.length sF)),z2J]) _
     refine runD ac ?_;refine loop ⟨[43,1,2,42],[1,2],[],[]⟩ (fun k:Nat=>k=0) (fun k=>k) (fun k=>(skJ 43 k 42 (0:Nat) ([(rbJ r (sOpt r.ofs.length sO) n0J (sOpt r.fls.length sF)),z2J]))) 0 rfl ?_;exact zco
    obtain⟨hc1,hc2⟩:r.pls.length<=c/\c<=maxLen:=hP;have hw:=ct (cs:=Plan.cs) (z:=5) (fun _=>rfl) r.pls;have hbig:r.pls.length<=1048576:=h.pls.1
    show aw _ _ _ (s2J [(rbJ r (sOpt r.ofs.length sO) (svJ b r.pls.length c) (sOpt r.fls.length sF)),z2J,(rqJ 14 (r.pls.map Plan.cs).flatten b 140 5 c)]) _
    refine runD ac ?_;refine loop ⟨[43,1,2,42],[1,2,14],[],[]⟩ (fun k:Nat=>k<=r.pls.length) (fun k=>r.pls.length-k) (fun k=>(skJ 43 k 42 r.pls.length ([(rbJ r (sOpt r.ofs.length sO) (svJ b r.pls.length c) (sOpt r.fls.length sF)),z2J,(rqJ 14 (r.pls.map Plan.cs).flatten b 140 5 c)]))) 0 (vj _) ?_;intro k hk;by_cases hlt:k<r.pls.length
    .obtain⟨p,hx,-,hm⟩:=af hlt;have g3:=om (cs:=Plan.cs) (z:=5) (fun _=>rfl) hx (off:=3) rfl;have s3:=tx (cs:=Plan.cs) (z:=5) (fun _=>rfl) hx (off:=3) rfl;have g4:=om (cs:=Plan.cs) (z:=5) (fun _=>rfl) hx (off:=4) rfl;have s4:=tx (cs:=Plan.cs) (z:=5) (fun _=>rfl) hx (off:=4) rfl;have q3:=s3;rw[show k*5+3+1=k*5+4 from rfl,g4] at q3;obtain⟨W,hW⟩:∃W,(r.pls.map Plan.cs).flatten=W:=⟨_,rfl⟩;simp only[hW] at hw g3 s3 g4 s4 q3 ⊢;refine runD (ai (ai g3 (ai s3 (ai g4 (ai s4 q3)))) (ai ed ac)) ?_;refine lj .nm (fun _:Unit=>True) (fun _=>(skJ 43 k 42 r.pls.length ([(rbJ r (sOpt r.ofs.length sO) (svJ b r.pls.length c) (sOpt r.fls.length sF)),z2J,(rqJ 14 W b 140 5 c)]))) ?_ ?_
     .intro E1 hE1;refine aq qzj ?_;refine ax (ai (ai g3 (ai s3 (ai g4 (ai s4 q3)))) (ai ed ac)) ?_
      try simp only[xa,vz,bn,bq,xaq]
      apply viaA
      .have hX:=fun k kn m h0=>call (T:=T) (k:=k) (kn:=kn) (m:=m) (qi2 p.cls (h.pls.2 p hm).1).den h0
       repeat' (first|with_reducible apply yh|exact hX _ _ _)
      refine ax (ai (ai g3 (ai s3 (ai g4 (ai s4 q3)))) (ai ed ac)) ?_
      try simp only[xg,xa,bq,xaq]
      apply viaA
      .have hX:=fun k kn m h0=>call (T:=T) (k:=k) (kn:=kn) (m:=m) (qi1 p.mov (h.pls.2 p hm).2.1).den h0
       repeat' (first|with_reducible apply yh|exact hX _ _ _)
      refine ax (ai (ai g3 (ai s3 (ai g4 (ai s4 q3)))) (ai ed ac)) ?_
      try simp only[xg,xa,vz,bn,bq]
      repeat' (with_reducible refine ai ?_ ?_)
      all_goals refine hE1 () _ trivial ?_
      all_goals exact bu [1,2,14] [43,1,2,42] rfl rfl rfl (fun _ _ e=>e) rfl
     intro _ _
     show aw _ _ _ (skJ 43 k 42 r.pls.length ([(rbJ r (sOpt r.ofs.length sO) (svJ b r.pls.length c) (sOpt r.fls.length sF)),z2J,(rqJ 14 W b 140 5 c)])) _
     exact zdf
    have hk2:k=r.pls.length:=omq;subst hk2;exact zb
   simp only[xb];refine jc9 ?_ ?_
   .intro E hE;rcases sF with _|⟨b,c⟩
    .show aw _ _ _ (s2J [(rbJ r (sOpt r.ofs.length sO) (sOpt r.pls.length sP) n0J),z2J]) _
     refine runD ac ?_;refine loop ⟨[74,1,2,73],[1,2],[],[]⟩ (fun k:Nat=>k=0) (fun k=>k) (fun k=>(skJ 74 k 73 (0:Nat) ([(rbJ r (sOpt r.ofs.length sO) (sOpt r.pls.length sP) n0J),z2J]))) 0 rfl ?_;exact zco
    obtain⟨hc1,hc2⟩:r.fls.length<=c/\c<=maxLen:=hF;have hw:=ct (cs:=Fil.cs) (z:=8) (fun _=>rfl) r.fls;have hbig:r.fls.length<=1048576:=h.fls.1
    show aw _ _ _ (s2J [(rbJ r (sOpt r.ofs.length sO) (sOpt r.pls.length sP) (svJ b r.fls.length c)),z2J,(rqJ 17 (r.fls.map Fil.cs).flatten b 52 8 c)]) _
    refine runD ac ?_;refine loop ⟨[74,1,2,73],[1,2,17],[],[]⟩ (fun k:Nat=>k<=r.fls.length) (fun k=>r.fls.length-k) (fun k=>(skJ 74 k 73 r.fls.length ([(rbJ r (sOpt r.ofs.length sO) (sOpt r.pls.length sP) (svJ b r.fls.length c)),z2J,(rqJ 17 (r.fls.map Fil.cs).flatten b 52 8 c)]))) 0 (vj _) ?_;intro k hk;by_cases hlt:k<r.fls.length
    .obtain⟨f,hx,-,hm⟩:=af hlt;have g7:=om (cs:=Fil.cs) (z:=8) (fun _=>rfl) hx (off:=7) rfl;have s7:=tx (cs:=Fil.cs) (z:=8) (fun _=>rfl) hx (off:=7) rfl;obtain⟨W,hW⟩:∃W,(r.fls.map Fil.cs).flatten=W:=⟨_,rfl⟩;simp only[hW] at hw g7 s7 ⊢;refine runD (ai (ai g7 s7) (ai ed ac)) ?_;refine lj .nm (fun _:Unit=>True) (fun _=>(skJ 74 k 73 r.fls.length ([(rbJ r (sOpt r.ofs.length sO) (sOpt r.pls.length sP) (svJ b r.fls.length c)),z2J,(rqJ 17 W b 52 8 c)]))) ?_ ?_
     .intro E1 hE1;refine aq jfe ?_;refine ax (ai (ai g7 s7) (ai ed ac)) ?_
      try simp only[xa]
      apply viaA
      .have hX:=fun k kn m h0=>call (T:=T) (k:=k) (kn:=kn) (m:=m) (jdf f.nts (h.fls.2 f hm).2.2.1).den h0
       repeat' (first|with_reducible apply yh|exact hX _ _ _)
      refine ax (ai (ai g7 s7) (ai ed ac)) ?_
      try simp only[xg,xa,vz,bn,bq]
      repeat' (with_reducible refine ai ?_ ?_)
      all_goals refine hE1 () _ trivial ?_
      all_goals exact bu [1,2,17] [74,1,2,73] rfl rfl rfl (fun _ _ e=>e) rfl
     intro _ _
     show aw _ _ _ (skJ 74 k 73 r.fls.length ([(rbJ r (sOpt r.ofs.length sO) (sOpt r.pls.length sP) (svJ b r.fls.length c)),z2J,(rqJ 17 W b 52 8 c)])) _
     exact zdf
    have hk2:k=r.fls.length:=omq;subst hk2;exact zb
   simp only[xb];refine runD trivial ?_
   show aw _ _ _ (St.mk 180 _ ([(rbJ r (sOpt r.ofs.length sO) (sOpt r.pls.length sP) (sOpt r.fls.length sF)),z2J]++((rOJ r sO)++((rPJ r sP)++(rFJ r sF)))) []) _
   refine jj5 .nm (fun(⟨sU,sD,sC⟩:N3J)=>okB r.rls.length sU/\okB r.hls.length sD/\okB r.cks.length sC) (fun(⟨sU,sD,sC⟩:N3J)=>(s2J ((rcJ r sO sP sF sU sD sC (sels r.sls) (prps r.pps) (crts r.crs))::z2J::((rUJ r sU)++((rDJ r sD)++(rCJ r sC)))))) (ez (cf (q:=11) _) (ez (cf (q:=14) _) (cf (q:=17) _))) (h1:=[(rbJ r (sOpt r.ofs.length sO) (sOpt r.pls.length sP) (sOpt r.fls.length sF)),z2J]) ?_ ?_ (fun⟨sU,sD,sC⟩=>by cases sU<;>cases sD<;>cases sC<;>rfl) rfl
   .intro E hE;refine aq jr9 ?_;refine ax ac ?_
    try simp only[vz,bn,xaq]
    apply viaA
    .have hX:=hR1 (T:=T) (hl:=vm _) 92 r.rls.length (qfq r.rls (h.rls.1))
     repeat' (first|with_reducible apply yh|(intro hk;exact hX _ _ _ _ (by simp[ae,dk]) (by show (92:Nat)<180;decide) hk))
    try simp only[jai]
    intro sU hU;refine ax ac ?_
    try simp only[vz]
    apply viaA
    .have hX:=hR1 (T:=T) (hl:=vm _) 95 r.hls.length (qft r.hls (h.hls.1))
     repeat' (first|with_reducible apply yh|(intro hk;exact hX _ _ _ _ ze5 (by show (95:Nat)<180;decide) hk))
    try simp only[jai]
    intro sD hD;refine ax ac ?_
    try simp only[xg,xa,vz,bn,bq,xaq]
    apply viaA
    .have hX:=hR1 (T:=T) (hl:=vm _) 98 r.cks.length (qfx r.cks (h.cks.1))
     repeat' (first|with_reducible apply yh|(intro hk;exact hX _ _ _ _ ze5 (by show (98:Nat)<180;decide) hk))
    try simp only
    intro sC hC;refine ax ac ?_
    try simp only[xg,xa,vz,bn,bq]
    repeat' (with_reducible refine ai ?_ ?_)
    all_goals refine hE ⟨sU,sD,sC⟩ _ ⟨hU,hD,hC⟩ ?_
    all_goals exact bu [1,2] [1,2] rfl rfl rfl (fun i k e=>jgt (cf _) (cf _) (cf _) i k e) rfl
   rintro⟨sU,sD,sC⟩ ⟨hU,hD,hC⟩
   show aw _ _ _ (s2J (((rcJ r sO sP sF sU sD sC (sels r.sls) (prps r.pps) (crts r.crs))::z2J::((rUJ r sU)++((rDJ r sD)++(rCJ r sC))))++((rOJ r sO)++((rPJ r sP)++(rFJ r sF))))) _
   refine jrm (h':=(rcJ r sO sP sF sU sD sC (sels r.sls) (prps r.pps) (crts r.crs))::z2J::((rUJ r sU)++((rDJ r sD)++((rCJ r sC)++((rOJ r sO)++((rPJ r sP)++(rFJ r sF))))))) ze1 ?_;refine runD trivial ?_
   show aw _ _ _ (St.mk 180 _ ([(rcJ r sO sP sF sU sD sC (sels r.sls) (prps r.pps) (crts r.crs)),z2J]++((rUJ r sU)++((rDJ r sD)++((rCJ r sC)++((rOJ r sO)++((rPJ r sP)++(rFJ r sF))))))) []) _
   refine jj5 .nm (fun(⟨sS,sQ,sK⟩:N3J)=>okB r.sls.length sS/\okB r.pps.length sQ/\okB r.crs.length sK) (fun(⟨sS,sQ,sK⟩:N3J)=>(s2J ((rcJ r sO sP sF sU sD sC (sOpt r.sls.length sS) (sOpt r.pps.length sQ) (sOpt r.crs.length sK))::z2J::((rSJ r sS)++((rQJ r sQ)++(rKJ r sK)))))) (ez (cf (q:=92) _) (ez (cf (q:=95) _) (ez (cf (q:=98) _) (ez (cf (q:=11) _) (ez (cf (q:=14) _) (cf (q:=17) _)))))) (h1:=[(rcJ r sO sP sF sU sD sC (sels r.sls) (prps r.pps) (crts r.crs)),z2J]) ?_ ?_ (fun⟨sS,sQ,sK⟩=>by cases sS<;>cases sQ<;>cases sK<;>rfl) rfl
   .intro E hE;refine aq jr9 ?_;refine ax ac ?_
    try simp only[vz,bn,xaq]
    apply viaA
    .have hX:=hR1 (T:=T) (hl:=vm _) 104 r.sls.length (qfp r.sls (h.sls.1))
     repeat' (first|with_reducible apply yh|(intro hk;exact hX _ _ _ _ (by simp[ae,dk]) (by show (104:Nat)<180;decide) hk))
    try simp only[jai]
    intro sS hS;refine ax ac ?_
    try simp only[vz]
    apply viaA
    .have hX:=hR1 (T:=T) (hl:=vm _) 107 r.pps.length (qfr r.pps (h.pps.1))
     repeat' (first|with_reducible apply yh|(intro hk;exact hX _ _ _ _ ze5 (by show (107:Nat)<180;decide) hk))
    try simp only[jai]
    intro sQ hQ;refine ax ac ?_
    try simp only[xg,xa,vz,bn,bq,xaq]
    apply viaA
    .have hX:=hR1 (T:=T) (hl:=vm _) 110 r.crs.length (qfw r.crs (h.crs.1))
     repeat' (first|with_reducible apply yh|(intro hk;exact hX _ _ _ _ ze5 (by show (110:Nat)<180;decide) hk))
    try simp only
    intro sK hK;refine ax ac ?_
    try simp only[xg,xa,vz,bn,bq]
    repeat' (with_reducible refine ai ?_ ?_)
    all_goals refine hE ⟨sS,sQ,sK⟩ _ ⟨hS,hQ,hK⟩ ?_
    all_goals exact bu [1,2] [1,2] rfl rfl rfl (fun i k e=>jgt (cf _) (cf _) (cf _) i k e) rfl
   rintro⟨sS,sQ,sK⟩ ⟨hS,hQ,hK⟩
   show aw _ _ _ (s2J (((rcJ r sO sP sF sU sD sC (sOpt r.sls.length sS) (sOpt r.pps.length sQ) (sOpt r.crs.length sK))::z2J::((rSJ r sS)++((rQJ r sQ)++(rKJ r sK))))++((rUJ r sU)++((rDJ r sD)++((rCJ r sC)++((rOJ r sO)++((rPJ r sP)++(rFJ r sF)))))))) _
   refine jrm (h':=(rcJ r sO sP sF sU sD sC (sOpt r.sls.length sS) (sOpt r.pps.length sQ) (sOpt r.crs.length sK))::z2J::((rSJ r sS)++((rQJ r sQ)++((rKJ r sK)++((rUJ r sU)++((rDJ r sD)++((rCJ r sC)++((rOJ r sO)++((rPJ r sP)++(rFJ r sF)))))))))) ze1 ?_;refine jc9 ?_ ?_
   .intro E hE;rcases sS with _|⟨b,c⟩
    .show aw _ _ _ (s2J [(rcJ r sO sP sF sU sD sC n0J (sOpt r.pps.length sQ) (sOpt r.crs.length sK)),z2J]) _
     refine runD ac ?_;refine loop ⟨[117,1,2,116],[1,2],[],[]⟩ (fun k:Nat=>k=0) (fun k=>k) (fun k=>(skJ 117 k 116 (0:Nat) ([(rcJ r sO sP sF sU sD sC n0J (sOpt r.pps.length sQ) (sOpt r.crs.length sK)),z2J]))) 0 rfl ?_;exact zco
    obtain⟨hc1,hc2⟩:r.sls.length<=c/\c<=maxLen:=hS;have hw:=ct (cs:=Sel.cs) (z:=3) (fun _=>rfl) r.sls;have hbig:r.sls.length<=1048576:=h.sls.1
    show aw _ _ _ (s2J [(rcJ r sO sP sF sU sD sC (svJ b r.sls.length c) (sOpt r.pps.length sQ) (sOpt r.crs.length sK)),z2J,(rqJ 104 (r.sls.map Sel.cs).flatten b 149 3 c)]) _
    refine runD ac ?_;refine loop ⟨[117,1,2,116],[1,2,104],[],[]⟩ (fun k:Nat=>k<=r.sls.length) (fun k=>r.sls.length-k) (fun k=>(skJ 117 k 116 r.sls.length ([(rcJ r sO sP sF sU sD sC (svJ b r.sls.length c) (sOpt r.pps.length sQ) (sOpt r.crs.length sK)),z2J,(rqJ 104 (r.sls.map Sel.cs).flatten b 149 3 c)]))) 0 (vj _) ?_;intro k hk;by_cases hlt:k<r.sls.length
    .obtain⟨s,hx,-,hm⟩:=af hlt;have g2:=om (cs:=Sel.cs) (z:=3) (fun _=>rfl) hx (off:=2) rfl;have s2J:=tx (cs:=Sel.cs) (z:=3) (fun _=>rfl) hx (off:=2) rfl;obtain⟨W,hW⟩:∃W,(r.sls.map Sel.cs).flatten=W:=⟨_,rfl⟩;simp only[hW] at hw g2 s2J ⊢;refine runD (ai (ai g2 s2J) (ai ed ac)) ?_;refine lj .nm (fun _:Unit=>True) (fun _=>(skJ 117 k 116 r.sls.length ([(rcJ r sO sP sF sU sD sC (svJ b r.sls.length c) (sOpt r.pps.length sQ) (sOpt r.crs.length sK)),z2J,(rqJ 104 W b 149 3 c)]))) ?_ ?_
     .intro E1 hE1;refine aq jfe ?_;refine ax (ai (ai g2 s2J) (ai ed ac)) ?_
      try simp only[xa]
      apply viaA
      .have hX:=fun k kn m h0=>call (T:=T) (k:=k) (kn:=kn) (m:=m) (rp s.fls (h.sls.2 s hm)).den h0
       repeat' (first|with_reducible apply yh|exact hX _ _ _)
      refine ax (ai (ai g2 s2J) (ai ed ac)) ?_
      try simp only[xg,xa,vz,bn,bq]
      repeat' (with_reducible refine ai ?_ ?_)
      all_goals refine hE1 () _ trivial ?_
      all_goals exact bu [1,2,104] [117,1,2,116] rfl rfl rfl (fun _ _ e=>e) rfl
     intro _ _
     show aw _ _ _ (skJ 117 k 116 r.sls.length ([(rcJ r sO sP sF sU sD sC (svJ b r.sls.length c) (sOpt r.pps.length sQ) (sOpt r.crs.length sK)),z2J,(rqJ 104 W b 149 3 c)])) _
     exact zdf
    have hk2:k=r.sls.length:=omq;subst hk2;exact zb
   simp only[xb];refine jc9 ?_ ?_
   .intro E hE;rcases sQ with _|⟨b,c⟩
    .show aw _ _ _ (s2J [(rcJ r sO sP sF sU sD sC (sOpt r.sls.length sS) n0J (sOpt r.crs.length sK)),z2J]) _
     refine runD ac ?_;refine loop ⟨[136,1,2,135],[1,2],[],[]⟩ (fun k:Nat=>k=0) (fun k=>k) (fun k=>(skJ 136 k 135 (0:Nat) ([(rcJ r sO sP sF sU sD sC (sOpt r.sls.length sS) n0J (sOpt r.crs.length sK)),z2J]))) 0 rfl ?_;exact zco
    obtain⟨hc1,hc2⟩:r.pps.length<=c/\c<=maxLen:=hQ;have hw:=ct (cs:=Prp.cs) (z:=5) (fun _=>rfl) r.pps;have hbig:r.pps.length<=1048576:=h.pps.1
    show aw _ _ _ (s2J [(rcJ r sO sP sF sU sD sC (sOpt r.sls.length sS) (svJ b r.pps.length c) (sOpt r.crs.length sK)),z2J,(rqJ 107 (r.pps.map Prp.cs).flatten b 151 5 c)]) _
    refine runD ac ?_;refine loop ⟨[136,1,2,135],[1,2,107],[],[]⟩ (fun k:Nat=>k<=r.pps.length) (fun k=>r.pps.length-k) (fun k=>(skJ 136 k 135 r.pps.length ([(rcJ r sO sP sF sU sD sC (sOpt r.sls.length sS) (svJ b r.pps.length c) (sOpt r.crs.length sK)),z2J,(rqJ 107 (r.pps.map Prp.cs).flatten b 151 5 c)]))) 0 (vj _) ?_;intro k hk;by_cases hlt:k<r.pps.length
    .obtain⟨q,hx,-,hm⟩:=af hlt;have g3:=om (cs:=Prp.cs) (z:=5) (fun _=>rfl) hx (off:=3) rfl;have s3:=tx (cs:=Prp.cs) (z:=5) (fun _=>rfl) hx (off:=3) rfl;obtain⟨W,hW⟩:∃W,(r.pps.map Prp.cs).flatten=W:=⟨_,rfl⟩;simp only[hW] at hw g3 s3 ⊢;refine runD (ai (ai g3 s3) (ai ed ac)) ?_;refine lj .nm (fun _:Unit=>True) (fun _=>(skJ 136 k 135 r.pps.length ([(rcJ r sO sP sF sU sD sC (sOpt r.sls.length sS) (svJ b r.pps.length c) (sOpt r.crs.length sK)),z2J,(rqJ 107 W b 151 5 c)]))) ?_ ?_
     .intro E1 hE1;refine aq jfe ?_;refine ax (ai (ai g3 s3) (ai ed ac)) ?_
      try simp only[xa]
      apply viaA
      .have hX:=fun k kn m h0=>call (T:=T) (k:=k) (kn:=kn) (m:=m) (rp q.fls (h.pps.2 q hm)).den h0
       repeat' (first|with_reducible apply yh|exact hX _ _ _)
      refine ax (ai (ai g3 s3) (ai ed ac)) ?_
      try simp only[xg,xa,vz,bn,bq]
      repeat' (with_reducible refine ai ?_ ?_)
      all_goals refine hE1 () _ trivial ?_
      all_goals exact bu [1,2,107] [136,1,2,135] rfl rfl rfl (fun _ _ e=>e) rfl
     intro _ _
     show aw _ _ _ (skJ 136 k 135 r.pps.length ([(rcJ r sO sP sF sU sD sC (sOpt r.sls.length sS) (svJ b r.pps.length c) (sOpt r.crs.length sK)),z2J,(rqJ 107 W b 151 5 c)])) _
     exact zdf
    have hk2:k=r.pps.length:=omq;subst hk2;exact zb
   simp only[xb];refine jc9 ?_ ?_
   .intro E hE;rcases sK with _|⟨b,c⟩
    .show aw _ _ _ (s2J [(rcJ r sO sP sF sU sD sC (sOpt r.sls.length sS) (sOpt r.pps.length sQ) n0J),z2J]) _
     refine runD ac ?_;refine loop ⟨[155,1,2,154],[1,2],[],[]⟩ (fun k:Nat=>k=0) (fun k=>k) (fun k=>(skJ 155 k 154 (0:Nat) ([(rcJ r sO sP sF sU sD sC (sOpt r.sls.length sS) (sOpt r.pps.length sQ) n0J),z2J]))) 0 rfl ?_;exact zco
    obtain⟨hc1,hc2⟩:r.crs.length<=c/\c<=maxLen:=hK;have hw:=ct (cs:=Crt.cs) (z:=6) (fun _=>rfl) r.crs;have hbig:r.crs.length<=1048576:=h.crs.1
    show aw _ _ _ (s2J [(rcJ r sO sP sF sU sD sC (sOpt r.sls.length sS) (sOpt r.pps.length sQ) (svJ b r.crs.length c)),z2J,(rqJ 110 (r.crs.map Crt.cs).flatten b 48 6 c)]) _
    refine runD ac ?_;refine loop ⟨[155,1,2,154],[1,2,110],[],[]⟩ (fun k:Nat=>k<=r.crs.length) (fun k=>r.crs.length-k) (fun k=>(skJ 155 k 154 r.crs.length ([(rcJ r sO sP sF sU sD sC (sOpt r.sls.length sS) (sOpt r.pps.length sQ) (svJ b r.crs.length c)),z2J,(rqJ 110 (r.crs.map Crt.cs).flatten b 48 6 c)]))) 0 (vj _) ?_;intro k hk;by_cases hlt:k<r.crs.length
    .obtain⟨y,hx,-,hm⟩:=af hlt;have g3:=om (cs:=Crt.cs) (z:=6) (fun _=>rfl) hx (off:=3) rfl;have s3:=tx (cs:=Crt.cs) (z:=6) (fun _=>rfl) hx (off:=3) rfl;obtain⟨W,hW⟩:∃W,(r.crs.map Crt.cs).flatten=W:=⟨_,rfl⟩;simp only[hW] at hw g3 s3 ⊢;refine runD (ai (ai g3 s3) (ai ed ac)) ?_;refine lj .nm (fun _:Unit=>True) (fun _=>(skJ 155 k 154 r.crs.length ([(rcJ r sO sP sF sU sD sC (sOpt r.sls.length sS) (sOpt r.pps.length sQ) (svJ b r.crs.length c)),z2J,(rqJ 110 W b 48 6 c)]))) ?_ ?_
     .intro E1 hE1;refine aq jfe ?_;refine ax (ai (ai g3 s3) (ai ed ac)) ?_
      try simp only[xa]
      apply viaA
      .have hX:=fun k kn m h0=>call (T:=T) (k:=k) (kn:=kn) (m:=m) (rp y.fls (h.crs.2 y hm).1).den h0
       repeat' (first|with_reducible apply yh|exact hX _ _ _)
      refine ax (ai (ai g3 s3) (ai ed ac)) ?_
      try simp only[xg,xa,vz,bn,bq]
      repeat' (with_reducible refine ai ?_ ?_)
      all_goals refine hE1 () _ trivial ?_
      all_goals exact bu [1,2,110] [155,1,2,154] rfl rfl rfl (fun _ _ e=>e) rfl
     intro _ _
     show aw _ _ _ (skJ 155 k 154 r.crs.length ([(rcJ r sO sP sF sU sD sC (sOpt r.sls.length sS) (sOpt r.pps.length sQ) (svJ b r.crs.length c)),z2J,(rqJ 110 W b 48 6 c)])) _
     exact zdf
    have hk2:k=r.crs.length:=omq;subst hk2;exact zb
   simp only[xb];refine runD trivial ?_
   show aw _ _ _ (St.mk 180 _ ([(rcJ r sO sP sF sU sD sC (sOpt r.sls.length sS) (sOpt r.pps.length sQ) (sOpt r.crs.length sK)),z2J]++((rUJ r sU)++((rDJ r sD)++((rCJ r sC)++((rOJ r sO)++((rPJ r sP)++((rFJ r sF)++((rSJ r sS)++((rQJ r sQ)++(rKJ r sK)))))))))) []) _
   refine jj5 .nm (fun(⟨sA,sM⟩:Option (Nat×Nat)×Option (Nat×Nat))=>okB r.aps.length sA/\okB r.dps.length sM) (fun(⟨sA,sM⟩:Option (Nat×Nat)×Option (Nat×Nat))=>(s2J ((1,Blk.var [sOpt r.ofs.length sO,sOpt r.pls.length sP,sOpt r.fls.length sF,sOpt r.rls.length sU,sOpt r.hls.length sD,sOpt r.cks.length sC,sOpt r.sls.length sS,sOpt r.pps.length sQ,sOpt r.aps.length sA,sOpt r.crs.length sK,sOpt r.dps.length sM,vi r.chg])::z2J::((rAJ r sA)++(rMJ r sM))))) (ez (cf (q:=92) _) (ez (cf (q:=95) _) (ez (cf (q:=98) _) (ez (cf (q:=11) _) (ez (cf (q:=14) _) (ez (cf (q:=17) _) (ez (cf (q:=104) _) (ez (cf (q:=107) _) (cf (q:=110) _))))))))) (h1:=[(rcJ r sO sP sF sU sD sC (sOpt r.sls.length sS) (sOpt r.pps.length sQ) (sOpt r.crs.length sK)),z2J]) ?_ ?_ (fun⟨sA,sM⟩=>by cases sA<;>cases sM<;>rfl) rfl
   .intro E hE;refine aq qzi ?_;refine ax ac ?_
    try simp only[vz]
    apply viaA
    .have hX:=hR1 (T:=T) (hl:=vm _) 173 r.aps.length (qfy r.aps (h.aps))
     repeat' (first|with_reducible apply yh|(intro hk;exact hX _ _ _ _ (by simp[ae,dk]) (by show (173:Nat)<180;decide) hk))
    try simp only[jai]
    intro sA hA;refine ax ac ?_
    try simp only[xg,xa,vz,bn,bq,xaq]
    apply viaA
    .have hX:=hR1 (T:=T) (hl:=vm _) 176 r.dps.length (qfv r.dps (h.dps))
     repeat' (first|with_reducible apply yh|(intro hk;exact hX _ _ _ _ ze5 (by show (176:Nat)<180;decide) hk))
    try simp only
    intro sM hM;refine ax ac ?_
    try simp only[xg,xa,vz,bn,bq]
    repeat' (with_reducible refine ai ?_ ?_)
    all_goals refine hE ⟨sA,sM⟩ _ ⟨hA,hM⟩ ?_
    all_goals exact bu [1,2] [1,2] rfl rfl rfl (fun i k e=>qj1 (cf _) (cf _) i k e) rfl
   rintro⟨sA,sM⟩ ⟨hA,hM⟩
   show aw _ _ _ (s2J (((1,Blk.var [sOpt r.ofs.length sO,sOpt r.pls.length sP,sOpt r.fls.length sF,sOpt r.rls.length sU,sOpt r.hls.length sD,sOpt r.cks.length sC,sOpt r.sls.length sS,sOpt r.pps.length sQ,sOpt r.aps.length sA,sOpt r.crs.length sK,sOpt r.dps.length sM,vi r.chg])::z2J::((rAJ r sA)++(rMJ r sM)))++((rUJ r sU)++((rDJ r sD)++((rCJ r sC)++((rOJ r sO)++((rPJ r sP)++((rFJ r sF)++((rSJ r sS)++((rQJ r sQ)++(rKJ r sK))))))))))) _
   refine jrm (h':=(1,Blk.var [sOpt r.ofs.length sO,sOpt r.pls.length sP,sOpt r.fls.length sF,sOpt r.rls.length sU,sOpt r.hls.length sD,sOpt r.cks.length sC,sOpt r.sls.length sS,sOpt r.pps.length sQ,sOpt r.aps.length sA,sOpt r.crs.length sK,sOpt r.dps.length sM,vi r.chg])::z2J::((rAJ r sA)++((rMJ r sM)++((rUJ r sU)++((rDJ r sD)++((rCJ r sC)++((rOJ r sO)++((rPJ r sP)++((rFJ r sF)++((rSJ r sS)++((rQJ r sQ)++(rKJ r sK)))))))))))) ze1 ?_;have hz:zc12.length=12/\zc12.drop 12=[]/\∀v:List V,zc12.take 0++v++zc12.drop 12=v:=⟨rfl,rfl,fun v=>xd v⟩;refine runD hz ?_;refine hE ⟨sO,sP,sF,sU,sD,sC,sS,sQ,sA,sK,sM⟩ _ ⟨hO,hP,hF,hU,hD,hC,hS,hQ,hA,hK,hM⟩ ?_;exact bu [2] [2] rfl rfl rfl (fun id k e=>qmz (by simp[ae,qc,qje]) e) rfl
  .rintro M F0 w0 F ρ st' a w e S ⟨rfl,x,hx,hs⟩;obtain⟨F',ρ',hs',S',f,h1,h2⟩:=hP x hx M F0 w0 F ρ a w (hs _ _ _ _ _ _ _ S);refine⟨F',ρ',_,S',_,_,fe ?_,.refl _,h2⟩
   show (memV hs' 2 0).bind _=_
   unfold memV;rw[h1]
   rfl):p:=h
theorem jk3 (r : Rgs) (h : r.Fit) (Post : Option Blk -> V -> Prop) (hP : ∀ x : CX,x.ok r -> ∀ (M : Nat -> Prop) (F0 : Frz) (w0 : World) (F : Frz) (ρ : Nat -> Nat) (a : Act) (w : World),SimS prog T M F0 w0 F ρ (x.st r) a w ->
      ∃F' ρ' hs,SimS prog T M F0 w0 F' ρ' ⟨180,[(2,.p 2 0)],hs,[]⟩ a w/\∃f:Nat->V,Ab.look 2 hs=some (.var [f 0,f 1,f 2,f 3,f 4,f 5,f 6,f 7,f 8,f 9,f 10,vi r.chg])/\
        (Post none (.agg [f 0,f 1,f 2,f 3,f 4,f 5,f 6,f 7,f 8,f 9,f 10,vi r.chg])\/∃id k b,Ab.look id hs=some k/\k.nm=some b/\Post (some k) (.agg [f 0,f 1,f 2,f 3,f 4,f 5,f 6,f 7,f 8,f 9,f 10,vi r.chg]))):
    DenU prog T 296 [.agg r.cs] Post:=by
  refine jp follows (fun args w=>call296 args w) func296 rfl 180 rfl ?_;exact clnW
end Go.Arc
