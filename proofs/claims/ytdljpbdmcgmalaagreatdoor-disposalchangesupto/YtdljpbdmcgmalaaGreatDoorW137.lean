/- A part of this claim. -/
import Derived.Test.YtdljpbdmcgmalaaGreatDoorBaQ
set_option maxRecDepth 100000
namespace Go.Arc
open Go.Ab Go.RowKit Go.Proofs Tryz
variable {T : Lay}
theorem row_nth {α:Type} {cs:α->List V} {z:Nat} (hz:∀x,(cs x).length=z) {l:List α} {k:Nat} {x:α} (h:l[k]? = some x) {off:Nat} {v:V} (hv:(cs x)[off]? = some v):((l.map cs).flatten)[k*z+off]? = some v:=by
 obtain ⟨A,B,h1,h2,-⟩:=row_at hz h;have hlt:=(gsi.1 hv).1;rw[h1,List.getElem?_append_right om,h2,Nat.add_sub_cancel_left,List.getElem?_append_left hlt];exact hv
theorem jhv {α:Type} {cs:α->List V} {z:Nat} (hz:∀x,(cs x).length=z) {l:List α} {k:Nat} {x:α} (h:l[k]? = some x) {off:Nat} {v:V} (hv:(cs x)[off]? = some v):((l.map cs).flatten).drop (k*z+off)=v::((l.map cs).flatten).drop (k*z+off+1):=by
 obtain ⟨hlt,rfl⟩:=gsi.1 (row_nth hz h hv);exact List.drop_eq_getElem_cons hlt
theorem jim {α:Type} {cs:α->List V} {z:Nat} (hz:∀x,(cs x).length=z) {l:List α} {k:Nat} {x:α} (h:l[k]? = some x) {off:Nat} {v:V} (hv:(cs x)[off]? = some v):((l.map cs).flatten).take (k*z+off)++[v]++((l.map cs).flatten).drop (k*z+off+1)=(l.map cs).flatten:=by
 rw[List.append_assoc,List.singleton_append,<- jhv hz h hv,List.take_append_drop]
theorem jd2:∀a n c,(Value.slice a n c).oneCell'=true:=fun _ _ _=>rfl
def zc12:List V:=[.val (.slice none 0 0),.val (.slice none 0 0),.val (.slice none 0 0),.val (.slice none 0 0),.val (.slice none 0 0),.val (.slice none 0 0),.val (.slice none 0 0),.val (.slice none 0 0),.val (.slice none 0 0),.val (.slice none 0 0),.val (.slice none 0 0),vi 0]
abbrev gr137a:List Gent:=⟨bz 13 0,13,.one 0 0⟩::⟨bz 13 1,12,.one 2 0⟩::⟨bz 13 5,11,.one 3 0⟩::⟨bz 13 13,10,.one 5 0⟩::⟨bz 13 45,9,.alt [(1,1),(4,0)]⟩::⟨bz 13 61,8,.one 6 2⟩::⟨bz 13 47,8,.alt [(4,0)]⟩::⟨bz 13 63,7,.one 6 1⟩::⟨bz 13 125,7,.one 7 1⟩::⟨bz 13 127,6,.one 7 1⟩::⟨bz 13 253,6,.alt [(1,0),(8,1)]⟩::⟨bz 13 255,5,.alt [(8,2)]⟩::⟨bz 13 509,5,.alt [(1,1),(9,0)]⟩::⟨bz 13 1021,4,.alt [(1,1)]⟩::⟨bz 13 511,4,.alt [(9,0)]⟩::⟨bz 13 1023,3,.one 10 0⟩::⟨bz 13 2047,2,.one 11 0⟩::⟨bz 13 4095,1,.alt [(12,0)]⟩::⟨bz 13 8191,0,.fin⟩::[]
abbrev gr137b:List Gent:=⟨bz 26 0,26,.one 0 0⟩::⟨bz 26 1,25,.one 2 0⟩::⟨bz 26 5,24,.one 3 0⟩::⟨bz 26 13,23,.one 5 0⟩::⟨bz 26 45,22,.one 6 0⟩::⟨bz 26 109,21,.one 8 0⟩::⟨bz 26 365,20,.one 13 0⟩::⟨bz 26 8557,19,.one 15 0⟩::⟨bz 26 41325,18,.alt [(1,2),(4,0),(7,1),(14,3)]⟩::⟨bz 26 41341,17,.alt [(1,4),(7,7),(14,6)]⟩::⟨bz 26 41453,17,.one 9 7⟩::⟨bz 26 41327,17,.alt [(4,2),(7,3),(14,1)]⟩::⟨bz 26 57709,17,.one 16 6⟩::⟨bz 26 57711,16,.one 16 10⟩::⟨bz 26 41343,16,.alt [(7,6),(14,7)]⟩::⟨bz 26 41455,16,.one 9 7⟩::⟨bz 26 57725,16,.one 16 10⟩::⟨bz 26 41469,16,.one 9 7⟩::⟨bz 26 41965,16,.one 10 1⟩::⟨bz 26 123245,16,.one 17 6⟩::⟨bz 26 42989,15,.alt [(1,10),(4,7),(11,14),(14,12)]⟩::⟨bz 26 41471,15,.one 9 7⟩::⟨bz 26 57727,15,.one 16 7⟩::⟨bz 26 41967,15,.one 10 7⟩::⟨bz 26 123247,15,.one 17 7⟩::⟨bz 26 41981,15,.one 10 2⟩::⟨bz 26 254317,15,.alt [(1,5),(4,7),(7,9),(18,10)]⟩::⟨bz 26 123261,15,.one 17 6⟩::⟨bz 26 43005,14,.alt [(1,10),(11,16),(14,17)]⟩::⟨bz 26 41983,14,.one 10 9⟩::⟨bz 26 123263,14,.one 17 7⟩::⟨bz 26 42991,14,.alt [(4,7),(11,9),(14,10)]⟩::⟨bz 26 254319,14,.alt [(4,5),(7,10),(18,11)]⟩::⟨bz 26 59373,14,.one 16 17⟩::⟨bz 26 254333,14,.alt [(1,3),(7,5),(18,13)]⟩::⟨bz 26 45037,14,.alt [(1,5),(4,9),(12,13),(14,11)]⟩::⟨bz 26 254445,14,.one 9 13⟩::⟨bz 26 516461,14,.alt [(1,6),(4,10),(7,14)]⟩::⟨bz 26 254335,13,.alt [(7,17),(18,18)]⟩::⟨bz 26 43007,13,.alt [(11,14),(14,15)]⟩::⟨bz 26 254461,13,.one 9 25⟩::⟨bz 26 45039,13,.alt [(4,12),(12,16),(14,17)]⟩::⟨bz 26 59375,13,.one 16 17⟩::⟨bz 26 254447,13,.one 9 17⟩::⟨bz 26 516463,13,.alt [(4,12),(7,18)]⟩::⟨bz 26 45053,13,.alt [(1,8),(12,7),(14,18)]⟩::⟨bz 26 59389,13,.one 16 18⟩::⟨bz 26 61421,13,.one 16 19⟩::⟨bz 26 516477,13,.alt [(1,8),(7,13)]⟩::⟨bz 26 49133,13,.alt [(1,8),(4,3),(14,18)]⟩::⟨bz 26 254957,13,.one 10 18⟩::⟨bz 26 124909,13,.one 17 17⟩::⟨bz 26 516589,13,.one 9 17⟩::⟨bz 26 49149,12,.alt [(1,18),(14,21)]⟩::⟨bz 26 45055,12,.alt [(12,17),(14,18)]⟩::⟨bz 26 59391,12,.one 16 18⟩::⟨bz 26 254463,12,.one 9 14⟩::⟨bz 26 516479,12,.alt [(7,18)]⟩::⟨bz 26 49135,12,.alt [(4,13),(14,18)]⟩::⟨bz 26 61423,12,.one 16 18⟩::⟨bz 26 124911,12,.one 17 18⟩::⟨bz 26 254959,12,.one 10 17⟩::⟨bz 26 516605,12,.one 9 18⟩::⟨bz 26 516591,12,.one 9 16⟩::⟨bz 26 61437,12,.one 16 17⟩::⟨bz 26 124925,12,.one 17 17⟩::⟨bz 26 254973,12,.one 10 16⟩::⟨bz 26 126957,12,.one 17 16⟩::⟨bz 26 65517,12,.one 16 16⟩::⟨bz 26 255981,12,.alt [(1,9),(4,13),(11,14),(18,16)]⟩::⟨bz 26 517101,12,.one 10 15⟩::⟨bz 26 254975,11,.one 10 18⟩::⟨bz 26 49151,11,.alt [(14,15)]⟩::⟨bz 26 61439,11,.one 16 15⟩::⟨bz 26 124927,11,.one 17 15⟩::⟨bz 26 65533,11,.one 16 19⟩::⟨bz 26 516607,11,.one 9 14⟩::⟨bz 26 65519,11,.one 16 14⟩::⟨bz 26 126959,11,.one 17 15⟩::⟨bz 26 255983,11,.alt [(4,10),(11,14),(18,7)]⟩::⟨bz 26 517103,11,.one 10 6⟩::⟨bz 26 517117,11,.one 10 11⟩::⟨bz 26 126973,11,.one 17 13⟩::⟨bz 26 255997,11,.alt [(1,6),(11,12),(18,9)]⟩::⟨bz 26 258029,11,.alt [(1,9),(4,11),(12,12),(18,13)]⟩::⟨bz 26 131053,11,.one 17 11⟩::⟨bz 26 518125,11,.alt [(1,0),(4,6),(11,11)]⟩::⟨bz 26 518127,10,.alt [(4,14),(11,13)]⟩::⟨bz 26 65535,10,.one 16 11⟩::⟨bz 26 126975,10,.one 17 9⟩::⟨bz 26 255999,10,.alt [(11,8),(18,11)]⟩::⟨bz 26 517119,10,.one 10 10⟩::⟨bz 26 131055,10,.one 17 10⟩::⟨bz 26 518141,10,.alt [(1,8),(11,10)]⟩::⟨bz 26 258031,10,.alt [(4,4),(12,8),(18,6)]⟩::⟨bz 26 131069,10,.one 17 9⟩::⟨bz 26 258045,10,.alt [(1,2),(12,8),(18,7)]⟩::⟨bz 26 262125,10,.alt [(1,5),(4,7),(18,8)]⟩::⟨bz 26 520173,10,.alt [(1,2),(4,5),(12,7)]⟩::⟨bz 26 258047,9,.alt [(12,9),(18,7)]⟩::⟨bz 26 131071,9,.one 17 8⟩::⟨bz 26 520175,9,.alt [(4,5),(12,8)]⟩::⟨bz 26 518143,9,.alt [(11,4)]⟩::⟨bz 26 262127,9,.alt [(4,5),(18,6)]⟩::⟨bz 26 520189,9,.alt [(1,2),(12,6)]⟩::⟨bz 26 262141,9,.alt [(1,3),(18,5)]⟩::⟨bz 26 524269,9,.alt [(1,3),(4,4),(19,1)]⟩::⟨bz 26 520191,8,.alt [(12,5)]⟩::⟨bz 26 1048557,8,.alt [(1,3),(4,5)]⟩::⟨bz 26 262143,8,.alt [(18,3)]⟩::⟨bz 26 524271,8,.alt [(4,2),(19,1)]⟩::⟨bz 26 524285,8,.alt [(1,1),(19,2)]⟩::⟨bz 26 1048559,7,.one 20 2⟩::⟨bz 26 524287,7,.alt [(19,2)]⟩::⟨bz 26 1048573,7,.alt [(1,1)]⟩::⟨bz 26 2097135,6,.one 21 2⟩::⟨bz 26 1048575,6,.one 20 0⟩::⟨bz 26 2097151,5,.one 21 2⟩::⟨bz 26 4194287,5,.alt [(4,1),(22,0)]⟩::⟨bz 26 8388591,4,.alt [(4,1)]⟩::⟨bz 26 4194303,4,.alt [(22,0)]⟩::⟨bz 26 8388607,3,.one 23 0⟩::⟨bz 26 16777215,2,.one 24 0⟩::⟨bz 26 33554431,1,.alt [(25,0)]⟩::⟨bz 26 67108863,0,.fin⟩::[]
abbrev gr137c:List Gent:=⟨bz 15 0,15,.one 0 0⟩::⟨bz 15 1,14,.one 3 0⟩::⟨bz 15 9,13,.one 6 0⟩::⟨bz 15 73,12,.alt [(1,2),(4,0),(7,1)]⟩::⟨bz 15 89,11,.alt [(1,2),(7,5)]⟩::⟨bz 15 201,11,.alt [(1,3),(4,4)]⟩::⟨bz 15 75,11,.alt [(2,1),(4,0),(7,2)]⟩::⟨bz 15 91,10,.alt [(2,5),(7,4)]⟩::⟨bz 15 79,10,.alt [(4,4),(7,2)]⟩::⟨bz 15 203,10,.alt [(2,1),(4,2)]⟩::⟨bz 15 217,10,.alt [(1,1)]⟩::⟨bz 15 207,9,.alt [(4,2)]⟩::⟨bz 15 219,9,.alt [(2,1)]⟩::⟨bz 15 95,9,.alt [(5,1),(7,0)]⟩::⟨bz 15 223,8,.one 9 2⟩::⟨bz 15 127,8,.alt [(7,0)]⟩::⟨bz 15 255,7,.one 9 1⟩::⟨bz 15 735,7,.alt [(5,0)]⟩::⟨bz 15 767,6,.alt [(8,0)]⟩::⟨bz 15 1023,5,.alt [(10,0)]⟩::⟨bz 15 2047,4,.one 11 0⟩::⟨bz 15 4095,3,.alt [(12,0)]⟩::⟨bz 15 8191,2,.one 13 0⟩::⟨bz 15 16383,1,.alt [(14,0)]⟩::⟨bz 15 32767,0,.fin⟩::[]
abbrev gr137d:List Gent:=⟨bz 10 0,10,.one 0 0⟩::⟨bz 10 1,9,.one 3 0⟩::⟨bz 10 9,8,.alt [(1,1),(4,0)]⟩::⟨bz 10 25,7,.alt [(1,1)]⟩::⟨bz 10 11,7,.alt [(2,1),(4,0)]⟩::⟨bz 10 27,6,.alt [(2,1)]⟩::⟨bz 10 15,6,.alt [(4,0)]⟩::⟨bz 10 31,5,.one 6 0⟩::⟨bz 10 95,4,.alt [(5,0)]⟩::⟨bz 10 127,3,.alt [(7,0)]⟩::⟨bz 10 255,2,.one 8 0⟩::⟨bz 10 511,1,.alt [(9,0)]⟩::⟨bz 10 1023,0,.fin⟩::[]
abbrev N3J:=Option (Nat×Nat)×Option (Nat×Nat)×Option (Nat×Nat)
abbrev rUJ (r:Rgs):=rowB 92 (r.rls.map Rul.cs).flatten 111 8
abbrev rDJ (r:Rgs):=rowB 95 (r.hls.map Hld.cs).flatten 113 7
abbrev rCJ (r:Rgs):=rowB 98 (r.cks.map Clk.cs).flatten 67 5
abbrev rSJ (r:Rgs):=rowB 104 (r.sls.map Sel.cs).flatten 130 3
abbrev rQJ (r:Rgs):=rowB 107 (r.pps.map Prp.cs).flatten 49 5
abbrev rKJ (r:Rgs):=rowB 110 (r.crs.map Crt.cs).flatten 37 6
abbrev rAJ (r:Rgs):=rowB 173 (r.aps.map Apv.cs).flatten 51 3
abbrev rMJ (r:Rgs):=rowB 176 (r.dps.map Dep.cs).flatten 98 2
abbrev n0J:V:= .val (.slice none 0 0)
abbrev svJ (b n c:Nat):V:= .val (.slice (some ⟨b,0,none⟩) n c)
abbrev rbJ (r:Rgs) (a b c:V):Nat×Blk:=(1,Blk.var [a,b,c,ruls r.rls,hlds r.hls,clks r.cks,sels r.sls,prps r.pps,apvs r.aps,crts r.crs,deps r.dps,vi r.chg])
abbrev rcJ (r:Rgs) (sO sP sF sU sD sC:Option (Nat×Nat)) (a b c:V):Nat×Blk:=(1,Blk.var [sOpt r.ofs.length sO,sOpt r.pls.length sP,sOpt r.fls.length sF,sOpt r.rls.length sU,sOpt r.hls.length sD,sOpt r.cks.length sC,a,b,apvs r.aps,c,deps r.dps,vi r.chg])
abbrev z2J:Nat×Blk:=(2,Blk.var zc12)
abbrev rOJ (r:Rgs):=rowB 11 (r.ofs.map Ofc.cs).flatten 100 5
abbrev rPJ (r:Rgs):=rowB 14 (r.pls.map Plan.cs).flatten 106 5
abbrev rFJ (r:Rgs):=rowB 17 (r.fls.map Fil.cs).flatten 109 8
abbrev rqJ (q:Nat) (W:List V) (b t z c:Nat):Nat×Blk:=(q,Blk.var W (some b) (some (t,z,c)))
abbrev s2J (h:List (Nat×Blk)):St:=⟨180,[(1,.p 1 0),(2,.p 2 0)],h,[]⟩
abbrev skJ (i k j n:Nat) (h:List (Nat×Blk)):St:=⟨180,[(i,.v (vi k)),(1,.p 1 0),(2,.p 2 0),(j,.v (vi n))],h,[]⟩
theorem hR1 {P:Program} {g:FuncId} {vs:List V} {e:TypeId} {z:Nat} {es:List (List V)} (q n:Nat) (h:DenU P T g vs (jf5 e z es)) (hl:es.length=n:=by exact List.length_map _) (st:St) (K:St->Prop) (k:V->Option TypeId->Prop) (kn:Nat->List (List V)->Prop) (hn:Ab.look q st.h=none) (hq:q<st.n)
  (hk:AllS n fun s=>Ab.retM (some q) K { st with h:=rowB q es.flatten e z s++st.h } (.v (sOpt n s))):Ab.Call P T g vs k kn (Ab.CallX P T g vs [] st (some q) K):=callR q n hl h hq hn hk
theorem jk1 {P:Program} {x y:Code} {n:Nat} {t:List (Nat×TV)} {X Z:Nat×Blk} {A R:List (Nat×Blk)} {la lr:List Nat} {Q:AX->St->Prop}
  (h1:∀E:AX->St->Prop,(∀(_: Unit) st,True->Ab.Sub P T ⟨n,t,X::Z::A,[]⟩ st->E .nm st)->aw P T x ⟨n,t,X::Z::A,[]⟩ E) (h2:aw P T y ⟨n,t,X::Z::(R++A),[]⟩ Q)
  (ha:Ids A la:=by exact jax _) (hr:Ids R lr:=by repeat (first | exact jax _ | apply jcg)) (hd:(la.all fun i=> !lr.contains i)=true:=by rfl) (hx:(lr.all fun i=>decide (i≠X.1) && decide (i≠Z.1))=true:=by rfl)
  (hw:okW [X,Z] t=true:=by rfl) (hw1:okW (X::Z::A) t=true:=by rfl):aw P T (.seq x y) ⟨n,t,X::Z::(A++R),[]⟩ Q:=by
 have hn:(lr.all fun i=>(Ab.look i (X::Z::A)).isNone)=true:=List.all_eq_true.2 fun i hi=>by
  have h3:=List.all_eq_true.1 hx i hi;simp only[Bool.and_eq_true,decide_eq_true_eq] at h3;rw[show X::Z::A=(X.1,X.2)::(Z.1,Z.2)::A from rfl,ja4,if_neg h3.1,ja4,if_neg h3.2];cases e:Ab.look i A with
  | none=>rfl
  | some k=>
   have:=List.all_eq_true.1 hd i (ha i k e).1;simp[hi] at this
 refine aw_seq ?_;refine aw_frx (h1:=X::Z::A) .nm (fun _:Unit=>True) (fun _=>⟨n,t,X::Z::A,[]⟩) hr h1 (fun _ _=> ?_) (fun _=>hn) hn hw1;exact aw_rot (h1:=[X,Z]) ha hr h2 hd hw
structure CX where
 (sO sP sF sU sD sC sS sQ sA sK sM:Option (Nat×Nat))
def CX.ok (x:CX) (r:Rgs):Prop:=okB r.ofs.length x.sO/\okB r.pls.length x.sP/\okB r.fls.length x.sF/\okB r.rls.length x.sU/\okB r.hls.length x.sD/\okB r.cks.length x.sC/\okB r.sls.length x.sS/\okB r.pps.length x.sQ/\okB r.aps.length x.sA/\okB r.crs.length x.sK/\okB r.dps.length x.sM
abbrev CX.st (x:CX) (r:Rgs):St:=⟨180,[(2,.p 2 0)],(2,Blk.var [sOpt r.ofs.length x.sO,sOpt r.pls.length x.sP,sOpt r.fls.length x.sF,sOpt r.rls.length x.sU,sOpt r.hls.length x.sD,sOpt r.cks.length x.sC,sOpt r.sls.length x.sS,sOpt r.pps.length x.sQ,sOpt r.aps.length x.sA,sOpt r.crs.length x.sK,sOpt r.dps.length x.sM,vi r.chg])::((rAJ r x.sA)++((rMJ r x.sM)++((rUJ r x.sU)++((rDJ r x.sD)++((rCJ r x.sC)++((rOJ r x.sO)++((rPJ r x.sP)++((rFJ r x.sF)++((rSJ r x.sS)++((rQJ r x.sQ)++(rKJ r x.sK))))))))))),[]⟩
set_option maxHeartbeats 64000000 in
theorem jo5 (r : Rgs) (h : r.Fit) (Post : Option Blk -> V -> Prop) (hP : ∀ x : CX,x.ok r -> ∀ (M : Nat -> Prop) (F0 : Frz) (w0 : World) (F : Frz) (ρ : Nat -> Nat) (a : Act) (w : World),SimS prog T M F0 w0 F ρ (x.st r) a w ->
      ∃F' ρ' hs,SimS prog T M F0 w0 F' ρ' ⟨180,[(2,.p 2 0)],hs,[]⟩ a w/\∃f:Nat->V,Ab.look 2 hs=some (.var [f 0,f 1,f 2,f 3,f 4,f 5,f 6,f 7,f 8,f 9,f 10,vi r.chg])/\
        (Post none (.agg [f 0,f 1,f 2,f 3,f 4,f 5,f 6,f 7,f 8,f 9,f 10,vi r.chg])\/∃id k b,Ab.look id hs=some k/\k.nm=some b/\Post (some k) (.agg [f 0,f 1,f 2,f 3,f 4,f 5,f 6,f 7,f 8,f 9,f 10,vi r.chg]))):
    DenU prog T 118 [.agg r.cs] Post:=by
  refine je8 follows (fun args w=>call118 args w) func118 rfl 180 rfl ?_;refine jfg (ji0 .rt (fun x:CX=>x.ok r) (fun x=>x.st r) ?_) ?_
  · intro E hE;refine runD trivial ?_;apply jbx (st':=(s2J ([(1,.var r.cs),z2J]))) ⟨[1,2],[1,2],[],[]⟩ rfl;refine jf4 .nm (fun (⟨sO,sP,sF⟩:N3J)=>okB r.ofs.length sO/\okB r.pls.length sP/\okB r.fls.length sF) (fun (⟨sO,sP,sF⟩:N3J)=>(s2J ((rbJ r (sOpt r.ofs.length sO) (sOpt r.pls.length sP) (sOpt r.fls.length sF))::z2J::((rOJ r sO)++((rPJ r sP)++(rFJ r sF)))))) ?_ ?_
    · intro E hE;refine jat gr137c ?_;refine jab ja2 ?_
      try simp only[and_self_right,jag,and_assoc]
      apply viaA
      · have hX:=hR1 (T:=T) (hl:=List.length_map _) 11 r.ofs.length (denU_cloneOfc r.ofs (h.ofs.1))
        repeat' (first | with_reducible apply And.imp | (intro hk; exact hX _ _ _ _ (by simp[ja4,jc7]) (by show (11:Nat)<180; decide) hk))
      try simp only[jir]
      intro sO hO;refine jab ja2 ?_
      try simp only[and_self_right]
      apply viaA
      · have hX:=hR1 (T:=T) (hl:=List.length_map _) 14 r.pls.length (denU_clonePln r.pls (h.pls.1))
        repeat' (first | with_reducible apply And.imp | (intro hk; exact hX _ _ _ _ zeo (by show (14:Nat)<180; decide) hk))
      try simp only[jir]
      intro sP hP;refine jab ja2 ?_
      try simp only[and_self,and_self_left,and_self_right,jag,jai,and_assoc]
      apply viaA
      · have hX:=hR1 (T:=T) (hl:=List.length_map _) 17 r.fls.length (denU_cloneFil r.fls (h.fls.1))
        repeat' (first | with_reducible apply And.imp | (intro hk; exact hX _ _ _ _ zeo (by show (17:Nat)<180; decide) hk))
      try simp only
      intro sF hF;refine jab ja2 ?_
      try simp only[and_self,and_self_left,and_self_right,jag,jai]
      repeat' (with_reducible refine ai ?_ ?_)
      all_goals refine hE ⟨sO,sP,sF⟩ _ ⟨hO,hP,hF⟩ ?_
      all_goals exact jak [1,2] [1,2] rfl rfl rfl (fun i k e=>jm9 (jax _) (jax _) (jax _) i k e) rfl
    rintro ⟨sO,sP,sF⟩ ⟨hO,hP,hF⟩
    show aw _ _ _ (s2J ((rbJ r (sOpt r.ofs.length sO) (sOpt r.pls.length sP) (sOpt r.fls.length sF))::z2J::((rOJ r sO)++((rPJ r sP)++(rFJ r sF))))) _
    refine jk1 ?_ ?_
    · intro E hE;rcases sO with _ | ⟨b,c⟩
      · show aw _ _ _ (s2J [(rbJ r n0J (sOpt r.pls.length sP) (sOpt r.fls.length sF)),z2J]) _
        refine runD ja2 ?_;refine loop ⟨[24,1,2,23],[1,2],[],[]⟩ (fun k:Nat=>k=0) (fun k=>k) (fun k=>(skJ 24 k 23 (0:Nat) ([(rbJ r n0J (sOpt r.pls.length sP) (sOpt r.fls.length sF)),z2J]))) 0 rfl ?_;exact zcl
      · obtain ⟨hc1,hc2⟩:r.ofs.length<=c/\c<=maxLen:=hO;have hw:=jc4 (cs:=Ofc.cs) (z:=5) (fun _=>rfl) r.ofs;have hbig:r.ofs.length<=1048576:=h.ofs.1
        show aw _ _ _ (s2J [(rbJ r (svJ b r.ofs.length c) (sOpt r.pls.length sP) (sOpt r.fls.length sF)),z2J,(rqJ 11 (r.ofs.map Ofc.cs).flatten b 100 5 c)]) _
        refine runD ja2 ?_;refine loop ⟨[24,1,2,23],[1,2,11],[],[]⟩ (fun k:Nat=>k<=r.ofs.length) (fun k=>r.ofs.length-k) (fun k=>(skJ 24 k 23 r.ofs.length ([(rbJ r (svJ b r.ofs.length c) (sOpt r.pls.length sP) (sOpt r.fls.length sF)),z2J,(rqJ 11 (r.ofs.map Ofc.cs).flatten b 100 5 c)]))) 0 (Nat.zero_le _) ?_;intro k hk;by_cases hlt:k<r.ofs.length
        · obtain ⟨o,hx,-,hm⟩:=ja1 hlt;have g4:=jhv (cs:=Ofc.cs) (z:=5) (fun _=>rfl) hx (off:=4) rfl;have s4:=jim (cs:=Ofc.cs) (z:=5) (fun _=>rfl) hx (off:=4) rfl;obtain ⟨W,hW⟩:∃W,(r.ofs.map Ofc.cs).flatten=W:=⟨_,rfl⟩;simp only[hW] at hw g4 s4 ⊢;refine runD (ai (ai g4 s4) (ai jd2 ja2)) ?_;refine jf4 .nm (fun _:Unit=>True) (fun _=>(skJ 24 k 23 r.ofs.length ([(rbJ r (svJ b r.ofs.length c) (sOpt r.pls.length sP) (sOpt r.fls.length sF)),z2J,(rqJ 11 W b 100 5 c)]))) ?_ ?_
          · intro E1 hE1;refine jat gr137a ?_;refine jab (ai (ai g4 s4) (ai jd2 ja2)) ?_
            try simp only[and_self_left]
            apply viaA
            · have hX:=fun k kn m h0=>call (T:=T) (k:=k) (kn:=kn) (m:=m) (jjb o.nxt (h.ofs.2 o hm).2).den h0
              repeat' (first | with_reducible apply And.imp | exact hX _ _ _)
            refine jab (ai (ai g4 s4) (ai jd2 ja2)) ?_
            try simp only[and_self,and_self_left,and_self_right,jag,jai]
            repeat' (with_reducible refine ai ?_ ?_)
            all_goals refine hE1 () _ trivial ?_
            all_goals exact jak [1,2,11] [24,1,2,23] rfl rfl rfl (fun _ _ e=>e) rfl
          intro _ _
          show aw _ _ _ (skJ 24 k 23 r.ofs.length ([(rbJ r (svJ b r.ofs.length c) (sOpt r.pls.length sP) (sOpt r.fls.length sF)),z2J,(rqJ 11 W b 100 5 c)])) _
          exact zc8
        · have hk2:k=r.ofs.length:=om
          subst hk2;exact zb
    simp only[List.append_assoc];refine jk1 ?_ ?_
    · intro E hE;rcases sP with _ | ⟨b,c⟩
      · show aw _ _ _ (s2J [(rbJ r (sOpt r.ofs.length sO) n0J (sOpt r.fls.length sF)),z2J]) _
        refine runD ja2 ?_;refine loop ⟨[43,1,2,42],[1,2],[],[]⟩ (fun k:Nat=>k=0) (fun k=>k) (fun k=>(skJ 43 k 42 (0:Nat) ([(rbJ r (sOpt r.ofs.length sO) n0J (sOpt r.fls.length sF)),z2J]))) 0 rfl ?_;exact zcl
      · obtain ⟨hc1,hc2⟩:r.pls.length<=c/\c<=maxLen:=hP;have hw:=jc4 (cs:=Plan.cs) (z:=5) (fun _=>rfl) r.pls;have hbig:r.pls.length<=1048576:=h.pls.1
        show aw _ _ _ (s2J [(rbJ r (sOpt r.ofs.length sO) (svJ b r.pls.length c) (sOpt r.fls.length sF)),z2J,(rqJ 14 (r.pls.map Plan.cs).flatten b 106 5 c)]) _
        refine runD ja2 ?_;refine loop ⟨[43,1,2,42],[1,2,14],[],[]⟩ (fun k:Nat=>k<=r.pls.length) (fun k=>r.pls.length-k) (fun k=>(skJ 43 k 42 r.pls.length ([(rbJ r (sOpt r.ofs.length sO) (svJ b r.pls.length c) (sOpt r.fls.length sF)),z2J,(rqJ 14 (r.pls.map Plan.cs).flatten b 106 5 c)]))) 0 (Nat.zero_le _) ?_;intro k hk;by_cases hlt:k<r.pls.length
        · obtain ⟨p,hx,-,hm⟩:=ja1 hlt;have g3:=jhv (cs:=Plan.cs) (z:=5) (fun _=>rfl) hx (off:=3) rfl;have s3:=jim (cs:=Plan.cs) (z:=5) (fun _=>rfl) hx (off:=3) rfl;have g4:=jhv (cs:=Plan.cs) (z:=5) (fun _=>rfl) hx (off:=4) rfl;have s4:=jim (cs:=Plan.cs) (z:=5) (fun _=>rfl) hx (off:=4) rfl;have q3:=s3;rw[show k*5+3+1=k*5+4 from rfl,g4] at q3;obtain ⟨W,hW⟩:∃W,(r.pls.map Plan.cs).flatten=W:=⟨_,rfl⟩;simp only[hW] at hw g3 s3 g4 s4 q3 ⊢;refine runD (ai (ai g3 (ai s3 (ai g4 (ai s4 q3)))) (ai jd2 ja2)) ?_;refine jf4 .nm (fun _:Unit=>True) (fun _=>(skJ 43 k 42 r.pls.length ([(rbJ r (sOpt r.ofs.length sO) (svJ b r.pls.length c) (sOpt r.fls.length sF)),z2J,(rqJ 14 W b 106 5 c)]))) ?_ ?_
          · intro E1 hE1;refine jat gr137b ?_;refine jab (ai (ai g3 (ai s3 (ai g4 (ai s4 q3)))) (ai jd2 ja2)) ?_
            try simp only[and_self_left,and_self_right,jag,jai,and_assoc]
            apply viaA
            · have hX:=fun k kn m h0=>call (T:=T) (k:=k) (kn:=kn) (m:=m) (den_copyCls p.cls (h.pls.2 p hm).1).den h0
              repeat' (first | with_reducible apply And.imp | exact hX _ _ _)
            refine jab (ai (ai g3 (ai s3 (ai g4 (ai s4 q3)))) (ai jd2 ja2)) ?_
            try simp only[and_self,and_self_left,jai,and_assoc]
            apply viaA
            · have hX:=fun k kn m h0=>call (T:=T) (k:=k) (kn:=kn) (m:=m) (den_copyMov p.mov (h.pls.2 p hm).2.1).den h0
              repeat' (first | with_reducible apply And.imp | exact hX _ _ _)
            refine jab (ai (ai g3 (ai s3 (ai g4 (ai s4 q3)))) (ai jd2 ja2)) ?_
            try simp only[and_self,and_self_left,and_self_right,jag,jai]
            repeat' (with_reducible refine ai ?_ ?_)
            all_goals refine hE1 () _ trivial ?_
            all_goals exact jak [1,2,14] [43,1,2,42] rfl rfl rfl (fun _ _ e=>e) rfl
          intro _ _
          show aw _ _ _ (skJ 43 k 42 r.pls.length ([(rbJ r (sOpt r.ofs.length sO) (svJ b r.pls.length c) (sOpt r.fls.length sF)),z2J,(rqJ 14 W b 106 5 c)])) _
          exact zc8
        · have hk2:k=r.pls.length:=om
          subst hk2;exact zb
    simp only[List.append_assoc];refine jk1 ?_ ?_
    · intro E hE;rcases sF with _ | ⟨b,c⟩
      · show aw _ _ _ (s2J [(rbJ r (sOpt r.ofs.length sO) (sOpt r.pls.length sP) n0J),z2J]) _
        refine runD ja2 ?_;refine loop ⟨[74,1,2,73],[1,2],[],[]⟩ (fun k:Nat=>k=0) (fun k=>k) (fun k=>(skJ 74 k 73 (0:Nat) ([(rbJ r (sOpt r.ofs.length sO) (sOpt r.pls.length sP) n0J),z2J]))) 0 rfl ?_;exact zcl
      · obtain ⟨hc1,hc2⟩:r.fls.length<=c/\c<=maxLen:=hF;have hw:=jc4 (cs:=Fil.cs) (z:=8) (fun _=>rfl) r.fls;have hbig:r.fls.length<=1048576:=h.fls.1
        show aw _ _ _ (s2J [(rbJ r (sOpt r.ofs.length sO) (sOpt r.pls.length sP) (svJ b r.fls.length c)),z2J,(rqJ 17 (r.fls.map Fil.cs).flatten b 109 8 c)]) _
        refine runD ja2 ?_;refine loop ⟨[74,1,2,73],[1,2,17],[],[]⟩ (fun k:Nat=>k<=r.fls.length) (fun k=>r.fls.length-k) (fun k=>(skJ 74 k 73 r.fls.length ([(rbJ r (sOpt r.ofs.length sO) (sOpt r.pls.length sP) (svJ b r.fls.length c)),z2J,(rqJ 17 (r.fls.map Fil.cs).flatten b 109 8 c)]))) 0 (Nat.zero_le _) ?_;intro k hk;by_cases hlt:k<r.fls.length
        · obtain ⟨f,hx,-,hm⟩:=ja1 hlt;have g7:=jhv (cs:=Fil.cs) (z:=8) (fun _=>rfl) hx (off:=7) rfl;have s7:=jim (cs:=Fil.cs) (z:=8) (fun _=>rfl) hx (off:=7) rfl;obtain ⟨W,hW⟩:∃W,(r.fls.map Fil.cs).flatten=W:=⟨_,rfl⟩;simp only[hW] at hw g7 s7 ⊢;refine runD (ai (ai g7 s7) (ai jd2 ja2)) ?_;refine jf4 .nm (fun _:Unit=>True) (fun _=>(skJ 74 k 73 r.fls.length ([(rbJ r (sOpt r.ofs.length sO) (sOpt r.pls.length sP) (svJ b r.fls.length c)),z2J,(rqJ 17 W b 109 8 c)]))) ?_ ?_
          · intro E1 hE1;refine jat gr137a ?_;refine jab (ai (ai g7 s7) (ai jd2 ja2)) ?_
            try simp only[and_self_left]
            apply viaA
            · have hX:=fun k kn m h0=>call (T:=T) (k:=k) (kn:=kn) (m:=m) (jql f.nts (h.fls.2 f hm).2.2.1).den h0
              repeat' (first | with_reducible apply And.imp | exact hX _ _ _)
            refine jab (ai (ai g7 s7) (ai jd2 ja2)) ?_
            try simp only[and_self,and_self_left,and_self_right,jag,jai]
            repeat' (with_reducible refine ai ?_ ?_)
            all_goals refine hE1 () _ trivial ?_
            all_goals exact jak [1,2,17] [74,1,2,73] rfl rfl rfl (fun _ _ e=>e) rfl
          intro _ _
          show aw _ _ _ (skJ 74 k 73 r.fls.length ([(rbJ r (sOpt r.ofs.length sO) (sOpt r.pls.length sP) (svJ b r.fls.length c)),z2J,(rqJ 17 W b 109 8 c)])) _
          exact zc8
        · have hk2:k=r.fls.length:=om
          subst hk2;exact zb
    simp only[List.append_assoc];refine runD trivial ?_
    show aw _ _ _ (St.mk 180 _ ([(rbJ r (sOpt r.ofs.length sO) (sOpt r.pls.length sP) (sOpt r.fls.length sF)),z2J]++((rOJ r sO)++((rPJ r sP)++(rFJ r sF)))) []) _
    refine aw_frx .nm (fun (⟨sU,sD,sC⟩:N3J)=>okB r.rls.length sU/\okB r.hls.length sD/\okB r.cks.length sC) (fun (⟨sU,sD,sC⟩:N3J)=>(s2J ((rcJ r sO sP sF sU sD sC (sels r.sls) (prps r.pps) (crts r.crs))::z2J::((rUJ r sU)++((rDJ r sD)++(rCJ r sC)))))) (jcg (jax (q:=11) _) (jcg (jax (q:=14) _) (jax (q:=17) _))) (h1:=[(rbJ r (sOpt r.ofs.length sO) (sOpt r.pls.length sP) (sOpt r.fls.length sF)),z2J]) ?_ ?_ (fun ⟨sU,sD,sC⟩=>by cases sU <;> cases sD <;> cases sC <;> rfl) rfl
    · intro E hE;refine jat gr137c ?_;refine jab ja2 ?_
      try simp only[and_self_right,jag,and_assoc]
      apply viaA
      · have hX:=hR1 (T:=T) (hl:=List.length_map _) 92 r.rls.length (denU_cloneRul r.rls (h.rls.1))
        repeat' (first | with_reducible apply And.imp | (intro hk; exact hX _ _ _ _ (by simp[ja4,jc7]) (by show (92:Nat)<180; decide) hk))
      try simp only[jir]
      intro sU hU;refine jab ja2 ?_
      try simp only[and_self_right]
      apply viaA
      · have hX:=hR1 (T:=T) (hl:=List.length_map _) 95 r.hls.length (denU_cloneHld r.hls (h.hls.1))
        repeat' (first | with_reducible apply And.imp | (intro hk; exact hX _ _ _ _ zeo (by show (95:Nat)<180; decide) hk))
      try simp only[jir]
      intro sD hD;refine jab ja2 ?_
      try simp only[and_self,and_self_left,and_self_right,jag,jai,and_assoc]
      apply viaA
      · have hX:=hR1 (T:=T) (hl:=List.length_map _) 98 r.cks.length (denU_cloneClk r.cks (h.cks.1))
        repeat' (first | with_reducible apply And.imp | (intro hk; exact hX _ _ _ _ zeo (by show (98:Nat)<180; decide) hk))
      try simp only
      intro sC hC;refine jab ja2 ?_
      try simp only[and_self,and_self_left,and_self_right,jag,jai]
      repeat' (with_reducible refine ai ?_ ?_)
      all_goals refine hE ⟨sU,sD,sC⟩ _ ⟨hU,hD,hC⟩ ?_
      all_goals exact jak [1,2] [1,2] rfl rfl rfl (fun i k e=>jm9 (jax _) (jax _) (jax _) i k e) rfl
    rintro ⟨sU,sD,sC⟩ ⟨hU,hD,hC⟩
    show aw _ _ _ (s2J (((rcJ r sO sP sF sU sD sC (sels r.sls) (prps r.pps) (crts r.crs))::z2J::((rUJ r sU)++((rDJ r sD)++(rCJ r sC))))++((rOJ r sO)++((rPJ r sP)++(rFJ r sF))))) _
    refine aw_heq (h':=(rcJ r sO sP sF sU sD sC (sels r.sls) (prps r.pps) (crts r.crs))::z2J::((rUJ r sU)++((rDJ r sD)++((rCJ r sC)++((rOJ r sO)++((rPJ r sP)++(rFJ r sF))))))) zeq ?_;refine runD trivial ?_
    show aw _ _ _ (St.mk 180 _ ([(rcJ r sO sP sF sU sD sC (sels r.sls) (prps r.pps) (crts r.crs)),z2J]++((rUJ r sU)++((rDJ r sD)++((rCJ r sC)++((rOJ r sO)++((rPJ r sP)++(rFJ r sF))))))) []) _
    refine aw_frx .nm (fun (⟨sS,sQ,sK⟩:N3J)=>okB r.sls.length sS/\okB r.pps.length sQ/\okB r.crs.length sK) (fun (⟨sS,sQ,sK⟩:N3J)=>(s2J ((rcJ r sO sP sF sU sD sC (sOpt r.sls.length sS) (sOpt r.pps.length sQ) (sOpt r.crs.length sK))::z2J::((rSJ r sS)++((rQJ r sQ)++(rKJ r sK)))))) (jcg (jax (q:=92) _) (jcg (jax (q:=95) _) (jcg (jax (q:=98) _) (jcg (jax (q:=11) _) (jcg (jax (q:=14) _) (jax (q:=17) _)))))) (h1:=[(rcJ r sO sP sF sU sD sC (sels r.sls) (prps r.pps) (crts r.crs)),z2J]) ?_ ?_ (fun ⟨sS,sQ,sK⟩=>by cases sS <;> cases sQ <;> cases sK <;> rfl) rfl
    · intro E hE;refine jat gr137c ?_;refine jab ja2 ?_
      try simp only[and_self_right,jag,and_assoc]
      apply viaA
      · have hX:=hR1 (T:=T) (hl:=List.length_map _) 104 r.sls.length (denU_cloneSel r.sls (h.sls.1))
        repeat' (first | with_reducible apply And.imp | (intro hk; exact hX _ _ _ _ (by simp[ja4,jc7]) (by show (104:Nat)<180; decide) hk))
      try simp only[jir]
      intro sS hS;refine jab ja2 ?_
      try simp only[and_self_right]
      apply viaA
      · have hX:=hR1 (T:=T) (hl:=List.length_map _) 107 r.pps.length (denU_clonePrp r.pps (h.pps.1))
        repeat' (first | with_reducible apply And.imp | (intro hk; exact hX _ _ _ _ zeo (by show (107:Nat)<180; decide) hk))
      try simp only[jir]
      intro sQ hQ;refine jab ja2 ?_
      try simp only[and_self,and_self_left,and_self_right,jag,jai,and_assoc]
      apply viaA
      · have hX:=hR1 (T:=T) (hl:=List.length_map _) 110 r.crs.length (denU_cloneCrt r.crs (h.crs.1))
        repeat' (first | with_reducible apply And.imp | (intro hk; exact hX _ _ _ _ zeo (by show (110:Nat)<180; decide) hk))
      try simp only
      intro sK hK;refine jab ja2 ?_
      try simp only[and_self,and_self_left,and_self_right,jag,jai]
      repeat' (with_reducible refine ai ?_ ?_)
      all_goals refine hE ⟨sS,sQ,sK⟩ _ ⟨hS,hQ,hK⟩ ?_
      all_goals exact jak [1,2] [1,2] rfl rfl rfl (fun i k e=>jm9 (jax _) (jax _) (jax _) i k e) rfl
    rintro ⟨sS,sQ,sK⟩ ⟨hS,hQ,hK⟩
    show aw _ _ _ (s2J (((rcJ r sO sP sF sU sD sC (sOpt r.sls.length sS) (sOpt r.pps.length sQ) (sOpt r.crs.length sK))::z2J::((rSJ r sS)++((rQJ r sQ)++(rKJ r sK))))++((rUJ r sU)++((rDJ r sD)++((rCJ r sC)++((rOJ r sO)++((rPJ r sP)++(rFJ r sF)))))))) _
    refine aw_heq (h':=(rcJ r sO sP sF sU sD sC (sOpt r.sls.length sS) (sOpt r.pps.length sQ) (sOpt r.crs.length sK))::z2J::((rSJ r sS)++((rQJ r sQ)++((rKJ r sK)++((rUJ r sU)++((rDJ r sD)++((rCJ r sC)++((rOJ r sO)++((rPJ r sP)++(rFJ r sF)))))))))) zeq ?_;refine jk1 ?_ ?_
    · intro E hE;rcases sS with _ | ⟨b,c⟩
      · show aw _ _ _ (s2J [(rcJ r sO sP sF sU sD sC n0J (sOpt r.pps.length sQ) (sOpt r.crs.length sK)),z2J]) _
        refine runD ja2 ?_;refine loop ⟨[117,1,2,116],[1,2],[],[]⟩ (fun k:Nat=>k=0) (fun k=>k) (fun k=>(skJ 117 k 116 (0:Nat) ([(rcJ r sO sP sF sU sD sC n0J (sOpt r.pps.length sQ) (sOpt r.crs.length sK)),z2J]))) 0 rfl ?_;exact zcl
      · obtain ⟨hc1,hc2⟩:r.sls.length<=c/\c<=maxLen:=hS;have hw:=jc4 (cs:=Sel.cs) (z:=3) (fun _=>rfl) r.sls;have hbig:r.sls.length<=1048576:=h.sls.1
        show aw _ _ _ (s2J [(rcJ r sO sP sF sU sD sC (svJ b r.sls.length c) (sOpt r.pps.length sQ) (sOpt r.crs.length sK)),z2J,(rqJ 104 (r.sls.map Sel.cs).flatten b 130 3 c)]) _
        refine runD ja2 ?_;refine loop ⟨[117,1,2,116],[1,2,104],[],[]⟩ (fun k:Nat=>k<=r.sls.length) (fun k=>r.sls.length-k) (fun k=>(skJ 117 k 116 r.sls.length ([(rcJ r sO sP sF sU sD sC (svJ b r.sls.length c) (sOpt r.pps.length sQ) (sOpt r.crs.length sK)),z2J,(rqJ 104 (r.sls.map Sel.cs).flatten b 130 3 c)]))) 0 (Nat.zero_le _) ?_;intro k hk;by_cases hlt:k<r.sls.length
        · obtain ⟨s,hx,-,hm⟩:=ja1 hlt;have g2:=jhv (cs:=Sel.cs) (z:=3) (fun _=>rfl) hx (off:=2) rfl;have s2J:=jim (cs:=Sel.cs) (z:=3) (fun _=>rfl) hx (off:=2) rfl;obtain ⟨W,hW⟩:∃W,(r.sls.map Sel.cs).flatten=W:=⟨_,rfl⟩;simp only[hW] at hw g2 s2J ⊢;refine runD (ai (ai g2 s2J) (ai jd2 ja2)) ?_;refine jf4 .nm (fun _:Unit=>True) (fun _=>(skJ 117 k 116 r.sls.length ([(rcJ r sO sP sF sU sD sC (svJ b r.sls.length c) (sOpt r.pps.length sQ) (sOpt r.crs.length sK)),z2J,(rqJ 104 W b 130 3 c)]))) ?_ ?_
          · intro E1 hE1;refine jat gr137a ?_;refine jab (ai (ai g2 s2J) (ai jd2 ja2)) ?_
            try simp only[and_self_left]
            apply viaA
            · have hX:=fun k kn m h0=>call (T:=T) (k:=k) (kn:=kn) (m:=m) (jjb s.fls (h.sls.2 s hm)).den h0
              repeat' (first | with_reducible apply And.imp | exact hX _ _ _)
            refine jab (ai (ai g2 s2J) (ai jd2 ja2)) ?_
            try simp only[and_self,and_self_left,and_self_right,jag,jai]
            repeat' (with_reducible refine ai ?_ ?_)
            all_goals refine hE1 () _ trivial ?_
            all_goals exact jak [1,2,104] [117,1,2,116] rfl rfl rfl (fun _ _ e=>e) rfl
          intro _ _
          show aw _ _ _ (skJ 117 k 116 r.sls.length ([(rcJ r sO sP sF sU sD sC (svJ b r.sls.length c) (sOpt r.pps.length sQ) (sOpt r.crs.length sK)),z2J,(rqJ 104 W b 130 3 c)])) _
          exact zc8
        · have hk2:k=r.sls.length:=om
          subst hk2;exact zb
    simp only[List.append_assoc];refine jk1 ?_ ?_
    · intro E hE;rcases sQ with _ | ⟨b,c⟩
      · show aw _ _ _ (s2J [(rcJ r sO sP sF sU sD sC (sOpt r.sls.length sS) n0J (sOpt r.crs.length sK)),z2J]) _
        refine runD ja2 ?_;refine loop ⟨[136,1,2,135],[1,2],[],[]⟩ (fun k:Nat=>k=0) (fun k=>k) (fun k=>(skJ 136 k 135 (0:Nat) ([(rcJ r sO sP sF sU sD sC (sOpt r.sls.length sS) n0J (sOpt r.crs.length sK)),z2J]))) 0 rfl ?_;exact zcl
      · obtain ⟨hc1,hc2⟩:r.pps.length<=c/\c<=maxLen:=hQ;have hw:=jc4 (cs:=Prp.cs) (z:=5) (fun _=>rfl) r.pps;have hbig:r.pps.length<=1048576:=h.pps.1
        show aw _ _ _ (s2J [(rcJ r sO sP sF sU sD sC (sOpt r.sls.length sS) (svJ b r.pps.length c) (sOpt r.crs.length sK)),z2J,(rqJ 107 (r.pps.map Prp.cs).flatten b 49 5 c)]) _
        refine runD ja2 ?_;refine loop ⟨[136,1,2,135],[1,2,107],[],[]⟩ (fun k:Nat=>k<=r.pps.length) (fun k=>r.pps.length-k) (fun k=>(skJ 136 k 135 r.pps.length ([(rcJ r sO sP sF sU sD sC (sOpt r.sls.length sS) (svJ b r.pps.length c) (sOpt r.crs.length sK)),z2J,(rqJ 107 (r.pps.map Prp.cs).flatten b 49 5 c)]))) 0 (Nat.zero_le _) ?_;intro k hk;by_cases hlt:k<r.pps.length
        · obtain ⟨q,hx,-,hm⟩:=ja1 hlt;have g3:=jhv (cs:=Prp.cs) (z:=5) (fun _=>rfl) hx (off:=3) rfl;have s3:=jim (cs:=Prp.cs) (z:=5) (fun _=>rfl) hx (off:=3) rfl;obtain ⟨W,hW⟩:∃W,(r.pps.map Prp.cs).flatten=W:=⟨_,rfl⟩;simp only[hW] at hw g3 s3 ⊢;refine runD (ai (ai g3 s3) (ai jd2 ja2)) ?_;refine jf4 .nm (fun _:Unit=>True) (fun _=>(skJ 136 k 135 r.pps.length ([(rcJ r sO sP sF sU sD sC (sOpt r.sls.length sS) (svJ b r.pps.length c) (sOpt r.crs.length sK)),z2J,(rqJ 107 W b 49 5 c)]))) ?_ ?_
          · intro E1 hE1;refine jat gr137a ?_;refine jab (ai (ai g3 s3) (ai jd2 ja2)) ?_
            try simp only[and_self_left]
            apply viaA
            · have hX:=fun k kn m h0=>call (T:=T) (k:=k) (kn:=kn) (m:=m) (jjb q.fls (h.pps.2 q hm)).den h0
              repeat' (first | with_reducible apply And.imp | exact hX _ _ _)
            refine jab (ai (ai g3 s3) (ai jd2 ja2)) ?_
            try simp only[and_self,and_self_left,and_self_right,jag,jai]
            repeat' (with_reducible refine ai ?_ ?_)
            all_goals refine hE1 () _ trivial ?_
            all_goals exact jak [1,2,107] [136,1,2,135] rfl rfl rfl (fun _ _ e=>e) rfl
          intro _ _
          show aw _ _ _ (skJ 136 k 135 r.pps.length ([(rcJ r sO sP sF sU sD sC (sOpt r.sls.length sS) (svJ b r.pps.length c) (sOpt r.crs.length sK)),z2J,(rqJ 107 W b 49 5 c)])) _
          exact zc8
        · have hk2:k=r.pps.length:=om
          subst hk2;exact zb
    simp only[List.append_assoc];refine jk1 ?_ ?_
    · intro E hE;rcases sK with _ | ⟨b,c⟩
      · show aw _ _ _ (s2J [(rcJ r sO sP sF sU sD sC (sOpt r.sls.length sS) (sOpt r.pps.length sQ) n0J),z2J]) _
        refine runD ja2 ?_;refine loop ⟨[155,1,2,154],[1,2],[],[]⟩ (fun k:Nat=>k=0) (fun k=>k) (fun k=>(skJ 155 k 154 (0:Nat) ([(rcJ r sO sP sF sU sD sC (sOpt r.sls.length sS) (sOpt r.pps.length sQ) n0J),z2J]))) 0 rfl ?_;exact zcl
      · obtain ⟨hc1,hc2⟩:r.crs.length<=c/\c<=maxLen:=hK;have hw:=jc4 (cs:=Crt.cs) (z:=6) (fun _=>rfl) r.crs;have hbig:r.crs.length<=1048576:=h.crs.1
        show aw _ _ _ (s2J [(rcJ r sO sP sF sU sD sC (sOpt r.sls.length sS) (sOpt r.pps.length sQ) (svJ b r.crs.length c)),z2J,(rqJ 110 (r.crs.map Crt.cs).flatten b 37 6 c)]) _
        refine runD ja2 ?_;refine loop ⟨[155,1,2,154],[1,2,110],[],[]⟩ (fun k:Nat=>k<=r.crs.length) (fun k=>r.crs.length-k) (fun k=>(skJ 155 k 154 r.crs.length ([(rcJ r sO sP sF sU sD sC (sOpt r.sls.length sS) (sOpt r.pps.length sQ) (svJ b r.crs.length c)),z2J,(rqJ 110 (r.crs.map Crt.cs).flatten b 37 6 c)]))) 0 (Nat.zero_le _) ?_;intro k hk;by_cases hlt:k<r.crs.length
        · obtain ⟨y,hx,-,hm⟩:=ja1 hlt;have g3:=jhv (cs:=Crt.cs) (z:=6) (fun _=>rfl) hx (off:=3) rfl;have s3:=jim (cs:=Crt.cs) (z:=6) (fun _=>rfl) hx (off:=3) rfl;obtain ⟨W,hW⟩:∃W,(r.crs.map Crt.cs).flatten=W:=⟨_,rfl⟩;simp only[hW] at hw g3 s3 ⊢;refine runD (ai (ai g3 s3) (ai jd2 ja2)) ?_;refine jf4 .nm (fun _:Unit=>True) (fun _=>(skJ 155 k 154 r.crs.length ([(rcJ r sO sP sF sU sD sC (sOpt r.sls.length sS) (sOpt r.pps.length sQ) (svJ b r.crs.length c)),z2J,(rqJ 110 W b 37 6 c)]))) ?_ ?_
          · intro E1 hE1;refine jat gr137a ?_;refine jab (ai (ai g3 s3) (ai jd2 ja2)) ?_
            try simp only[and_self_left]
            apply viaA
            · have hX:=fun k kn m h0=>call (T:=T) (k:=k) (kn:=kn) (m:=m) (jjb y.fls (h.crs.2 y hm).1).den h0
              repeat' (first | with_reducible apply And.imp | exact hX _ _ _)
            refine jab (ai (ai g3 s3) (ai jd2 ja2)) ?_
            try simp only[and_self,and_self_left,and_self_right,jag,jai]
            repeat' (with_reducible refine ai ?_ ?_)
            all_goals refine hE1 () _ trivial ?_
            all_goals exact jak [1,2,110] [155,1,2,154] rfl rfl rfl (fun _ _ e=>e) rfl
          intro _ _
          show aw _ _ _ (skJ 155 k 154 r.crs.length ([(rcJ r sO sP sF sU sD sC (sOpt r.sls.length sS) (sOpt r.pps.length sQ) (svJ b r.crs.length c)),z2J,(rqJ 110 W b 37 6 c)])) _
          exact zc8
        · have hk2:k=r.crs.length:=om
          subst hk2;exact zb
    simp only[List.append_assoc];refine runD trivial ?_
    show aw _ _ _ (St.mk 180 _ ([(rcJ r sO sP sF sU sD sC (sOpt r.sls.length sS) (sOpt r.pps.length sQ) (sOpt r.crs.length sK)),z2J]++((rUJ r sU)++((rDJ r sD)++((rCJ r sC)++((rOJ r sO)++((rPJ r sP)++((rFJ r sF)++((rSJ r sS)++((rQJ r sQ)++(rKJ r sK)))))))))) []) _
    refine aw_frx .nm (fun (⟨sA,sM⟩:Option (Nat×Nat)×Option (Nat×Nat))=>okB r.aps.length sA/\okB r.dps.length sM) (fun (⟨sA,sM⟩:Option (Nat×Nat)×Option (Nat×Nat))=>(s2J ((1,Blk.var [sOpt r.ofs.length sO,sOpt r.pls.length sP,sOpt r.fls.length sF,sOpt r.rls.length sU,sOpt r.hls.length sD,sOpt r.cks.length sC,sOpt r.sls.length sS,sOpt r.pps.length sQ,sOpt r.aps.length sA,sOpt r.crs.length sK,sOpt r.dps.length sM,vi r.chg])::z2J::((rAJ r sA)++(rMJ r sM))))) (jcg (jax (q:=92) _) (jcg (jax (q:=95) _) (jcg (jax (q:=98) _) (jcg (jax (q:=11) _) (jcg (jax (q:=14) _) (jcg (jax (q:=17) _) (jcg (jax (q:=104) _) (jcg (jax (q:=107) _) (jax (q:=110) _))))))))) (h1:=[(rcJ r sO sP sF sU sD sC (sOpt r.sls.length sS) (sOpt r.pps.length sQ) (sOpt r.crs.length sK)),z2J]) ?_ ?_ (fun ⟨sA,sM⟩=>by cases sA <;> cases sM <;> rfl) rfl
    · intro E hE;refine jat gr137d ?_;refine jab ja2 ?_
      try simp only[and_self_right]
      apply viaA
      · have hX:=hR1 (T:=T) (hl:=List.length_map _) 173 r.aps.length (denU_cloneApv r.aps (h.aps))
        repeat' (first | with_reducible apply And.imp | (intro hk; exact hX _ _ _ _ (by simp[ja4,jc7]) (by show (173:Nat)<180; decide) hk))
      try simp only[jir]
      intro sA hA;refine jab ja2 ?_
      try simp only[and_self,and_self_left,and_self_right,jag,jai,and_assoc]
      apply viaA
      · have hX:=hR1 (T:=T) (hl:=List.length_map _) 176 r.dps.length (denU_cloneDep r.dps (h.dps))
        repeat' (first | with_reducible apply And.imp | (intro hk; exact hX _ _ _ _ zeo (by show (176:Nat)<180; decide) hk))
      try simp only
      intro sM hM;refine jab ja2 ?_
      try simp only[and_self,and_self_left,and_self_right,jag,jai]
      repeat' (with_reducible refine ai ?_ ?_)
      all_goals refine hE ⟨sA,sM⟩ _ ⟨hA,hM⟩ ?_
      all_goals exact jak [1,2] [1,2] rfl rfl rfl (fun i k e=>rows_last2 (jax _) (jax _) i k e) rfl
    rintro ⟨sA,sM⟩ ⟨hA,hM⟩
    show aw _ _ _ (s2J (((1,Blk.var [sOpt r.ofs.length sO,sOpt r.pls.length sP,sOpt r.fls.length sF,sOpt r.rls.length sU,sOpt r.hls.length sD,sOpt r.cks.length sC,sOpt r.sls.length sS,sOpt r.pps.length sQ,sOpt r.aps.length sA,sOpt r.crs.length sK,sOpt r.dps.length sM,vi r.chg])::z2J::((rAJ r sA)++(rMJ r sM)))++((rUJ r sU)++((rDJ r sD)++((rCJ r sC)++((rOJ r sO)++((rPJ r sP)++((rFJ r sF)++((rSJ r sS)++((rQJ r sQ)++(rKJ r sK))))))))))) _
    refine aw_heq (h':=(1,Blk.var [sOpt r.ofs.length sO,sOpt r.pls.length sP,sOpt r.fls.length sF,sOpt r.rls.length sU,sOpt r.hls.length sD,sOpt r.cks.length sC,sOpt r.sls.length sS,sOpt r.pps.length sQ,sOpt r.aps.length sA,sOpt r.crs.length sK,sOpt r.dps.length sM,vi r.chg])::z2J::((rAJ r sA)++((rMJ r sM)++((rUJ r sU)++((rDJ r sD)++((rCJ r sC)++((rOJ r sO)++((rPJ r sP)++((rFJ r sF)++((rSJ r sS)++((rQJ r sQ)++(rKJ r sK)))))))))))) zeq ?_;have hz:zc12.length=12/\zc12.drop 12=[]/\∀v:List V,zc12.take 0++v++zc12.drop 12=v:=⟨rfl,rfl,fun v=>List.append_nil v⟩;refine runD hz ?_;refine hE ⟨sO,sP,sF,sU,sD,sC,sS,sQ,sA,sK,sM⟩ _ ⟨hO,hP,hF,hU,hD,hC,hS,hQ,hA,hK,hM⟩ ?_;exact jak [2] [2] rfl rfl rfl (fun id k e=>look_more (by simp[ja4,jgn,look_rowB0]) e) rfl
  · rintro M F0 w0 F ρ st' a w e S ⟨rfl,x,hx,hs⟩;obtain ⟨F',ρ',hs',S',f,h1,h2⟩:=hP x hx M F0 w0 F ρ a w (hs _ _ _ _ _ _ _ S);refine ⟨F',ρ',_,S',_,_,jbv ?_,.refl _,h2⟩
    show (memV hs' 2 0).bind _=_
    unfold memV;rw[h1];rfl
end Go.Arc
