/- A part of this claim. -/
import Derived.Test.YtfbbflhnhmphiaaGreatDoorBaO
set_option maxHeartbeats 64000000
set_option maxRecDepth 100000
namespace Go.Arc
open Go.Ab Go.RowKit Go.Proofs Tryz
variable {T : Lay}
theorem rq (r : Rgs) (h : r.Fit) (Post : Option Blk -> V -> Prop) (hP : ∀ x : CX,x.ok r -> ∀ (M : Nat -> Prop) (F0 : Frz) (w0 : World) (F : Frz) (ρ : Nat -> Nat) (a : Act) (w : World),SimS prog T M F0 w0 F ρ (x.st r) a w ->
      ∃F' ρ' hs,SimS prog T M F0 w0 F' ρ' ⟨180,[(2,.p 2 0)],hs,[]⟩ a w/\∃f:Nat->V,Ab.look 2 hs=some (.var [f 0,f 1,f 2,f 3,f 4,f 5,f 6,f 7,f 8,f 9,f 10,vi r.chg])/\
        (Post none (.agg [f 0,f 1,f 2,f 3,f 4,f 5,f 6,f 7,f 8,f 9,f 10,vi r.chg])\/∃id k b,Ab.look id hs=some k/\k.nm=some b/\Post (some k) (.agg [f 0,f 1,f 2,f 3,f 4,f 5,f 6,f 7,f 8,f 9,f 10,vi r.chg]))):
    DenU prog T 47 [.agg r.cs] Post:=by
  refine jp follows (fun args w=>call47 args w) func47 rfl 180 rfl ?_;exact clnW
def clP(r:Rgs)(j n:Nat)(e:TypeId)(z:Nat)(row:List V)(ro:Option Blk)(v:V):Prop:=∃s,okB n s/\ro=(s.map fun x=>.var row (some x.1) (some (e,z,x.2)))/\v=.agg (ba r.cs j [sOpt n s])
theorem qtl(r:Rgs)(h:r.Fit):DenU prog T 47 [.agg r.cs] (clP r 0 r.ofs.length 136 5 (r.ofs.map Ofc.cs).flatten):=by
 refine rq r h _ ?_;rintro y ⟨hO,hP,hF,hU,hD,hC,hS,hQ,hA,hK,hM⟩ M F0 w0 F ρ a w S;obtain⟨F,S⟩:=ag (f:=Apv.cs) 8 S hA;obtain⟨F,S⟩:=ag (f:=Dep.cs) 10 S hM;obtain⟨F,S⟩:=ag (f:=Rul.cs) 3 S hU;obtain⟨F,S⟩:=ag (f:=Hld.cs) 4 S hD;obtain⟨F,S⟩:=ag (f:=Clk.cs) 5 S hC;have S:=rotH (h1:=[(2,_)]) S;simp only[xb,List.cons_append,List.nil_append] at S;obtain⟨F,S⟩:=ag (f:=Plan.cs) 1 S hP;obtain⟨F,S⟩:=ag (f:=Fil.cs) 2 S hF;obtain⟨F,S⟩:=ag (f:=Sel.cs) 6 S hS;obtain⟨F,S⟩:=ag (f:=Prp.cs) 7 S hQ;obtain⟨F,S⟩:=ag (f:=Crt.cs) 9 S hK;refine⟨F,ρ,_,S,fun i=>(ba r.cs 0 [sOpt r.ofs.length y.sO]).getD i (vi 0),rfl,?_⟩;cases hs:y.sO with
 |none=>rw[hs] at hO;exact .inl ⟨none,hO,rfl,rfl⟩
 |some z=>rw[hs] at hO;exact .inr ⟨11,_,z.1,rfq,rfl,some z,hO,rfl,rfl⟩
theorem qtk(r:Rgs)(h:r.Fit):DenU prog T 47 [.agg r.cs] (clP r 1 r.pls.length 140 5 (r.pls.map Plan.cs).flatten):=by
 refine rq r h _ ?_;rintro y ⟨hO,hP,hF,hU,hD,hC,hS,hQ,hA,hK,hM⟩ M F0 w0 F ρ a w S;obtain⟨F,S⟩:=ag (f:=Apv.cs) 8 S hA;obtain⟨F,S⟩:=ag (f:=Dep.cs) 10 S hM;obtain⟨F,S⟩:=ag (f:=Rul.cs) 3 S hU;obtain⟨F,S⟩:=ag (f:=Hld.cs) 4 S hD;obtain⟨F,S⟩:=ag (f:=Clk.cs) 5 S hC;obtain⟨F,S⟩:=ag (f:=Ofc.cs) 0 S hO;have S:=rotH (h1:=[(2,_)]) S;simp only[xb,List.cons_append,List.nil_append] at S;obtain⟨F,S⟩:=ag (f:=Fil.cs) 2 S hF;obtain⟨F,S⟩:=ag (f:=Sel.cs) 6 S hS;obtain⟨F,S⟩:=ag (f:=Prp.cs) 7 S hQ;obtain⟨F,S⟩:=ag (f:=Crt.cs) 9 S hK;refine⟨F,ρ,_,S,fun i=>(ba r.cs 1 [sOpt r.pls.length y.sP]).getD i (vi 0),rfl,?_⟩;cases hs:y.sP with
 |none=>rw[hs] at hP;exact .inl ⟨none,hP,rfl,rfl⟩
 |some z=>rw[hs] at hP;exact .inr ⟨14,_,z.1,rfq,rfl,some z,hP,rfl,rfl⟩
theorem qtn(r:Rgs)(h:r.Fit):DenU prog T 47 [.agg r.cs] (clP r 2 r.fls.length 52 8 (r.fls.map Fil.cs).flatten):=by
 refine rq r h _ ?_;rintro y ⟨hO,hP,hF,hU,hD,hC,hS,hQ,hA,hK,hM⟩ M F0 w0 F ρ a w S;obtain⟨F,S⟩:=ag (f:=Apv.cs) 8 S hA;obtain⟨F,S⟩:=ag (f:=Dep.cs) 10 S hM;obtain⟨F,S⟩:=ag (f:=Rul.cs) 3 S hU;obtain⟨F,S⟩:=ag (f:=Hld.cs) 4 S hD;obtain⟨F,S⟩:=ag (f:=Clk.cs) 5 S hC;obtain⟨F,S⟩:=ag (f:=Ofc.cs) 0 S hO;obtain⟨F,S⟩:=ag (f:=Plan.cs) 1 S hP;have S:=rotH (h1:=[(2,_)]) S;simp only[xb,List.cons_append,List.nil_append] at S;obtain⟨F,S⟩:=ag (f:=Sel.cs) 6 S hS;obtain⟨F,S⟩:=ag (f:=Prp.cs) 7 S hQ;obtain⟨F,S⟩:=ag (f:=Crt.cs) 9 S hK;refine⟨F,ρ,_,S,fun i=>(ba r.cs 2 [sOpt r.fls.length y.sF]).getD i (vi 0),rfl,?_⟩;cases hs:y.sF with
 |none=>rw[hs] at hF;exact .inl ⟨none,hF,rfl,rfl⟩
 |some z=>rw[hs] at hF;exact .inr ⟨17,_,z.1,rfq,rfl,some z,hF,rfl,rfl⟩
theorem qti(r:Rgs)(h:r.Fit):DenU prog T 47 [.agg r.cs] (clP r 3 r.rls.length 118 8 (r.rls.map Rul.cs).flatten):=by
 refine rq r h _ ?_;rintro y ⟨hO,hP,hF,hU,hD,hC,hS,hQ,hA,hK,hM⟩ M F0 w0 F ρ a w S;obtain⟨F,S⟩:=ag (f:=Apv.cs) 8 S hA;obtain⟨F,S⟩:=ag (f:=Dep.cs) 10 S hM;have S:=rotH (h1:=[(2,_)]) S;simp only[xb,List.cons_append,List.nil_append] at S;obtain⟨F,S⟩:=ag (f:=Hld.cs) 4 S hD;obtain⟨F,S⟩:=ag (f:=Clk.cs) 5 S hC;obtain⟨F,S⟩:=ag (f:=Ofc.cs) 0 S hO;obtain⟨F,S⟩:=ag (f:=Plan.cs) 1 S hP;obtain⟨F,S⟩:=ag (f:=Fil.cs) 2 S hF;obtain⟨F,S⟩:=ag (f:=Sel.cs) 6 S hS;obtain⟨F,S⟩:=ag (f:=Prp.cs) 7 S hQ;obtain⟨F,S⟩:=ag (f:=Crt.cs) 9 S hK;refine⟨F,ρ,_,S,fun i=>(ba r.cs 3 [sOpt r.rls.length y.sU]).getD i (vi 0),rfl,?_⟩;cases hs:y.sU with
 |none=>rw[hs] at hU;exact .inl ⟨none,hU,rfl,rfl⟩
 |some z=>rw[hs] at hU;exact .inr ⟨92,_,z.1,rfq,rfl,some z,hU,rfl,rfl⟩
theorem qto(r:Rgs)(h:r.Fit):DenU prog T 47 [.agg r.cs] (clP r 4 r.hls.length 147 7 (r.hls.map Hld.cs).flatten):=by
 refine rq r h _ ?_;rintro y ⟨hO,hP,hF,hU,hD,hC,hS,hQ,hA,hK,hM⟩ M F0 w0 F ρ a w S;obtain⟨F,S⟩:=ag (f:=Apv.cs) 8 S hA;obtain⟨F,S⟩:=ag (f:=Dep.cs) 10 S hM;obtain⟨F,S⟩:=ag (f:=Rul.cs) 3 S hU;have S:=rotH (h1:=[(2,_)]) S;simp only[xb,List.cons_append,List.nil_append] at S;obtain⟨F,S⟩:=ag (f:=Clk.cs) 5 S hC;obtain⟨F,S⟩:=ag (f:=Ofc.cs) 0 S hO;obtain⟨F,S⟩:=ag (f:=Plan.cs) 1 S hP;obtain⟨F,S⟩:=ag (f:=Fil.cs) 2 S hF;obtain⟨F,S⟩:=ag (f:=Sel.cs) 6 S hS;obtain⟨F,S⟩:=ag (f:=Prp.cs) 7 S hQ;obtain⟨F,S⟩:=ag (f:=Crt.cs) 9 S hK;refine⟨F,ρ,_,S,fun i=>(ba r.cs 4 [sOpt r.hls.length y.sD]).getD i (vi 0),rfl,?_⟩;cases hs:y.sD with
 |none=>rw[hs] at hD;exact .inl ⟨none,hD,rfl,rfl⟩
 |some z=>rw[hs] at hD;exact .inr ⟨95,_,z.1,rfq,rfl,some z,hD,rfl,rfl⟩
theorem qtp(r:Rgs)(h:r.Fit):DenU prog T 47 [.agg r.cs] (clP r 5 r.cks.length 94 5 (r.cks.map Clk.cs).flatten):=by
 refine rq r h _ ?_;rintro y ⟨hO,hP,hF,hU,hD,hC,hS,hQ,hA,hK,hM⟩ M F0 w0 F ρ a w S;obtain⟨F,S⟩:=ag (f:=Apv.cs) 8 S hA;obtain⟨F,S⟩:=ag (f:=Dep.cs) 10 S hM;obtain⟨F,S⟩:=ag (f:=Rul.cs) 3 S hU;obtain⟨F,S⟩:=ag (f:=Hld.cs) 4 S hD;have S:=rotH (h1:=[(2,_)]) S;simp only[xb,List.cons_append,List.nil_append] at S;obtain⟨F,S⟩:=ag (f:=Ofc.cs) 0 S hO;obtain⟨F,S⟩:=ag (f:=Plan.cs) 1 S hP;obtain⟨F,S⟩:=ag (f:=Fil.cs) 2 S hF;obtain⟨F,S⟩:=ag (f:=Sel.cs) 6 S hS;obtain⟨F,S⟩:=ag (f:=Prp.cs) 7 S hQ;obtain⟨F,S⟩:=ag (f:=Crt.cs) 9 S hK;refine⟨F,ρ,_,S,fun i=>(ba r.cs 5 [sOpt r.cks.length y.sC]).getD i (vi 0),rfl,?_⟩;cases hs:y.sC with
 |none=>rw[hs] at hC;exact .inl ⟨none,hC,rfl,rfl⟩
 |some z=>rw[hs] at hC;exact .inr ⟨98,_,z.1,rfq,rfl,some z,hC,rfl,rfl⟩
theorem qtj(r:Rgs)(h:r.Fit):DenU prog T 47 [.agg r.cs] (clP r 6 r.sls.length 149 3 (r.sls.map Sel.cs).flatten):=by
 refine rq r h _ ?_;rintro y ⟨hO,hP,hF,hU,hD,hC,hS,hQ,hA,hK,hM⟩ M F0 w0 F ρ a w S;obtain⟨F,S⟩:=ag (f:=Apv.cs) 8 S hA;obtain⟨F,S⟩:=ag (f:=Dep.cs) 10 S hM;obtain⟨F,S⟩:=ag (f:=Rul.cs) 3 S hU;obtain⟨F,S⟩:=ag (f:=Hld.cs) 4 S hD;obtain⟨F,S⟩:=ag (f:=Clk.cs) 5 S hC;obtain⟨F,S⟩:=ag (f:=Ofc.cs) 0 S hO;obtain⟨F,S⟩:=ag (f:=Plan.cs) 1 S hP;obtain⟨F,S⟩:=ag (f:=Fil.cs) 2 S hF;have S:=rotH (h1:=[(2,_)]) S;simp only[xb,List.cons_append,List.nil_append] at S;obtain⟨F,S⟩:=ag (f:=Prp.cs) 7 S hQ;obtain⟨F,S⟩:=ag (f:=Crt.cs) 9 S hK;refine⟨F,ρ,_,S,fun i=>(ba r.cs 6 [sOpt r.sls.length y.sS]).getD i (vi 0),rfl,?_⟩;cases hs:y.sS with
 |none=>rw[hs] at hS;exact .inl ⟨none,hS,rfl,rfl⟩
 |some z=>rw[hs] at hS;exact .inr ⟨104,_,z.1,rfq,rfl,some z,hS,rfl,rfl⟩
theorem qtm(r:Rgs)(h:r.Fit):DenU prog T 47 [.agg r.cs] (clP r 10 r.dps.length 98 2 (r.dps.map Dep.cs).flatten):=by
 refine rq r h _ ?_;rintro y ⟨hO,hP,hF,hU,hD,hC,hS,hQ,hA,hK,hM⟩ M F0 w0 F ρ a w S;obtain⟨F,S⟩:=ag (f:=Apv.cs) 8 S hA;have S:=rotH (h1:=[(2,_)]) S;simp only[xb,List.cons_append,List.nil_append] at S;obtain⟨F,S⟩:=ag (f:=Rul.cs) 3 S hU;obtain⟨F,S⟩:=ag (f:=Hld.cs) 4 S hD;obtain⟨F,S⟩:=ag (f:=Clk.cs) 5 S hC;obtain⟨F,S⟩:=ag (f:=Ofc.cs) 0 S hO;obtain⟨F,S⟩:=ag (f:=Plan.cs) 1 S hP;obtain⟨F,S⟩:=ag (f:=Fil.cs) 2 S hF;obtain⟨F,S⟩:=ag (f:=Sel.cs) 6 S hS;obtain⟨F,S⟩:=ag (f:=Prp.cs) 7 S hQ;obtain⟨F,S⟩:=ag (f:=Crt.cs) 9 S hK;refine⟨F,ρ,_,S,fun i=>(ba r.cs 10 [sOpt r.dps.length y.sM]).getD i (vi 0),rfl,?_⟩;cases hs:y.sM with
 |none=>rw[hs] at hM;exact .inl ⟨none,hM,rfl,rfl⟩
 |some z=>rw[hs] at hM;exact .inr ⟨176,_,z.1,rfq,rfl,some z,hM,rfl,rfl⟩
theorem qtq(r:Rgs)(h:r.Fit):DenU prog T 47 [.agg r.cs] (fun ro v=>ro=none/\v=.agg r.cs):=by
 refine rq r h _ ?_;rintro y ⟨hO,hP,hF,hU,hD,hC,hS,hQ,hA,hK,hM⟩ M F0 w0 F ρ a w S;obtain⟨F,S⟩:=ag (f:=Apv.cs) 8 S hA;obtain⟨F,S⟩:=ag (f:=Dep.cs) 10 S hM;obtain⟨F,S⟩:=ag (f:=Rul.cs) 3 S hU;obtain⟨F,S⟩:=ag (f:=Hld.cs) 4 S hD;obtain⟨F,S⟩:=ag (f:=Clk.cs) 5 S hC;obtain⟨F,S⟩:=ag (f:=Ofc.cs) 0 S hO;obtain⟨F,S⟩:=ag (f:=Plan.cs) 1 S hP;obtain⟨F,S⟩:=ag (f:=Fil.cs) 2 S hF;obtain⟨F,S⟩:=ag (f:=Sel.cs) 6 S hS;obtain⟨F,S⟩:=ag (f:=Prp.cs) 7 S hQ;rw[<- xd (rKJ r y.sK)] at S;obtain⟨F,S⟩:=ag (f:=Crt.cs) 9 S hK (hids:=⟨[],(fun _ _ e=>nomatch e),rfl,rfl⟩);exact⟨F,ρ,_,S,fun i=>r.cs.getD i (vi 0),rfl,.inl ⟨rfl,rfl⟩⟩
end Go.Arc
