/-
 Registries without a jc1 remain without one,and what was destroyed is gone from that day on and is not destroyed a second time; the days before do not change (the law answers true),whatever the input of bulk at most 2^20 is. Conditions:the listed tables of the library lie as its text lays them (the card ties them to the text); of internal/bytealg.MaxLen:some number.
-/
import Derived.Test.YtnmclbgpndpedaaGreatDoorCl14
import Derived.Test.YtnmclbgpndpedaaGreatDoorBaR
namespace Go.Proofs.YtnmclbgpndpedaaGreatDoor.disposalKeeps
open Go.Arc Go.Ab Go.RowKit Go.Proofs Go.ChangeShapes Go.WideShapes Go.ChangeAt Tryz
set_option maxRecDepth 100000
theorem reads (os:Os) {H:Type} (enc:TypeId×Value->H):∃places,DataW.whole enc prog ((World.laidAll prog os Rows.disposalNeedsRow.laid).forCall (fun _ _=>0) ⟨#[],#[.agg #[.slice none 0 0,.slice none 0 0,.slice none 0 0,.slice none 0 0,.slice none 0 0,.slice none 0 0,.slice none 0 0,.slice none 0 0,.slice none 0 0,.slice none 0 0,.slice none 0 0,.int .i64 0],.agg #[.int .i64 0,.int .i64 0,.int .i64 0,.slice none 0 0,.int .i64 0],.agg #[.int .i64 0,.int .i64 0,.int .i64 0],.int .i64 0,.int .i64 0,.int .i64 0],[]⟩).memory Tryz.f5.params.toList Rows.disposalKeepsSpec.vars false [(.agg #[.slice none 0 0,.slice none 0 0,.slice none 0 0,.slice none 0 0,.slice none 0 0,.slice none 0 0,.slice none 0 0,.slice none 0 0,.slice none 0 0,.slice none 0 0,.slice none 0 0,.int .i64 0]),(.agg #[.int .i64 0,.int .i64 0,.int .i64 0,.slice none 0 0,.int .i64 0]),(.agg #[.int .i64 0,.int .i64 0,.int .i64 0]),(.int .i64 0),(.int .i64 0),(.int .i64 0)] 8=some ([.agg [.nil,.nil,.nil,.nil,.nil,.nil,.nil,.nil,.nil,.nil,.nil,.lit (.int .i64 0)],.agg [.lit (.int .i64 0),.lit (.int .i64 0),.lit (.int .i64 0),.nil,.lit (.int .i64 0)],.agg [.lit (.int .i64 0),.lit (.int .i64 0),.lit (.int .i64 0)],.lit (.int .i64 0),.lit (.int .i64 0),.lit (.int .i64 0)],[],places):=by
 refine ⟨[],?_⟩;kernel_rfl
theorem lifted (os:Os) (started:os.Started) (H:Type) (enc:TypeId×Value->H) (F:Stop.Interp):
  ReturnsInHanded {} Tryz.checked os 5 .any ((Rows.OpenSpec.upto Rows.disposalKeepsSpec).preRow enc prog Tryz.f5 Rows.disposalKeepsUptoRow.domain false Rows.disposalKeepsUptoRow.laid) (((Rows.OpenSpec.upto Rows.disposalKeepsSpec).at F).post enc prog Tryz.f5 false true false false):=by
 obtain ⟨places,hx⟩:=reads os enc
 refine returnsInHanded_of_row (C:=Tryz.checked) (s:=Rows.OpenSpec.upto Rows.disposalKeepsSpec) ownKn started (by kernel_rfl) func5
  (witness_zip (enc:=enc) (C:=Tryz.checked) (World.laidAll prog os Rows.disposalNeedsRow.laid) #[.agg #[.slice none 0 0,.slice none 0 0,.slice none 0 0,.slice none 0 0,.slice none 0 0,.slice none 0 0,.slice none 0 0,.slice none 0 0,.slice none 0 0,.slice none 0 0,.slice none 0 0,.int .i64 0],.agg #[.int .i64 0,.int .i64 0,.int .i64 0,.slice none 0 0,.int .i64 0],.agg #[.int .i64 0,.int .i64 0,.int .i64 0],.int .i64 0,.int .i64 0,.int .i64 0] (World.laidAll_os _ _ _) (shaped0 os _) (by kernel_rfl)
   (OpenSpec.preRow_of_cond 8 hx (by kernel_rfl) (fun k hk=>by cases hk; kernel_rfl) (by kernel_rfl) (laid_metH os _))) ?_
 intro W base args ds gs before hval0 hW _ hcond _ hL hsh _;have hval:∀(j:Nat) t v,Tryz.f5.params[j]? = some t->args[j]? = some v->Value.okWide prog W .any base t v:=hval0;have hk:Rows.uptoBulkAll (ds++gs)<=1048576:=of_decide_eq_true (hcond _ rfl);have hW':=hW;obtain ⟨p,q,hA0,hV,rfl,-,-⟩:=hW;have hA:DataW.TrodAll enc prog W 0 (fun _=>true) true Tryz.f5.params.toList args.toList ds p:=hA0;rw[Tryz.params5] at hA hval;obtain ⟨rfl,rfl⟩:=trodVars_none hV;obtain ⟨v0,vs0,d0,ds0,p0,q0,hargs,rfl,rfl,h0,r0⟩:=trodAll_cons hA;obtain ⟨v1,vs1,d1,ds1,p1,q1,rfl,rfl,rfl,h1,r1⟩:=trodAll_cons r0;obtain ⟨v2,vs2,d2,ds2,p2,q2,rfl,rfl,rfl,h2,r2⟩:=trodAll_cons r1;obtain ⟨v3,vs3,d3,ds3,p3,q3,rfl,rfl,rfl,h3,r3⟩:=trodAll_cons r2;obtain ⟨v4,vs4,d4,ds4,p4,q4,rfl,rfl,rfl,h4,r4⟩:=trodAll_cons r3;obtain ⟨v5,vs5,d5,ds5,p5,q5,rfl,rfl,rfl,h5,r5⟩:=trodAll_cons r4;obtain ⟨rfl,rfl,rfl⟩:=trodAll_nil r5;obtain rfl:args= #[v0,v1,v2,v3,v4,v5]:=by cases args; simp_all
 simp only[List.cons_append,List.nil_append,Rows.uptoBulkAll] at hk;obtain ⟨r0g,a0,b0⟩:=op_rgs (hval 0 34 v0 rfl rfl) h0 (by omega);obtain ⟨p1g,a1,b1⟩:=op_prp (hval 1 42 v1 rfl rfl) h1 (by omega);obtain ⟨y2,a2⟩:=op_apv (hval 2 51 v2 rfl rfl) h2 (by omega);obtain ⟨n3,a3,b3⟩:=op_int (hval 3 3 v3 rfl rfl) h3 (by omega);obtain ⟨n4,a4,b4⟩:=op_int (hval 4 3 v4 rfl rfl) h4 (by omega);obtain ⟨n5,a5,b5⟩:=op_int (hval 5 3 v5 rfl rfl) h5 (by omega);refine (law_calls (jrv (lib_facts (laid_of hL) hsh) r0g p1g y2 n3 n4 n5 b0 b1) (jks a0 (jks a1 (jks a2 (jks a3 (jks a4 (jks a5 reps_nil))))))).mono ?_;rintro e W' ⟨rfl,hb⟩;exact ⟨_,rfl,post_true hW' rfl rfl (by kernel_rfl) (by rw[Tryz.params5]; intro t ht; simp only[List.mem_cons,List.mem_nil_iff,or_false] at ht; rcases ht with rfl | rfl | rfl | rfl | rfl | rfl <;> exact ⟨by kernel_rfl,of_decide_eq_true (by kernel_rfl)⟩) hb⟩
set_option maxHeartbeats 40000000 in
theorem closed:joinedFacts Tryz.pinned.checked.prog 5 Tryz.f5 (Rows.OpenSpec.upto Rows.disposalKeepsSpec).bare Rows.disposalKeepsUptoRow=true:=by
 unfold joinedFacts
 repeat' (with_reducible refine and_i ?_ ?_)
 all_goals (as_aux_lemma=>kernel_rfl)
theorem said:Rows.DisposalKeepsUptoSaid:=
 OpenClaim.holds_of_cond 5 Tryz.f5 rfl rfl rfl rfl rfl rfl rfl ⟨rfl,rfl,rfl,rfl,rfl⟩ rfl rfl rfl rfl rfl (by kernel_rfl) func5 closed
  (of_decide_eq_true (by kernel_rfl)) (by unfold Func.isWrapper; rw[if_neg (of_decide_eq_false (by kernel_rfl))]; exact ⟨rfl,rfl⟩)
  (fun os started H enc _ F=>by rw[OpenClaim.pre_eq_preRow]; exact lifted os started H enc F)
theorem plain (f:FuncId) (fn:Func) (hf:Tryz.pinned.checked.prog.funcNamed Rows.disposalKeepsUptoRow.func=some f) (hfn:Tryz.pinned.checked.prog.funcs[f]? = some fn):
  true=Tryz.pinned.checked.prog.looks []/\∀(j:Nat) t,fn.params[j]? = some t->Tryz.pinned.checked.prog.wantsStandIn t=false:=by
 obtain rfl:f=5:=Option.some.inj ((show Tryz.prog.funcNamed Rows.disposalKeepsUptoRow.func=some 5 by kernel_rfl).symm.trans hf) |>.symm;obtain rfl:fn=Tryz.f5:=(Option.some.inj (Tryz.func5.symm.trans hfn)).symm;refine ⟨by kernel_rfl,fun j t ht=> ?_⟩;rw[Tryz.params5] at ht;have hm:=Array.mem_of_getElem? ht;simp only[List.mem_toArray,List.mem_cons,List.mem_nil_iff,or_false] at hm;rcases hm with rfl | rfl | rfl | rfl | rfl | rfl
 ·exact (show Tryz.prog.wantsStandIn 34=false by kernel_rfl)
 ·exact (show Tryz.prog.wantsStandIn 42=false by kernel_rfl)
 ·exact (show Tryz.prog.wantsStandIn 51=false by kernel_rfl)
 ·exact (show Tryz.prog.wantsStandIn 3=false by kernel_rfl)
 ·exact (show Tryz.prog.wantsStandIn 3=false by kernel_rfl)
 ·exact (show Tryz.prog.wantsStandIn 3=false by kernel_rfl)
end Go.Proofs.YtnmclbgpndpedaaGreatDoor.disposalKeeps
namespace Go.Proofs.YtnmclbgpndpedaaGreatDoor
theorem disposalKeeps_upto:Rows.DisposalKeepsUptoCardSaid:=
 Claim7.holds_tied_plain_at .later [] _ _ _ _ disposalKeeps.said (fun _ h=>by cases h) (by as_aux_lemma=>kernel_rfl) (fun _ h=>by cases h) disposalKeepsUpto_row_tie rfl ⟨rfl,rfl⟩ (by as_aux_lemma=>kernel_rfl) rfl disposalKeeps.plain (Go.Arc.goesBy_none rfl Go.Arc.noneGoes)
end Go.Proofs.YtnmclbgpndpedaaGreatDoor
