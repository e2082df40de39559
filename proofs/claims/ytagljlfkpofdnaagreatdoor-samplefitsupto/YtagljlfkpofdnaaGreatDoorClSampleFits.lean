/-
 Whatever an appraisal selects is a candidate,each of which is closed and of the class; files are selected by letter and points on their own,and every n-th one leaves out just so many between two (the law answers true),whatever the input of bulk at most 2^20 is. Conditions:the listed tables of the library lie as its text lays them (the card ties them to the text); of internal/bytealg.MaxLen:some number.
-/
import Derived.Test.YtagljlfkpofdnaaGreatDoorCl13
import Derived.Test.YtagljlfkpofdnaaGreatDoorBaH
namespace Go.Proofs.YtagljlfkpofdnaaGreatDoor.sampleFits
open Go.Arc Go.Ab Go.RowKit Go.Proofs Go.ChangeShapes Go.WideShapes Go.ChangeAt
set_option maxRecDepth 100000
theorem reads (os:Os) {H:Type} (enc:TypeId×Value->H):∃places,DataW.whole enc Tryz.prog ((World.laidAll Tryz.prog os Rows.sampleCandidatesRow.laid).forCall (fun _ _=>0) ⟨#[],#[.agg #[.slice none 0 0,.slice none 0 0,.slice none 0 0,.slice none 0 0,.slice none 0 0,.slice none 0 0,.slice none 0 0,.slice none 0 0,.slice none 0 0,.slice none 0 0,.slice none 0 0,.int .i64 0],.agg #[.int .i64 0,.int .i64 0,.int .i64 0,.int .i64 0,.string ⟨#[]⟩,.string ⟨#[]⟩],.int .i64 0],[]⟩).memory Tryz.f4.params.toList Rows.sampleFitsSpec.vars false [(.agg #[.slice none 0 0,.slice none 0 0,.slice none 0 0,.slice none 0 0,.slice none 0 0,.slice none 0 0,.slice none 0 0,.slice none 0 0,.slice none 0 0,.slice none 0 0,.slice none 0 0,.int .i64 0]),(.agg #[.int .i64 0,.int .i64 0,.int .i64 0,.int .i64 0,.string ⟨#[]⟩,.string ⟨#[]⟩]),(.int .i64 0)] 8=some ([.agg [.nil,.nil,.nil,.nil,.nil,.nil,.nil,.nil,.nil,.nil,.nil,.lit (.int .i64 0)],.agg [.lit (.int .i64 0),.lit (.int .i64 0),.lit (.int .i64 0),.lit (.int .i64 0),.lit (.string []),.lit (.string [])],.lit (.int .i64 0)],[],places):=by
 refine ⟨[],?_⟩;kernel_rfl
theorem lifted (os:Os) (started:os.Started) (H:Type) (enc:TypeId×Value->H) (F:Stop.Interp):
  ReturnsInHanded {} Tryz.checked os 4 .any ((Rows.OpenSpec.upto Rows.sampleFitsSpec).preRow enc Tryz.prog Tryz.f4 Rows.sampleFitsUptoRow.domain false Rows.sampleFitsUptoRow.laid) (((Rows.OpenSpec.upto Rows.sampleFitsSpec).at F).post enc Tryz.prog Tryz.f4 false true false false):=by
 obtain ⟨places,hx⟩:=reads os enc
 refine returnsInHanded_of_row (C:=Tryz.checked) (s:=Rows.OpenSpec.upto Rows.sampleFitsSpec) ownKn started (by kernel_rfl) Tryz.func4
  (witness_zip (enc:=enc) (C:=Tryz.checked) (World.laidAll Tryz.prog os Rows.sampleCandidatesRow.laid) #[.agg #[.slice none 0 0,.slice none 0 0,.slice none 0 0,.slice none 0 0,.slice none 0 0,.slice none 0 0,.slice none 0 0,.slice none 0 0,.slice none 0 0,.slice none 0 0,.slice none 0 0,.int .i64 0],.agg #[.int .i64 0,.int .i64 0,.int .i64 0,.int .i64 0,.string ⟨#[]⟩,.string ⟨#[]⟩],.int .i64 0] (World.laidAll_os _ _ _) (shaped0 os _) (by kernel_rfl)
   (OpenSpec.preRow_of_cond 8 hx (by kernel_rfl) (fun k hk=>by cases hk; kernel_rfl) (by kernel_rfl) (laid_metH os _))) ?_
 intro W base args ds gs before hval0 hW _ hcond _ hL hsh _;have hval:∀(j:Nat) t v,Tryz.f4.params[j]? = some t->args[j]? = some v->Value.okWide Tryz.prog W .any base t v:=hval0;have hk:Rows.uptoBulkAll (ds++gs)<=1048576:=of_decide_eq_true (hcond _ rfl);have hW':=hW;obtain ⟨p,q,hA0,hV,rfl,-,-⟩:=hW;have hA:DataW.TrodAll enc Tryz.prog W 0 (fun _=>true) true Tryz.f4.params.toList args.toList ds p:=hA0;rw[Tryz.params4] at hA hval;obtain ⟨rfl,rfl⟩:=trodVars_none hV;obtain ⟨v0,vs0,d0,ds0,p0,q0,hargs,rfl,rfl,h0,r0⟩:=trodAll_cons hA;obtain ⟨v1,vs1,d1,ds1,p1,q1,rfl,rfl,rfl,h1,r1⟩:=trodAll_cons r0;obtain ⟨v2,vs2,d2,ds2,p2,q2,rfl,rfl,rfl,h2,r2⟩:=trodAll_cons r1;obtain ⟨rfl,rfl,rfl⟩:=trodAll_nil r2;obtain rfl:args= #[v0,v1,v2]:=by cases args; simp_all
 simp only[List.cons_append,List.nil_append,Rows.uptoBulkAll] at hk;obtain ⟨r0g,a0,b0⟩:=op_rgs (hval 0 34 v0 rfl rfl) h0 (by omega);obtain ⟨s1,a1,b1⟩:=op_smp (hval 1 36 v1 rfl rfl) h1 (by omega);obtain ⟨n2,a2,b2⟩:=op_int (hval 2 3 v2 rfl rfl) h2 (by omega);refine (law_calls (den_SampleFits (lib_facts (laid_of hL) hsh) r0g s1 n2 b0 b1) (reps_cons a0 (reps_cons a1 (reps_cons a2 reps_nil)))).mono ?_;rintro e W' ⟨rfl,hb⟩;exact ⟨_,rfl,post_true hW' rfl rfl (by kernel_rfl) (by rw[Tryz.params4]; intro t ht; simp only[List.mem_cons,List.mem_nil_iff,or_false] at ht; rcases ht with rfl | rfl | rfl <;> exact ⟨by kernel_rfl,of_decide_eq_true (by kernel_rfl)⟩) hb⟩
set_option maxHeartbeats 40000000 in
theorem closed:joinedFacts Tryz.pinned.checked.prog 4 Tryz.f4 (Rows.OpenSpec.upto Rows.sampleFitsSpec).bare Rows.sampleFitsUptoRow=true:=by
 unfold joinedFacts
 repeat' (with_reducible refine and_i ?_ ?_)
 all_goals (as_aux_lemma=>kernel_rfl)
theorem said:Rows.SampleFitsUptoSaid:=
 OpenClaim.holds_of_cond 4 Tryz.f4 rfl rfl rfl rfl rfl rfl rfl ⟨rfl,rfl,rfl,rfl,rfl⟩ rfl rfl rfl rfl rfl (by kernel_rfl) Tryz.func4 closed
  (of_decide_eq_true (by kernel_rfl)) (by unfold Func.isWrapper; rw[if_neg (of_decide_eq_false (by kernel_rfl))]; exact ⟨rfl,rfl⟩)
  (fun os started H enc _ F=>by rw[OpenClaim.pre_eq_preRow]; exact lifted os started H enc F)
theorem plain (f:FuncId) (fn:Func) (hf:Tryz.pinned.checked.prog.funcNamed Rows.sampleFitsUptoRow.func=some f) (hfn:Tryz.pinned.checked.prog.funcs[f]? = some fn):
  true=Tryz.pinned.checked.prog.looks []/\∀(j:Nat) t,fn.params[j]? = some t->Tryz.pinned.checked.prog.wantsStandIn t=false:=by
 obtain rfl:f=4:=Option.some.inj ((show Tryz.prog.funcNamed Rows.sampleFitsUptoRow.func=some 4 by kernel_rfl).symm.trans hf) |>.symm;obtain rfl:fn=Tryz.f4:=(Option.some.inj (Tryz.func4.symm.trans hfn)).symm;refine ⟨by kernel_rfl,fun j t ht=> ?_⟩;rw[Tryz.params4] at ht;have hm:=Array.mem_of_getElem? ht;simp only[List.mem_toArray,List.mem_cons,List.mem_nil_iff,or_false] at hm;rcases hm with rfl | rfl | rfl
 ·exact (show Tryz.prog.wantsStandIn 34=false by kernel_rfl)
 ·exact (show Tryz.prog.wantsStandIn 36=false by kernel_rfl)
 ·exact (show Tryz.prog.wantsStandIn 3=false by kernel_rfl)
end Go.Proofs.YtagljlfkpofdnaaGreatDoor.sampleFits
namespace Go.Proofs.YtagljlfkpofdnaaGreatDoor
theorem sampleFits_upto:Rows.SampleFitsUptoCardSaid:=
 Claim7.holds_tied_plain_at .later [] _ _ _ _ sampleFits.said (fun _ h=>by cases h) (by as_aux_lemma=>kernel_rfl) (fun _ h=>by cases h) sampleFitsUpto_row_tie rfl ⟨rfl,rfl⟩ (by as_aux_lemma=>kernel_rfl) rfl sampleFits.plain (Go.Arc.goesBy_none rfl Go.Arc.noneGoes)
end Go.Proofs.YtagljlfkpofdnaaGreatDoor
