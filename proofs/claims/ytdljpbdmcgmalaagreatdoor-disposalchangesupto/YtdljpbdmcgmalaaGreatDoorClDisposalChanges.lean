/-
 Propose,Approve and Withdraw return the changed registries,or the specified errors,for every registry and all arguments (the law answers true),whatever the input of bulk at most 2^20 is. Conditions:the listed tables of the library lie as its text lays them (the card ties them to the text); of internal/bytealg.MaxLen:some number.
-/
import Derived.Test.YtdljpbdmcgmalaaGreatDoorCl14
import Derived.Test.YtdljpbdmcgmalaaGreatDoorBaR
namespace Go.Proofs.YtdljpbdmcgmalaaGreatDoor.disposalChanges
open Go.Arc Go.Ab Go.RowKit Go.Proofs Go.ChangeShapes Go.WideShapes Go.ChangeAt Tryz
set_option maxRecDepth 100000
theorem reads (os:Os) {H:Type} (enc:TypeId×Value->H):∃places,DataW.whole enc prog ((World.laidAll prog os Rows.disposalChecksRow.laid).forCall (fun _ _=>0) ⟨#[],#[.agg #[.slice none 0 0,.slice none 0 0,.slice none 0 0,.slice none 0 0,.slice none 0 0,.slice none 0 0,.slice none 0 0,.slice none 0 0,.slice none 0 0,.slice none 0 0,.slice none 0 0,.int .i64 0],.agg #[.int .i64 0,.int .i64 0,.int .i64 0,.slice none 0 0,.int .i64 0],.agg #[.int .i64 0,.int .i64 0,.int .i64 0],.int .i64 0,.int .i64 0],[]⟩).memory Tryz.f4.params.toList Rows.disposalChangesSpec.vars false [(.agg #[.slice none 0 0,.slice none 0 0,.slice none 0 0,.slice none 0 0,.slice none 0 0,.slice none 0 0,.slice none 0 0,.slice none 0 0,.slice none 0 0,.slice none 0 0,.slice none 0 0,.int .i64 0]),(.agg #[.int .i64 0,.int .i64 0,.int .i64 0,.slice none 0 0,.int .i64 0]),(.agg #[.int .i64 0,.int .i64 0,.int .i64 0]),(.int .i64 0),(.int .i64 0)] 8=some ([.agg [.nil,.nil,.nil,.nil,.nil,.nil,.nil,.nil,.nil,.nil,.nil,.lit (.int .i64 0)],.agg [.lit (.int .i64 0),.lit (.int .i64 0),.lit (.int .i64 0),.nil,.lit (.int .i64 0)],.agg [.lit (.int .i64 0),.lit (.int .i64 0),.lit (.int .i64 0)],.lit (.int .i64 0),.lit (.int .i64 0)],[],places):=by
 refine ⟨[],?_⟩;kernel_rfl
theorem lifted (os:Os) (started:os.Started) (H:Type) (enc:TypeId×Value->H) (F:Stop.Interp):
  ReturnsInHanded {} Tryz.checked os 4 .any ((Rows.OpenSpec.upto Rows.disposalChangesSpec).preRow enc prog Tryz.f4 Rows.disposalChangesUptoRow.domain false Rows.disposalChangesUptoRow.laid) (((Rows.OpenSpec.upto Rows.disposalChangesSpec).at F).post enc prog Tryz.f4 false true false false):=by
 obtain ⟨places,hx⟩:=reads os enc
 refine returnsInHanded_of_row (C:=Tryz.checked) (s:=Rows.OpenSpec.upto Rows.disposalChangesSpec) ownKn started kr func4
  (witness_zip (enc:=enc) (C:=Tryz.checked) (World.laidAll prog os Rows.disposalChecksRow.laid) #[.agg #[.slice none 0 0,.slice none 0 0,.slice none 0 0,.slice none 0 0,.slice none 0 0,.slice none 0 0,.slice none 0 0,.slice none 0 0,.slice none 0 0,.slice none 0 0,.slice none 0 0,.int .i64 0],.agg #[.int .i64 0,.int .i64 0,.int .i64 0,.slice none 0 0,.int .i64 0],.agg #[.int .i64 0,.int .i64 0,.int .i64 0],.int .i64 0,.int .i64 0] (World.laidAll_os _ _ _) (shaped0 os _) kr
   (OpenSpec.preRow_of_cond 8 hx kr (fun k hk=>by cases hk; kernel_rfl) kr (laid_metH os _))) ?_
 intro W base args ds gs before hval0 hW _ hcond _ hL hsh _;have hval:∀(j:Nat) t v,Tryz.f4.params[j]? = some t->args[j]? = some v->Value.okWide prog W .any base t v:=hval0;have hk:Rows.uptoBulkAll (ds++gs)<=1048576:=of_decide_eq_true (hcond _ rfl);have hW':=hW;obtain ⟨p,q,hA0,hV,rfl,-,-⟩:=hW;have hA:DataW.TrodAll enc prog W 0 (fun _=>true) true Tryz.f4.params.toList args.toList ds p:=hA0;rw[Tryz.params4] at hA hval;obtain ⟨rfl,rfl⟩:=trodVars_none hV;obtain ⟨v0,vs0,d0,ds0,p0,q0,hargs,rfl,rfl,h0,r0⟩:=trodAll_cons hA;obtain ⟨v1,vs1,d1,ds1,p1,q1,rfl,rfl,rfl,h1,r1⟩:=trodAll_cons r0;obtain ⟨v2,vs2,d2,ds2,p2,q2,rfl,rfl,rfl,h2,r2⟩:=trodAll_cons r1;obtain ⟨v3,vs3,d3,ds3,p3,q3,rfl,rfl,rfl,h3,r3⟩:=trodAll_cons r2;obtain ⟨v4,vs4,d4,ds4,p4,q4,rfl,rfl,rfl,h4,r4⟩:=trodAll_cons r3;obtain ⟨rfl,rfl,rfl⟩:=trodAll_nil r4;obtain rfl:args= #[v0,v1,v2,v3,v4]:=by cases args; simp_all
 simp only[List.cons_append,List.nil_append,Rows.uptoBulkAll] at hk;obtain ⟨r0g,a0,b0⟩:=op_rgs (hval 0 34 v0 rfl rfl) h0 om;obtain ⟨p1g,a1,b1⟩:=op_prp (hval 1 49 v1 rfl rfl) h1 om;obtain ⟨y2,a2⟩:=op_apv (hval 2 51 v2 rfl rfl) h2 om;obtain ⟨n3,a3,b3⟩:=op_int (hval 3 3 v3 rfl rfl) h3 om;obtain ⟨n4,a4,b4⟩:=op_int (hval 4 3 v4 rfl rfl) h4 om;refine (law_calls (js3 (lib_facts (laid_of hL) hsh) r0g p1g y2 n3 n4 b0 b1) (jkv a0 (jkv a1 (jkv a2 (jkv a3 (jkv a4 reps_nil)))))).mono ?_;rintro e W' ⟨rfl,hb⟩;exact ⟨_,rfl,post_true hW' rfl rfl kr (by rw[Tryz.params4]; intro t ht; simp only[List.mem_cons,List.mem_nil_iff,or_false] at ht; rcases ht with rfl | rfl | rfl | rfl | rfl <;> exact ⟨kr,of_decide_eq_true kr⟩) hb⟩
set_option maxHeartbeats 40000000 in
theorem closed:joinedFacts Tryz.pinned.checked.prog 4 Tryz.f4 (Rows.OpenSpec.upto Rows.disposalChangesSpec).bare Rows.disposalChangesUptoRow=true:=by
 unfold joinedFacts
 repeat' (with_reducible refine and_i ?_ ?_)
 all_goals (as_aux_lemma=>kernel_rfl)
theorem said:Rows.DisposalChangesUptoSaid:=
 OpenClaim.holds_of_cond 4 Tryz.f4 rfl rfl rfl rfl rfl rfl rfl ⟨rfl,rfl,rfl,rfl,rfl⟩ rfl rfl rfl rfl rfl kr func4 closed
  (of_decide_eq_true kr) (by unfold Func.isWrapper; rw[if_neg (of_decide_eq_false kr)]; exact ⟨rfl,rfl⟩)
  (fun os started H enc _ F=>by rw[OpenClaim.pre_eq_preRow]; exact lifted os started H enc F)
theorem plain (f:FuncId) (fn:Func) (hf:Tryz.pinned.checked.prog.funcNamed Rows.disposalChangesUptoRow.func=some f) (hfn:Tryz.pinned.checked.prog.funcs[f]? = some fn):
  true=Tryz.pinned.checked.prog.looks []/\∀(j:Nat) t,fn.params[j]? = some t->Tryz.pinned.checked.prog.wantsStandIn t=false:=by
 obtain rfl:f=4:=Option.some.inj ((show prog.funcNamed Rows.disposalChangesUptoRow.func=some 4 by kernel_rfl).symm.trans hf) |>.symm;obtain rfl:fn=Tryz.f4:=(Option.some.inj (func4.symm.trans hfn)).symm;refine ⟨kr,fun j t ht=> ?_⟩;rw[Tryz.params4] at ht;have hm:=Array.mem_of_getElem? ht;simp only[List.mem_toArray,List.mem_cons,List.mem_nil_iff,or_false] at hm;rcases hm with rfl | rfl | rfl | rfl | rfl
 ·exact (show prog.wantsStandIn 34=false by kernel_rfl)
 ·exact (show prog.wantsStandIn 49=false by kernel_rfl)
 ·exact (show prog.wantsStandIn 51=false by kernel_rfl)
 ·exact (show prog.wantsStandIn 3=false by kernel_rfl)
 ·exact (show prog.wantsStandIn 3=false by kernel_rfl)
end Go.Proofs.YtdljpbdmcgmalaaGreatDoor.disposalChanges
namespace Go.Proofs.YtdljpbdmcgmalaaGreatDoor
theorem disposalChanges_upto:Rows.DisposalChangesUptoCardSaid:=
 Claim7.holds_tied_plain_at .later [] _ _ _ _ disposalChanges.said (fun _ h=>by cases h) (by as_aux_lemma=>kernel_rfl) (fun _ h=>by cases h) disposalChangesUpto_row_tie rfl ⟨rfl,rfl⟩ (by as_aux_lemma=>kernel_rfl) rfl disposalChanges.plain (Go.Arc.goesBy_none rfl Go.Arc.noneGoes)
end Go.Proofs.YtdljpbdmcgmalaaGreatDoor
