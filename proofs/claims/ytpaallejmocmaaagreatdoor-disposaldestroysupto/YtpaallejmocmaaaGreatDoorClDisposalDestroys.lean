/-
 Ready and Destroy return what the definitions specify,or the specified errors,for every registry,proposal and day (the law answers true),whatever the input of bulk at most 2^20 is. Conditions:the listed tables of the library lie as its text lays them (the card ties them to the text);of internal/bytealg.MaxLen:some number.
-/
import Derived.Test.YtpaallejmocmaaaGreatDoorCl11
import Derived.Test.YtpaallejmocmaaaGreatDoorBaR
set_option maxHeartbeats 40000000
namespace Go.Proofs.YtpaallejmocmaaaGreatDoor.disposalDestroys
open Go.Arc Go.Ab Go.RowKit Go.Proofs Go.ChangeShapes Go.WideShapes Go.ChangeAt Tryz
set_option maxRecDepth 100000
theorem reads(os:Os){H:Type}(enc:TypeId×Value->H):∃places,DataW.whole enc prog ((World.laidAll prog os Rows.disposalDestroysRow.laid).forCall (fun _ _=>0) ⟨#[],#[.agg #[.slice none 0 0,.slice none 0 0,.slice none 0 0,.slice none 0 0,.slice none 0 0,.slice none 0 0,.slice none 0 0,.slice none 0 0,.slice none 0 0,.slice none 0 0,.slice none 0 0,.int .i64 0],.int .i64 0,.int .i64 0],[]⟩).memory Tryz.f3.params.toList Rows.disposalDestroysSpec.vars false [(.agg #[.slice none 0 0,.slice none 0 0,.slice none 0 0,.slice none 0 0,.slice none 0 0,.slice none 0 0,.slice none 0 0,.slice none 0 0,.slice none 0 0,.slice none 0 0,.slice none 0 0,.int .i64 0]),(.int .i64 0),(.int .i64 0)] 8=some ([.agg [.nil,.nil,.nil,.nil,.nil,.nil,.nil,.nil,.nil,.nil,.nil,.lit (.int .i64 0)],.lit (.int .i64 0),.lit (.int .i64 0)],[],places):=by
 refine⟨[],?_⟩;kernel_rfl
theorem qtx(os:Os)(started:os.Started)(H:Type)(enc:TypeId×Value->H)(F:Stop.Interp):
  ReturnsInHanded {} Tryz.checked os 3 .any ((Rows.OpenSpec.upto Rows.disposalDestroysSpec).preRow enc prog Tryz.f3 Rows.disposalDestroysUptoRow.domain false Rows.disposalDestroysUptoRow.laid) (((Rows.OpenSpec.upto Rows.disposalDestroysSpec).at F).post enc prog Tryz.f3 false true false false):=by
 obtain⟨places,hx⟩:=reads os enc
 refine returnsInHanded_of_row (C:=Tryz.checked) (s:=Rows.OpenSpec.upto Rows.disposalDestroysSpec) ownKn started krq func3
  (qg5 (enc:=enc) (C:=Tryz.checked) (World.laidAll prog os Rows.disposalDestroysRow.laid) #[.agg #[.slice none 0 0,.slice none 0 0,.slice none 0 0,.slice none 0 0,.slice none 0 0,.slice none 0 0,.slice none 0 0,.slice none 0 0,.slice none 0 0,.slice none 0 0,.slice none 0 0,.int .i64 0],.int .i64 0,.int .i64 0] (World.laidAll_os _ _ _) (qrm os _) krq
   (OpenSpec.preRow_of_cond 8 hx krq (fun k hk=>by cases hk;kernel_rfl) krq (qll os _))) ?_
 intro W base args ds gs before hval0 hW _ hcond _ hL hsh _;have hval:∀(j:Nat) t v,Tryz.f3.params[j]?=some t->args[j]?=some v->Value.okWide prog W .any base t v:=hval0;have hk:Rows.uptoBulkAll (ds++gs)<=1048576:=xp (hcond _ rfl);have hW':=hW;obtain⟨p,q,hA0,hV,rfl,-,-⟩:=hW;have hA:DataW.TrodAll enc prog W 0 (fun _=>true) true Tryz.f3.params.toList args.toList ds p:=hA0;rw[Tryz.params3] at hA hval;obtain⟨rfl,rfl⟩:=trodVars_none hV;obtain⟨v0,vs0,d0,ds0,p0,q0,hargs,rfl,rfl,h0,r0⟩:=trodAll_cons hA;obtain⟨v1,vs1,d1,ds1,p1,q1,rfl,rfl,rfl,h1,r1⟩:=trodAll_cons r0;obtain⟨v2,vs2,d2,ds2,p2,q2,rfl,rfl,rfl,h2,r2⟩:=trodAll_cons r1;obtain⟨rfl,rfl,rfl⟩:=trodAll_nil r2;obtain rfl:args= #[v0,v1,v2]:=by cases args;simp_all
 simp only[List.cons_append,List.nil_append,Rows.uptoBulkAll] at hk;obtain⟨r0g,a0,b0⟩:=qtr (hval 0 34 v0 rfl rfl) h0 omq;obtain⟨n1,a1,b1⟩:=qcc (hval 1 3 v1 rfl rfl) h1 omq;obtain⟨n2,a2,b2⟩:=qcc (hval 2 3 v2 rfl rfl) h2 omq;refine(qlk (qdj (qlg (qs3 hL) hsh) r0g n1 n2 b0) (jkn a0 (jkn a1 (jkn a2 qou)))).mono ?_;rintro e W' ⟨rfl,hb⟩;exact⟨_,rfl,ql2 hW' rfl rfl krq (by rw[Tryz.params3];intro t ht;simp only[vg,List.mem_nil_iff,ya] at ht;rcases ht with rfl|rfl|rfl<;>exact⟨krq,xp krq⟩) hb⟩
theorem closed:joinedFacts Tryz.pinned.checked.prog 3 Tryz.f3 (Rows.OpenSpec.upto Rows.disposalDestroysSpec).bare Rows.disposalDestroysUptoRow=true:=by
 unfold joinedFacts
 repeat' (with_reducible refine and_i ?_ ?_)
 all_goals (as_aux_lemma=>kernel_rfl)
theorem said:Rows.DisposalDestroysUptoSaid:=
 OpenClaim.holds_of_cond 3 Tryz.f3 rfl rfl rfl rfl rfl rfl rfl ⟨rfl,rfl,rfl,rfl,rfl⟩ rfl rfl rfl rfl rfl krq func3 closed
  (xp krq) (by unfold Func.isWrapper;rw[ul (of_decide_eq_false krq)];exact⟨rfl,rfl⟩)
  (fun os started H enc _ F=>by rw[OpenClaim.pre_eq_preRow];exact qtx os started H enc F)
theorem plain(f:FuncId)(fn:Func)(hf:Tryz.pinned.checked.prog.funcNamed Rows.disposalDestroysUptoRow.func=some f)(hfn:Tryz.pinned.checked.prog.funcs[f]?=some fn):
  true=Tryz.pinned.checked.prog.looks []/\∀(j:Nat) t,fn.params[j]?=some t->Tryz.pinned.checked.prog.wantsStandIn t=false:=by
 obtain rfl:f=3:=xf ((show prog.funcNamed Rows.disposalDestroysUptoRow.func=some 3 by kernel_rfl).symm.trans hf) |>.symm;obtain rfl:fn=Tryz.f3:=(xf (func3.symm.trans hfn)).symm;refine⟨krq,fun j t ht=>?_⟩;rw[Tryz.params3] at ht;have hm:=Array.mem_of_getElem? ht;simp only[List.mem_toArray,vg,List.mem_nil_iff,ya] at hm;rcases hm with rfl|rfl|rfl
 .exact(show prog.wantsStandIn 34=false by kernel_rfl)
 .exact(show prog.wantsStandIn 3=false by kernel_rfl)
 exact(show prog.wantsStandIn 3=false by kernel_rfl)
end Go.Proofs.YtpaallejmocmaaaGreatDoor.disposalDestroys
namespace Go.Proofs.YtpaallejmocmaaaGreatDoor
theorem disposalDestroys_upto:Rows.DisposalDestroysUptoCardSaid:=
 Claim7.holds_tied_plain_at .later [] _ _ _ _ disposalDestroys.said (fun _ h=>by cases h) (by as_aux_lemma=>kernel_rfl) (fun _ h=>by cases h) disposalDestroysUpto_row_tie rfl ⟨rfl,rfl⟩ (by as_aux_lemma=>kernel_rfl) rfl disposalDestroys.plain (Go.Arc.goesBy_none rfl Go.Arc.noneGoes)
end Go.Proofs.YtpaallejmocmaaaGreatDoor
