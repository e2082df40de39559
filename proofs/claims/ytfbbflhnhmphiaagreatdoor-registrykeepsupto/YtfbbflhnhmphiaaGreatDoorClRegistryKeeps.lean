/-
 Behind each event the registry has no jn,its last change is on the day of the event,and no file,clerk,certificate or departure ever disappears (the law answers true),whatever the input of bulk at most 2^20 is. Conditions:the listed tables of the library lie as its text lays them (the card ties them to the text);of internal/bytealg.MaxLen:some number.
-/
import Derived.Test.YtfbbflhnhmphiaaGreatDoorCl15
import Derived.Test.YtfbbflhnhmphiaaGreatDoorBcA
set_option maxHeartbeats 40000000
namespace Go.Proofs.YtfbbflhnhmphiaaGreatDoor.registryKeeps
open Go.Arc Go.Ab Go.RowKit Go.Proofs Go.ChangeShapes Go.WideShapes Go.ChangeAt Tryz
set_option maxRecDepth 100000
theorem reads(os:Os){H:Type}(enc:TypeId×Value->H):∃places,DataW.whole enc prog ((World.laidAll prog os Rows.registryKeepsRow.laid).forCall (fun _ _=>0) ⟨#[],#[.slice none 0 0],[]⟩).memory Tryz.f3.params.toList Rows.registryKeepsSpec.vars false [(.slice none 0 0)] 8=some ([.nil],[],places):=by
 refine⟨[],?_⟩;kernel_rfl
theorem jat(os:Os)(started:os.Started)(H:Type)(enc:TypeId×Value->H)(F:Stop.Interp):
  ReturnsInHanded {} Tryz.checked os 3 .any ((Rows.OpenSpec.upto Rows.registryKeepsSpec).preRow enc prog Tryz.f3 Rows.registryKeepsUptoRow.domain false Rows.registryKeepsUptoRow.laid) (((Rows.OpenSpec.upto Rows.registryKeepsSpec).at F).post enc prog Tryz.f3 false true false false):=by
 obtain⟨places,hx⟩:=reads os enc
 refine returnsInHanded_of_row (C:=Tryz.checked) (s:=Rows.OpenSpec.upto Rows.registryKeepsSpec) jjd started krq func3
  (jge (enc:=enc) (C:=Tryz.checked) (World.laidAll prog os Rows.registryKeepsRow.laid) #[.slice none 0 0] (World.laidAll_os _ _ _) (jif os _) krq
   (OpenSpec.preRow_of_cond 8 hx krq (fun k hk=>by cases hk;kernel_rfl) krq (jhg os _))) ?_
 intro W base args ds gs before hval0 hW _ hcond _ hL hsh _;have hval:∀(j:Nat) t v,Tryz.f3.params[j]?=some t->args[j]?=some v->Value.okWide prog W .any base t v:=hval0;have hk:Rows.uptoBulkAll (ds++gs)<=1048576:=xj (hcond _ rfl);have hW':=hW;obtain⟨p,q,hA0,hV,rfl,-,-⟩:=hW;have hA:DataW.TrodAll enc prog W 0 (fun _=>true) true Tryz.f3.params.toList args.toList ds p:=hA0;rw[Tryz.params3] at hA hval;obtain⟨rfl,rfl⟩:=trodVars_none hV;obtain⟨v0,vs0,d0,ds0,p0,q0,hargs,rfl,rfl,h0,r0⟩:=trodAll_cons hA;obtain⟨rfl,rfl,rfl⟩:=trodAll_nil r0;obtain rfl:args= #[v0]:=by cases args;simp_all
 simp only[List.cons_append,List.nil_append,Rows.uptoBulkAll] at hk;obtain⟨l0,a0,b0⟩:=jij (hval 0 22 v0 rfl rfl) h0 omq;refine(jhf (qeo (jhe (jin hL) hsh) l0 b0.1) (jab a0 jhw)).mono ?_;rintro e W' ⟨rfl,hb⟩;exact⟨_,rfl,jhb hW' rfl rfl krq (by rw[Tryz.params3];intro t ht;simp only[vt,xbh,xx] at ht;subst ht;exact⟨krq,xj krq⟩) hb⟩
theorem closed:joinedFacts Tryz.pinned.checked.prog 3 Tryz.f3 (Rows.OpenSpec.upto Rows.registryKeepsSpec).bare Rows.registryKeepsUptoRow=true:=by
 unfold joinedFacts
 repeat' (with_reducible refine and_i ?_ ?_)
 all_goals (as_aux_lemma=>kernel_rfl)
theorem said:Rows.RegistryKeepsUptoSaid:=
 OpenClaim.holds_of_cond 3 Tryz.f3 rfl rfl rfl rfl rfl rfl rfl ⟨rfl,rfl,rfl,rfl,rfl⟩ rfl rfl rfl rfl rfl krq func3 closed
  (xj krq) zer
  (fun os started H enc _ F=>by rw[OpenClaim.pre_eq_preRow];exact jat os started H enc F)
theorem plain(f:FuncId)(fn:Func)(hf:Tryz.pinned.checked.prog.funcNamed Rows.registryKeepsUptoRow.func=some f)(hfn:Tryz.pinned.checked.prog.funcs[f]?=some fn):
  true=Tryz.pinned.checked.prog.looks []/\∀(j:Nat) t,fn.params[j]?=some t->Tryz.pinned.checked.prog.wantsStandIn t=false:=by
 obtain rfl:f=3:=xt ((show prog.funcNamed Rows.registryKeepsUptoRow.func=some 3 by kernel_rfl).symm.trans hf) |>.symm;obtain rfl:fn=Tryz.f3:=(xt (func3.symm.trans hfn)).symm;refine⟨krq,fun j t ht=>?_⟩;rw[Tryz.params3] at ht;have hm:=xcr ht;simp only[List.mem_toArray,vt,xbh,xx] at hm;subst hm;exact zb0
end Go.Proofs.YtfbbflhnhmphiaaGreatDoor.registryKeeps
namespace Go.Proofs.YtfbbflhnhmphiaaGreatDoor
theorem registryKeeps_upto:Rows.RegistryKeepsUptoCardSaid:=
 Claim7.holds_tied_plain_at .later [] _ _ _ _ registryKeeps.said (fun _ h=>by cases h) zet (fun _ h=>by cases h) registryKeepsUpto_row_tie rfl ⟨rfl,rfl⟩ zet rfl registryKeeps.plain (Go.Arc.goesBy_none rfl Go.Arc.noneGoes)
end Go.Proofs.YtfbbflhnhmphiaaGreatDoor
