/-
  Adding a note changes no trigger of a day before the one on which it was recorded, and closing none before the closing; lists without a fault remain without one (the law answers true), whatever the input of bulk at most 2^20 is. Conditions: the listed tables of the library lie as its text lays them (the card ties them to the text); of internal/bytealg.MaxLen: some number.
-/
import Derived.Test.YtbofgklhjjfbkaaGreatDoorCl8
import Derived.Test.YtbofgklhjjfbkaaGreatDoorW38
namespace Go.Proofs.YtbofgklhjjfbkaaGreatDoor.filePast
open Go.Arc Go.Ab Go.RowKit Go.Proofs Go.ChangeShapes Go.WideShapes Go.ChangeAt
set_option maxRecDepth 100000
theorem reads (os : Os) {H : Type} (enc : TypeId × Value → H) : ∃ places, DataW.whole enc Tryz.prog ((World.laidAll Tryz.prog os Rows.fileTriggersRow.laid).forCall (fun _ _ => 0) ⟨#[], #[.slice none 0 0, .slice none 0 0, .slice none 0 0, .int .i64 0, .int .i64 0, .agg #[.string ⟨#[]⟩, .int .i64 0, .int .i64 0, .int .i64 0], .string ⟨#[]⟩, .int .i64 0], []⟩).memory Tryz.f9.params.toList Rows.filePastSpec.vars false [(.slice none 0 0), (.slice none 0 0), (.slice none 0 0), (.int .i64 0), (.int .i64 0), (.agg #[.string ⟨#[]⟩, .int .i64 0, .int .i64 0, .int .i64 0]), (.string ⟨#[]⟩), (.int .i64 0)] 8 = some ([.nil, .nil, .nil, .lit (.int .i64 0), .lit (.int .i64 0), .agg [.lit (.string []), .agg [.lit (.int .i64 0), .lit (.int .i64 0)], .lit (.int .i64 0)], .lit (.string []), .lit (.int .i64 0)], [], places) := by
  refine ⟨[], ?_⟩
  kernel_rfl
theorem lifted (os : Os) (started : os.Started) (H : Type) (enc : TypeId × Value → H) (F : Stop.Interp) :
    ReturnsInHanded {} Tryz.checked os 9 .any ((Rows.OpenSpec.upto Rows.filePastSpec).preRow enc Tryz.prog Tryz.f9 Rows.filePastUptoRow.domain false Rows.filePastUptoRow.laid) (((Rows.OpenSpec.upto Rows.filePastSpec).at F).post enc Tryz.prog Tryz.f9 false true false false) := by
  obtain ⟨places, hx⟩ := reads os enc
  refine returnsInHanded_of_row (C := Tryz.checked) (s := Rows.OpenSpec.upto Rows.filePastSpec) ownKn started (by kernel_rfl) Tryz.func9
    (witness_zip (enc := enc) (C := Tryz.checked) (World.laidAll Tryz.prog os Rows.fileTriggersRow.laid) #[.slice none 0 0, .slice none 0 0, .slice none 0 0, .int .i64 0, .int .i64 0, .agg #[.string ⟨#[]⟩, .int .i64 0, .int .i64 0, .int .i64 0], .string ⟨#[]⟩, .int .i64 0] (World.laidAll_os _ _ _) (shaped0 os _) (by kernel_rfl)
      (OpenSpec.preRow_of_cond 8 hx (by kernel_rfl) (fun k hk => by cases hk; kernel_rfl) (by kernel_rfl) (laid_metH os _))) ?_
  intro W base args ds gs before hval0 hW _ hcond _ hL hsh _
  have hval : ∀ (j : Nat) t v, Tryz.f9.params[j]? = some t → args[j]? = some v → Value.okWide Tryz.prog W .any base t v := hval0
  have hk : Rows.uptoBulkAll (ds ++ gs) ≤ 1048576 := of_decide_eq_true (hcond _ rfl)
  have hW' := hW
  obtain ⟨p, q, hA0, hV, rfl, -, -⟩ := hW
  have hA : DataW.TrodAll enc Tryz.prog W 0 (fun _ => true) true Tryz.f9.params.toList args.toList ds p := hA0
  rw [Tryz.params9] at hA hval
  obtain ⟨rfl, rfl⟩ := trodVars_none hV
  obtain ⟨v0, vs0, d0, ds0, p0, q0, hargs, rfl, rfl, h0, r0⟩ := trodAll_cons hA
  obtain ⟨v1, vs1, d1, ds1, p1, q1, rfl, rfl, rfl, h1, r1⟩ := trodAll_cons r0
  obtain ⟨v2, vs2, d2, ds2, p2, q2, rfl, rfl, rfl, h2, r2⟩ := trodAll_cons r1
  obtain ⟨v3, vs3, d3, ds3, p3, q3, rfl, rfl, rfl, h3, r3⟩ := trodAll_cons r2
  obtain ⟨v4, vs4, d4, ds4, p4, q4, rfl, rfl, rfl, h4, r4⟩ := trodAll_cons r3
  obtain ⟨v5, vs5, d5, ds5, p5, q5, rfl, rfl, rfl, h5, r5⟩ := trodAll_cons r4
  obtain ⟨v6, vs6, d6, ds6, p6, q6, rfl, rfl, rfl, h6, r6⟩ := trodAll_cons r5
  obtain ⟨v7, vs7, d7, ds7, p7, q7, rfl, rfl, rfl, h7, r7⟩ := trodAll_cons r6
  obtain ⟨rfl, rfl, rfl⟩ := trodAll_nil r7
  obtain rfl : args = #[v0, v1, v2, v3, v4, v5, v6, v7] := by cases args; simp_all
  simp only [List.cons_append, List.nil_append, Rows.uptoBulkAll] at hk
  obtain ⟨o0, a0, b0⟩ := op_ofcs (hval 0 59 v0 rfl rfl) h0 (by omega)
  obtain ⟨l1, a1, b1⟩ := op_plans (hval 1 36 v1 rfl rfl) h1 (by omega)
  obtain ⟨l2, a2, b2⟩ := op_fils (hval 2 27 v2 rfl rfl) h2 (by omega)
  obtain ⟨n3, a3, b3⟩ := op_int (hval 3 3 v3 rfl rfl) h3 (by omega)
  obtain ⟨n4, a4, b4⟩ := op_int (hval 4 3 v4 rfl rfl) h4 (by omega)
  obtain ⟨q5, a5, b5⟩ := op_note (hval 5 43 v5 rfl rfl) h5 (by omega)
  obtain ⟨s6, a6, b6⟩ := op_str (hval 6 9 v6 rfl rfl) h6 (by omega)
  obtain ⟨n7, a7, b7⟩ := op_int (hval 7 3 v7 rfl rfl) h7 (by omega)
  refine (law_calls (den_FilePast (libC (lib_facts (laid_of hL) hsh)) o0 l1 l2 n3 n4 q5 s6 n7 b0 b1 b2 b5) (reps_cons a0 (reps_cons a1 (reps_cons a2 (reps_cons a3 (reps_cons a4 (reps_cons a5 (reps_cons a6 (reps_cons a7 reps_nil))))))))).mono ?_
  rintro e W' ⟨rfl, hb⟩
  exact ⟨_, rfl, post_true hW' rfl rfl (by kernel_rfl) (by rw [Tryz.params9]; intro t ht; simp only [List.mem_cons, List.mem_nil_iff, or_false] at ht; rcases ht with rfl | rfl | rfl | rfl | rfl | rfl | rfl | rfl <;> exact ⟨by kernel_rfl, of_decide_eq_true (by kernel_rfl)⟩) hb⟩
theorem said : Rows.FilePastUptoSaid :=
  OpenClaim.holds_of_cond 9 Tryz.f9 rfl rfl rfl rfl rfl rfl rfl ⟨rfl, rfl, rfl, rfl, rfl⟩ rfl rfl rfl rfl rfl (by kernel_rfl) Tryz.func9 (by kernel_rfl)
    (of_decide_eq_true (by kernel_rfl)) (by unfold Func.isWrapper; rw [if_neg (of_decide_eq_false (by kernel_rfl))]; exact ⟨rfl, rfl⟩)
    (fun os started H enc _ F => by rw [OpenClaim.pre_eq_preRow]; exact lifted os started H enc F)
theorem plain (f : FuncId) (fn : Func) (hf : Tryz.pinned.checked.prog.funcNamed Rows.filePastUptoRow.func = some f) (hfn : Tryz.pinned.checked.prog.funcs[f]? = some fn) :
    true = Tryz.pinned.checked.prog.looks [] ∧ ∀ (j : Nat) t, fn.params[j]? = some t → Tryz.pinned.checked.prog.wantsStandIn t = false := by
  obtain rfl : f = 9 := Option.some.inj ((show Tryz.prog.funcNamed Rows.filePastUptoRow.func = some 9 by kernel_rfl).symm.trans hf) |>.symm
  obtain rfl : fn = Tryz.f9 := (Option.some.inj (Tryz.func9.symm.trans hfn)).symm
  refine ⟨by kernel_rfl, fun j t ht => ?_⟩
  rw [Tryz.params9] at ht
  have hm := Array.mem_of_getElem? ht
  simp only [List.mem_toArray, List.mem_cons, List.mem_nil_iff, or_false] at hm
  rcases hm with rfl | rfl | rfl | rfl | rfl | rfl | rfl | rfl
  · exact (show Tryz.prog.wantsStandIn 59 = false by kernel_rfl)
  · exact (show Tryz.prog.wantsStandIn 36 = false by kernel_rfl)
  · exact (show Tryz.prog.wantsStandIn 27 = false by kernel_rfl)
  · exact (show Tryz.prog.wantsStandIn 3 = false by kernel_rfl)
  · exact (show Tryz.prog.wantsStandIn 3 = false by kernel_rfl)
  · exact (show Tryz.prog.wantsStandIn 43 = false by kernel_rfl)
  · exact (show Tryz.prog.wantsStandIn 9 = false by kernel_rfl)
  · exact (show Tryz.prog.wantsStandIn 3 = false by kernel_rfl)
end Go.Proofs.YtbofgklhjjfbkaaGreatDoor.filePast
namespace Go.Proofs.YtbofgklhjjfbkaaGreatDoor
theorem filePast_upto : Rows.FilePastUptoCardSaid :=
  Claim7.holds_tied_plain_at .later [] _ _ _ _ filePast.said (fun _ h => by cases h) (by kernel_rfl) (fun _ h => by cases h) filePastUpto_row_tie rfl ⟨rfl, rfl⟩ (by kernel_rfl) rfl filePast.plain (by kernel_rfl)
end Go.Proofs.YtbofgklhjjfbkaaGreatDoor
