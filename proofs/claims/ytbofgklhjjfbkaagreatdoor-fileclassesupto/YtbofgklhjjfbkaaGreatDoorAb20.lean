/-
  The driver: as far as nothing has to be decided or given.
-/
import Derived.Test.YtbofgklhjjfbkaaGreatDoorAb19
namespace Go.Ab
open Go.RowKit
variable {P : Program} {T : Lay}

theorem aw_reg {id : Nat} {ops : Array Oper} {l : List Oper} {st : St} {Q : AX → St → Prop} (hl : ops.toList = l) (h : awO P T l l st (Q .nm)) : aw P T (.region id ops false) st Q := by
  subst hl; exact h
theorem aw_drw {id : Nat} {ops : Array Oper} {l : List Oper} {n : Nat} {t : List (Nat × TV)} {h : List (Nat × Blk)} {o : List (TypeId × List Nat)} {h' : List (Nat × Blk)} {Q : AX → St → Prop} (hl : ops.toList = l) (hB : Region.lexB .any ops = true) (hd : dstsB n o l = true)
    (hh : frzR (St.mk n t h o).σ l h = h') (k : awD P T l l ⟨n, t, h', o⟩ (Q .nm)) : aw P T (.region id ops true) ⟨n, t, h, o⟩ Q := by
  subst hl hh; exact ⟨hB, hd, k⟩
theorem nat_nn (k : Nat) : (0 ≤ (k : Int)) = True := eq_true (Int.natCast_nonneg k)
theorem wrap_in (n : Int) (h1 : -9223372036854775808 ≤ n) (h2 : n ≤ 9223372036854775807) : IntKind.i64.wrap n = n := IntWalk.i64_in n ⟨h1, h2⟩
theorem look_cons' {α : Type} (i j : Nat) (x : α) (r : List (Nat × α)) : look i ((j, x) :: r) = if i = j then some x else look i r := look_cons i j x r
theorem toNat_cast (k : Nat) : ((k : Int)).toNat = k := Int.toNat_natCast k
theorem and_t (p : Prop) : (True ∧ p) = p := true_and p
theorem remo_cons (d : Nat) (e : TypeId) (c : List Nat) (o : List (TypeId × List Nat)) : remo d ((e, c) :: o) = (e, c.filter fun i => !Nat.beq i d) :: remo d o := rfl
theorem addo_cons (i d : Nat) (e : TypeId) (c : List Nat) (o : List (TypeId × List Nat)) : addo i d ((e, c) :: o) = (if c.contains i = true then (e, d :: c) else (e, c)) :: addo i d o := rfl
theorem delo_cons (i : Nat) (e : TypeId) (c : List Nat) (o : List (TypeId × List Nat)) : delo i ((e, c) :: o) = (if c.contains i = true then (e, []) else (e, c)) :: delo i o := rfl
theorem flt_nil (d : Nat) : List.filter (fun i => !Nat.beq i d) [] = [] := rfl
theorem flt_cons (d j : Nat) (c : List Nat) : List.filter (fun i => !Nat.beq i d) (j :: c) = if j = d then List.filter (fun i => !Nat.beq i d) c else j :: List.filter (fun i => !Nat.beq i d) c := by
  by_cases h : j = d
  · subst h; simp
  · have : Nat.beq j d = false := by
      cases hb : Nat.beq j d
      · rfl
      · exact absurd (Nat.eq_of_beq_eq_true hb) h
    simp [this, h]
theorem ctn_nil (i : Nat) : List.contains ([] : List Nat) i = false := rfl
theorem ctn_cons (i j : Nat) (c : List Nat) : List.contains (j :: c) i = (i == j || List.contains c i) := rfl
theorem wrap8_in (n : Int) (h1 : 0 ≤ n) (h2 : n ≤ 255) : IntKind.u8.wrap n = n := IntWalk.u8_in n ⟨h1, h2⟩
theorem tdiv_nat (k m : Nat) : ((k : Int)).tdiv (m : Int) = ((k / m : Nat) : Int) := by simp [Int.tdiv_eq_ediv_of_nonneg]
theorem tmod_nat (k m : Nat) : ((k : Int)).tmod (m : Int) = ((k % m : Nat) : Int) := by simp [Int.tmod_eq_emod_of_nonneg]
theorem tdiv_10 (k : Nat) : ((k : Int)).tdiv 10 = ((k / 10 : Nat) : Int) := tdiv_nat k 10
theorem tmod_10 (k : Nat) : ((k : Int)).tmod 10 = ((k % 10 : Nat) : Int) := tmod_nat k 10
theorem ten_ne : ((10 : Int) = 0) = False := by simp
theorem one_int (k : IntKind) (n : Int) : (Value.int k n).oneCell' = true := rfl
theorem one_bool (b : Bool) : (Value.bool b).oneCell' = true := rfl
theorem one_nil : (Value.slice none 0 0).oneCell' = true := rfl
theorem one_nili : Value.nilIface.oneCell' = true := rfl
theorem nn_t (a : Int) (h : 0 ≤ a) : (0 ≤ a) = True := eq_true h
theorem toNat_s (k : Nat) : ((k : Int) + 1).toNat = k + 1 := by omega
theorem toNat_p (k : Nat) : ((k : Int) - 1).toNat = k - 1 := by omega
theorem ite_le_t {α : Sort _} {a b : Nat} [inst : Decidable (a ≤ b)] (x y : α) (h : a ≤ b) : @ite α (a ≤ b) inst x y = x := if_pos h
theorem b_ft : (false == true) = false := rfl
theorem b_tf : (true == false) = false := rfl
theorem dec_lt_t (a b : Int) (h : a < b) : decide (a < b) = true := by simpa using h
theorem dec_lt_f (a b : Int) (h : b ≤ a) : decide (a < b) = false := by simpa using h
theorem dec_le_t (a b : Int) (h : a ≤ b) : decide (a ≤ b) = true := by simpa using h
theorem dec_le_f (a b : Int) (h : b < a) : decide (a ≤ b) = false := by simpa using h
theorem dec_eq_t (a b : Int) (h : a = b) : decide (a = b) = true := by simpa using h
theorem dec_eq_f (a b : Int) (h : a ≠ b) : decide (a = b) = false := by simpa using h

/-! simp is to look at the state alone -/
@[congr] theorem awO_cg {l rest : List Oper} {st st' : St} {K : St → Prop} (h : st = st') : awO P T l rest st K = awO P T l rest st' K := by rw [h]
@[congr] theorem awD_cg {l rest : List Oper} {st st' : St} {K : St → Prop} (h : st = st') : awD P T l rest st K = awD P T l rest st' K := by rw [h]
@[congr] theorem aw_cg {c : Code} {st st' : St} {Q : AX → St → Prop} (h : st = st') : aw P T c st Q = aw P T c st' Q := by rw [h]
@[congr] theorem awOk_cg {l rest : List Oper} {K : St → Prop} : awOk P T l rest K = awOk P T l rest K := rfl
@[congr] theorem awDk_cg {l rest : List Oper} {K : St → Prop} : awDk P T l rest K = awDk P T l rest K := rfl
@[congr] theorem awk_cg {y : Code} {Q : AX → St → Prop} : awk P T y Q = awk P T y Q := rfl
@[congr] theorem sqk_cg {y : Code} {Q : AX → St → Prop} : sqk P T y Q = sqk P T y Q := rfl
@[congr] theorem sq_cg {A : St → Prop} {Q : AX → St → Prop} : sq A Q = sq A Q := rfl
@[congr] theorem blk_cg {id : Nat} {Q : AX → St → Prop} : blk id Q = blk id Q := rfl

/-- as far as the run goes; what is left -/
theorem run {p q : Prop} (h : q) (e : q → p := by
    intro h
    repeat (first
      | refine aw_seq ?_
      | refine aw_block ?_
      | refine aw_skip ?_
      | refine aw_ret ?_
      | refine aw_exit ?_
      | with_reducible refine And.intro (by clear h; (first | omega | (simp only [List.length_append, List.length_cons, List.length_nil, List.length_drop, List.length_take, List.length_map]; omega))) ?_
      | refine aw_reg rfl ?_
      | refine aw_drw rfl (by kernel_rfl) (by rfl) (by (try simp only [frzR, frzC, frz1, frzB, opv_tmp, σ_mk, look_cons', look_nil, Nat.reduceEqDiff, ↓reduceIte]) <;> exact rfl) ?_
      | (refine aw_cond_t ?_ ?_
         · (simp only [opv_tmp, σ_mk, look_cons', Nat.reduceEqDiff, ↓reduceIte, vOf_v]; done))
      | (refine aw_cond_f ?_ ?_
         · (simp only [opv_tmp, σ_mk, look_cons', Nat.reduceEqDiff, ↓reduceIte, vOf_v]; done))
      | (simp (config := {maxSteps := 1000000, implicitDefEqProofs := false}) (disch := (first | omega | (simp only [List.length_append, List.length_cons, List.length_nil, List.length_drop, List.length_take, List.length_map]; omega))) only [↓awO_cons, awO_nil, ↓awD_cons, awD_nil, ↓gsel_true, ↓gsel_false, stepO, stepD, gdV, movK, putK, retK, retD, retM, evK, awOk_app, awDk_app, awk_app,
          opv_tmp, opv_func, opv_int, opv_bool, opv_nil, opv_nili, opv_tup, opv_str, vOf_v, vOf_p, vOf_s, vOf_m, nu_v, nu_p, nu_m, nu_s, tvsOf, cutS_in, cutS_no, idxS_in, cutV_nn, cutV_ns, cutV_sn, cutV_ss, clearK, argsT, re, σ_mk, args0, remo_nil, addo_nil, delo_nil, remo_cons, addo_cons, delo_cons, flt_nil, flt_cons, ctn_nil, ctn_cons, ownOf, owner, appK, appS, appX,
          look_cons', look_nil, seth, setAt, Nat.reduceEqDiff, Nat.reduceBEq, Nat.reduceBNe, ↓reduceIte, Nat.reduceAdd, Nat.reduceLT, Nat.reduceLeDiff, Nat.reduceSub, and_t, Bool.or_true, Bool.or_false, Bool.true_or, Bool.false_or, Bool.and_true, Bool.true_and, Bool.and_false, Bool.false_and, Option.isSome_none, Bool.false_eq_true, reduceCtorEq,
          sqk_nm, sqk_ex, sqk_rt, sq_nm, sq_ex, sq_rt, blk_nm, blk_rt, blk_same, blk_other,
          evq, evb, behind, memV, ld_cell, ld_agg, takeN, fld_eq, sl_eq, str_eq, bool_eq, ifc_eq, int_eq, und_eq, map_eq, zero_eq, zsome_eq, zok_eq, appok_eq, places_eq, zv_eq, eqt_eq, mapE, eqCells, eqC, nilK, keyT_str, keyT_int, okVal_s, okVal_i, okVal_b, ofVal_s0, ofVal_i, ofVal_b, Option.getD_none, Option.getD_some, cells_cell, cells_agg, info_cell, info_agg,
          idxV, bytV, binV, intOp, strOp, eqOp, convV, capV, capsV, lenV, sliceV, optV, vsOf, partsV, bsV, fillV, oneV, V.one, V.cells, okNot, upsert, keyEq, frzR, frzC, frz1, frzB,
          List.drop_succ_cons, List.drop_zero, List.take_succ_cons, List.take_zero, List.length_cons, List.length_nil, List.nil_append, List.cons_append, List.append_nil, Option.map_some, Option.map_none, Option.bind_some, Option.bind_none, Option.some.injEq, Option.isSome_some,
          List.getElem?_cons_zero, List.getElem?_cons_succ, List.getElem?_map, List.length_map, nat_nn, toNat_cast, b_ft, b_tf, nn_t, ite_le_t, toNat_s, toNat_p, one_int, one_bool, one_nil, one_nili, wrap8_in, tdiv_10, tmod_10, ten_ne, List.size_toArray, eq_self, if_false, if_true, Int.reduceToNat, Int.reduceLE, Int.reduceLT, Int.reduceEq, Int.reduceNeg, Nat.mul_one, Nat.one_mul, Nat.zero_add, Nat.add_zero, wrap_in, dec_lt_t, dec_lt_f, dec_le_t, dec_le_f, dec_eq_t, dec_eq_f, decide_true, decide_false, Bool.not_true, Bool.not_false, cond_true, cond_false, beq_self_eq_true]))
    exact h) : p := e h
/-- the same, with facts that it may use -/
theorem runW {p q r : Prop} (hr : r) (h : q) (e : r → q → p := by
    intro hr h
    repeat (first
      | refine aw_seq ?_
      | refine aw_block ?_
      | refine aw_skip ?_
      | refine aw_ret ?_
      | refine aw_exit ?_
      | with_reducible refine And.intro (by clear h; (first | omega | (simp only [List.length_append, List.length_cons, List.length_nil, List.length_drop, List.length_take, List.length_map]; omega))) ?_
      | refine aw_reg rfl ?_
      | refine aw_drw rfl (by kernel_rfl) (by rfl) (by (try simp only [frzR, frzC, frz1, frzB, opv_tmp, σ_mk, look_cons', look_nil, Nat.reduceEqDiff, ↓reduceIte]) <;> exact rfl) ?_
      | (refine aw_cond_t ?_ ?_
         · (simp only [opv_tmp, σ_mk, look_cons', Nat.reduceEqDiff, ↓reduceIte, vOf_v]; done))
      | (refine aw_cond_f ?_ ?_
         · (simp only [opv_tmp, σ_mk, look_cons', Nat.reduceEqDiff, ↓reduceIte, vOf_v]; done))
      | (simp (config := {maxSteps := 1000000, implicitDefEqProofs := false}) (disch := (first | omega | (simp only [List.length_append, List.length_cons, List.length_nil, List.length_drop, List.length_take, List.length_map]; omega))) only [↓awO_cons, awO_nil, ↓awD_cons, awD_nil, ↓gsel_true, ↓gsel_false, stepO, stepD, gdV, movK, putK, retK, retD, retM, evK, awOk_app, awDk_app, awk_app,
          opv_tmp, opv_func, opv_int, opv_bool, opv_nil, opv_nili, opv_tup, opv_str, vOf_v, vOf_p, vOf_s, vOf_m, nu_v, nu_p, nu_m, nu_s, tvsOf, cutS_in, cutS_no, idxS_in, cutV_nn, cutV_ns, cutV_sn, cutV_ss, clearK, argsT, re, σ_mk, args0, remo_nil, addo_nil, delo_nil, remo_cons, addo_cons, delo_cons, flt_nil, flt_cons, ctn_nil, ctn_cons, ownOf, owner, appK, appS, appX,
          look_cons', look_nil, seth, setAt, Nat.reduceEqDiff, Nat.reduceBEq, Nat.reduceBNe, ↓reduceIte, Nat.reduceAdd, Nat.reduceLT, Nat.reduceLeDiff, Nat.reduceSub, and_t, Bool.or_true, Bool.or_false, Bool.true_or, Bool.false_or, Bool.and_true, Bool.true_and, Bool.and_false, Bool.false_and, Option.isSome_none, Bool.false_eq_true, reduceCtorEq,
          sqk_nm, sqk_ex, sqk_rt, sq_nm, sq_ex, sq_rt, blk_nm, blk_rt, blk_same, blk_other,
          evq, evb, behind, memV, ld_cell, ld_agg, takeN, fld_eq, sl_eq, str_eq, bool_eq, ifc_eq, int_eq, und_eq, map_eq, zero_eq, zsome_eq, zok_eq, appok_eq, places_eq, zv_eq, eqt_eq, mapE, eqCells, eqC, nilK, keyT_str, keyT_int, okVal_s, okVal_i, okVal_b, ofVal_s0, ofVal_i, ofVal_b, Option.getD_none, Option.getD_some, cells_cell, cells_agg, info_cell, info_agg,
          idxV, bytV, binV, intOp, strOp, eqOp, convV, capV, capsV, lenV, sliceV, optV, vsOf, partsV, bsV, fillV, oneV, V.one, V.cells, okNot, upsert, keyEq, frzR, frzC, frz1, frzB,
          List.drop_succ_cons, List.drop_zero, List.take_succ_cons, List.take_zero, List.length_cons, List.length_nil, List.nil_append, List.cons_append, List.append_nil, Option.map_some, Option.map_none, Option.bind_some, Option.bind_none, Option.some.injEq, Option.isSome_some,
          List.getElem?_cons_zero, List.getElem?_cons_succ, List.getElem?_map, List.length_map, nat_nn, toNat_cast, b_ft, b_tf, nn_t, ite_le_t, toNat_s, toNat_p, one_int, one_bool, one_nil, one_nili, wrap8_in, tdiv_10, tmod_10, ten_ne, List.size_toArray, eq_self, if_false, if_true, Int.reduceToNat, Int.reduceLE, Int.reduceLT, Int.reduceEq, Int.reduceNeg, Nat.mul_one, Nat.one_mul, Nat.zero_add, Nat.add_zero, wrap_in, dec_lt_t, dec_lt_f, dec_le_t, dec_le_f, dec_eq_t, dec_eq_f, decide_true, decide_false, Bool.not_true, Bool.not_false, cond_true, cond_false, beq_self_eq_true, hr]))
    exact h) : p := e hr h

/-- a loop -/
theorem loop {x : Code} {st : St} {Q : AX → St → Prop} {α : Type} (k : Kp) (R : α → Prop) (m : α → Nat) (S : α → St) (x0 : α) (hR : R x0)
    (hr : ∀ y, R y → aw P T x (S y) (sq (lpk k R m S y) Q)) (h0 : keepS k st = some (S x0) := by
      first
      | rfl
      | (simp only [keepS, ownNils, keepT, keepH, keepO, look_cons', look_nil, Nat.reduceEqDiff, ↓reduceIte, ownOf, ctn_cons, ctn_nil, Nat.reduceBEq, List.all_nil, remo_nil, remo_cons, Bool.or_false, Bool.or_true, beq_self_eq_true]; rfl)) : aw P T (.loop x) st Q := aw_loop k R m S x0 h0 hR hr
theorem round {α : Type} {k : Kp} {R : α → Prop} {m : α → Nat} {S : α → St} {y : α} {st : St} (z : α) (hR : R z) (hm : m z < m y) (hk : keepS k st = some (S z) := by
      first
      | rfl
      | (simp only [keepS, ownNils, keepT, keepH, keepO, look_cons', look_nil, Nat.reduceEqDiff, ↓reduceIte, ownOf, ctn_cons, ctn_nil, Nat.reduceBEq, List.all_nil, remo_nil, remo_cons, Bool.or_false, Bool.or_true, beq_self_eq_true]; rfl)) : lpk k R m S y st := lpk_intro z hk hR hm

theorem resS1 {st : St} {v : V} {x : ResultVar} (h : resV P st x = some v) : resS P st [x] = some v := by simp [resS, resL, h]
theorem resS2 {st : St} {v u : V} {x y : ResultVar} (h : resV P st x = some v) (h' : resV P st y = some u) : resS P st [x, y] = some (.tup [v, u]) := by simp [resS, resL, h, h']
theorem resS3 {st : St} {v u z : V} {x y q : ResultVar} (h : resV P st x = some v) (h' : resV P st y = some u) (h'' : resV P st q = some z) : resS P st [x, y, q] = some (.tup [v, u, z]) := by simp [resS, resL, h, h', h'']
/-- the end of a function -/
theorem fin {rs : List ResultVar} {r r' : V} {st : St} (hr : r' = r) (h : resS P st rs = some r' := by
      first
      | exact resS1 rfl
      | exact resS2 rfl rfl
      | exact resS3 rfl rfl rfl
      | (refine resS1 ?_; simp only [resV, σ_mk, look_cons', Nat.reduceEqDiff, ↓reduceIte, vOf_v]; done)
      | (refine resS2 ?_ ?_ <;> (simp only [resV, σ_mk, look_cons', Nat.reduceEqDiff, ↓reduceIte, vOf_v]; done))
      | (refine resS3 ?_ ?_ ?_ <;> (simp only [resV, σ_mk, look_cons', Nat.reduceEqDiff, ↓reduceIte, vOf_v]; done))
      | (refine resS1 ?_; simp only [resV, σ_mk, look_cons', Nat.reduceEqDiff, ↓reduceIte, vOf_v]; rfl)
      | (refine resS2 ?_ ?_ <;> (simp only [resV, σ_mk, look_cons', Nat.reduceEqDiff, ↓reduceIte, vOf_v]; rfl))
      | (refine resS3 ?_ ?_ ?_ <;> (simp only [resV, σ_mk, look_cons', Nat.reduceEqDiff, ↓reduceIte, vOf_v]; rfl))) : fpost P rs r .rt st := .inl ⟨r', h, .of hr⟩
theorem finW {rs : List ResultVar} {r r' : V} {st : St} (hr : Wk r' r) (h : resS P st rs = some r' := by
      first
      | exact resS1 rfl
      | exact resS2 rfl rfl
      | exact resS3 rfl rfl rfl
      | (refine resS1 ?_; simp only [resV, σ_mk, look_cons', Nat.reduceEqDiff, ↓reduceIte, vOf_v]; done)
      | (refine resS2 ?_ ?_ <;> (simp only [resV, σ_mk, look_cons', Nat.reduceEqDiff, ↓reduceIte, vOf_v]; done))
      | (refine resS3 ?_ ?_ ?_ <;> (simp only [resV, σ_mk, look_cons', Nat.reduceEqDiff, ↓reduceIte, vOf_v]; done))
      | (refine resS1 ?_; simp only [resV, σ_mk, look_cons', Nat.reduceEqDiff, ↓reduceIte, vOf_v]; rfl)
      | (refine resS2 ?_ ?_ <;> (simp only [resV, σ_mk, look_cons', Nat.reduceEqDiff, ↓reduceIte, vOf_v]; rfl))
      | (refine resS3 ?_ ?_ ?_ <;> (simp only [resV, σ_mk, look_cons', Nat.reduceEqDiff, ↓reduceIte, vOf_v]; rfl))) : fpost P rs r .rt st := .inl ⟨r', h, hr⟩
/-- the end of a function that hands a slice over -/
theorem finO {t : Nat} {e : TypeId} {r r' : V} {st : St} (hr : Wk r' r) (h : resS P st [.tmp t] = some r' := by
      first
      | exact resS1 rfl
      | exact resS2 rfl rfl
      | exact resS3 rfl rfl rfl
      | (refine resS1 ?_; simp only [resV, σ_mk, look_cons', Nat.reduceEqDiff, ↓reduceIte, vOf_v]; done)
      | (refine resS2 ?_ ?_ <;> (simp only [resV, σ_mk, look_cons', Nat.reduceEqDiff, ↓reduceIte, vOf_v]; done))
      | (refine resS3 ?_ ?_ ?_ <;> (simp only [resV, σ_mk, look_cons', Nat.reduceEqDiff, ↓reduceIte, vOf_v]; done))
      | (refine resS1 ?_; simp only [resV, σ_mk, look_cons', Nat.reduceEqDiff, ↓reduceIte, vOf_v]; rfl)
      | (refine resS2 ?_ ?_ <;> (simp only [resV, σ_mk, look_cons', Nat.reduceEqDiff, ↓reduceIte, vOf_v]; rfl))
      | (refine resS3 ?_ ?_ ?_ <;> (simp only [resV, σ_mk, look_cons', Nat.reduceEqDiff, ↓reduceIte, vOf_v]; rfl)))
    (h2 : vOf (st.σ t) = some (.val (.slice none 0 0)) ∨ ownOf t st.o = some e := by
      first
      | (left; simp only [σ_mk, look_cons', Nat.reduceEqDiff, ↓reduceIte, vOf_v]; done)
      | (right; simp only [ownOf, ctn_cons, ctn_nil, remo_nil, remo_cons, flt_nil, flt_cons, Nat.reduceBEq, Bool.or_false, Bool.or_true, Bool.true_or, Bool.false_or, beq_self_eq_true, ↓reduceIte]; done)
      | (right; rfl)) : fpostO P [.tmp t] e r .rt st := ⟨⟨r', h, hr⟩, h2⟩
theorem callW {g : FuncId} {args args' : List V} {r : V} {k : V → Option TypeId → Prop} {kn : Nat → List (List V) → Prop} (h : Den P T g args r) (hw : Wks args' args) (hk : k r none) : Call P T g args' k kn := call (h.wk hw) hk
theorem callOW {g : FuncId} {args args' : List V} {r : V} {e : TypeId} {k : V → Option TypeId → Prop} {kn : Nat → List (List V) → Prop} (h : DenO P T g args e r) (hw : Wks args' args) (hk : k r (some e)) : Call P T g args' k kn := callO (h.wk hw) hk
/-- the end of a function that freezes what it hands over -/
theorem finF {rs : List ResultVar} {r r' : V} {st : St} (h : resS P (frzF rs st) rs = some r') (hr : Wk r' r) : fpost P rs r .rt st := .inr ⟨r', h, hr⟩
theorem frzt1_v {t : Nat} {st : St} {v : V} (h : look t st.t = some (.v v)) : frzt1 t st = st := by unfold frzt1; rw [h]
theorem frzt1_s {t id off n size : Nat} {cs : List V} {st : St} (h1 : look t st.t = some (.s id off n size)) (h2 : look id st.h = some (.var cs)) (h3 : off + n * size ≤ cs.length) :
    frzt1 t st = { st with t := (t, .v (.slice size (chunk off n size cs))) :: st.t, h := frz1 id st.h, o := remo t st.o } := by
  unfold frzt1; rw [h1]; simp only; rw [h2]; simp only; rw [if_pos h3]
/-- the end of a function that freezes a local row and hands it over -/
theorem finF1 {t id off n size : Nat} {cs : List V} {st : St} {r : V} (hr : Wk (.slice size (chunk off n size cs)) r) (h3 : off + n * size ≤ cs.length) (h1 : look t st.t = some (.s id off n size) := by rfl) (h2 : look id st.h = some (.var cs) := by rfl) : fpost P [.tmp t] r .rt st := by
  refine .inr ⟨_, ?_, hr⟩
  show resS P (frzt1 t st) _ = _
  rw [frzt1_s h1 h2 h3]
  exact resS1 (by simp only [resV, σ_mk, look_cons', ↓reduceIte, vOf_v])
theorem finF2 {t u id off n size : Nat} {cs : List V} {st : St} {v r : V} (hr : Wk (.tup [.slice size (chunk off n size cs), v]) r) (h3 : off + n * size ≤ cs.length) (h1 : look t st.t = some (.s id off n size) := by rfl) (h2 : look id st.h = some (.var cs) := by rfl)
    (hu : look u st.t = some (.v v) := by rfl) (hn : u ≠ t := by decide) : fpost P [.tmp t, .tmp u] r .rt st := by
  refine .inr ⟨_, ?_, hr⟩
  show resS P (frzt1 u (frzt1 t st)) _ = _
  rw [frzt1_s h1 h2 h3, frzt1_v (v := v) (by rw [look_cons', if_neg hn]; exact hu)]
  exact resS2 (by simp only [resV, σ_mk, look_cons', ↓reduceIte, vOf_v]) (by simp only [resV, σ_mk]; rw [look_cons', if_neg hn, hu]; rfl)
theorem finN {t : Nat} {size id : Nat} {es : List (List V)} {st : St} (cs : List V) (h : st.σ t = some (.s id 0 es.length size)) (h2 : look id st.h = some (.var (es.flatten ++ cs))) : fpostN [.tmp t] size es .rt st := .inl ⟨id, cs, h, h2⟩
theorem finN0 {t : Nat} {size : Nat} {st : St} {v : V} (h : vOf (st.σ t) = some v) (hr : Wk v (.slice size [])) : fpostN [.tmp t] size [] .rt st := .inr ⟨rfl, v, h, hr⟩
theorem finM {rs : List ResultVar} {cs' cs : List V} {r r' : TV} {st : St} (h : look 999999 st.h = some (.var (cs' ++ cs))) (h2 : resT P st rs = some r') (h3 : WkT r' r) (h4 : only 999999 [r] = true := by rfl) : fpostM P rs cs' r .rt st := ⟨⟨cs, h⟩, r', h2, h3, h4⟩
theorem finM0 {rs : List ResultVar} {cs' : List V} {r r' : TV} {st : St} (h3 : WkT r' r) (h : look 999999 st.h = some (.var cs') := by rfl) (h2 : resT P st rs = some r' := by rfl) (h4 : only 999999 [r] = true := by rfl) : fpostM P rs cs' r .rt st := ⟨⟨[], by rw [List.append_nil]; exact h⟩, r', h2, h3, h4⟩
theorem callN {g : FuncId} {args : List V} {size : Nat} {es : List (List V)} {k : V → Option TypeId → Prop} {st : St} {d : Nat} {K : St → Prop} (h : DenN P T g args size es)
    (h0 : es = [] → K { st with t := (d, .v (.slice size [])) :: st.t, o := remo d st.o }) (h1 : es ≠ [] → K { st with t := (d, .s d 0 es.length size) :: st.t, h := (d, .var es.flatten) :: st.h, o := remo d st.o })
    (ha : d < st.n := by first | decide | simp) (hb : look d st.h = none := by first | rfl | simp [look_cons, look]) : Call P T g args k (newK st (some d) K) := .inr (.inr ⟨size, es, h, ha, hb, h0, h1⟩)
theorem vi_eq {a b : Int} (h : a = b) : V.val (.int .i64 a) = V.val (.int .i64 b) := by rw [h]
theorem vb_eq {a b : Bool} (h : a = b) : V.val (.bool a) = V.val (.bool b) := by rw [h]
end Go.Ab
