/-
  Contracts of functions of the program, each by a walk through its code, for all arguments within the bounds that the statements name.
-/
import Derived.Test.YtbofgklhjjfbkaaGreatDoorAb5
namespace Go.Ab
open Go.RowKit
variable {P : Program} {F : Frz} {w : World} {ρ : Nat → Nat} {h : List (Nat × Blk)} {ρa : Operand → Option TV} {ρc : Operand → Value}

theorem eqOp_some {op : BinOp} {b : Bool} {v : V} (e : eqOp op b = some v) : (op = .eql ∧ v = .val (.bool b)) ∨ (op = .neq ∧ v = .val (.bool (!b))) := by
  unfold eqOp at e
  split at e
  · cases e; exact .inl ⟨rfl, rfl⟩
  · cases e; exact .inr ⟨rfl, rfl⟩
  · cases e

theorem equalIn_bool (d : Nat) {t : TypeId} (hu : P.underlying t = some .bool) (a b : Bool) (w : World) : (Op.equalIn (d + 1) t (.bool a) (.bool b)).run P w = .ok (a == b) w := by
  simp [Op.equalIn, run_underlying hu]
theorem equal_bool {t : TypeId} (hu : P.underlying t = some .bool) (a b : Bool) (w : World) : (Op.equal t (.bool a) (.bool b)).run P w = .ok (a == b) w := equalIn_bool 9999 hu a b w
theorem equalIn_slice_nil (d : Nat) {t e : TypeId} (hu : P.underlying t = some (.slice e)) (a : Option Addr) (n c : Nat) (w : World) : (Op.equalIn (d + 1) t (.slice a n c) (.slice none 0 0)).run P w = .ok a.isNone w := by
  cases a <;> simp [Op.equalIn, run_underlying hu]
theorem equal_slice_nil {t e : TypeId} (hu : P.underlying t = some (.slice e)) (a : Option Addr) (n c : Nat) (w : World) : (Op.equal t (.slice a n c) (.slice none 0 0)).run P w = .ok a.isNone w := equalIn_slice_nil 9999 hu a n c w
theorem equalIn_ifc_nil (d : Nat) {t : TypeId} {ms : Array (String × TypeId)} (hu : P.underlying t = some (.interface ms)) (u : TypeId) (x : Value) (w : World) : (Op.equalIn (d + 1) t (.iface u x) .nilIface).run P w = .ok false w := by
  simp [Op.equalIn, run_underlying hu]
theorem equal_ifc_nil {t : TypeId} {ms : Array (String × TypeId)} (hu : P.underlying t = some (.interface ms)) (u : TypeId) (x : Value) (w : World) : (Op.equal t (.iface u x) .nilIface).run P w = .ok false w := equalIn_ifc_nil 9999 hu u x w

theorem equalIn_nil_nil (d : Nat) {t : TypeId} {ms : Array (String × TypeId)} (hu : P.underlying t = some (.interface ms)) (w : World) : (Op.equalIn (d + 1) t .nilIface .nilIface).run P w = .ok true w := by
  simp [Op.equalIn, run_underlying hu]
theorem equal_nil_nil {t : TypeId} {ms : Array (String × TypeId)} (hu : P.underlying t = some (.interface ms)) (w : World) : (Op.equal t .nilIface .nilIface).run P w = .ok true w := equalIn_nil_nil 9999 hu w

theorem binOp_eql {x y : Value} {t : TypeId} {b : Bool} {w : World} (h : (Op.equal t x y).run P w = .ok b w)
    (h1 : binOp .eql t x y = (do pure (.bool (← Op.equal t x y)))) : (binOp .eql t x y).run P w = .ok (.bool b) w := by
  rw [h1]; simp [h, Result.andThen]
theorem binOp_neq {x y : Value} {t : TypeId} {b : Bool} {w : World} (h : (Op.equal t x y).run P w = .ok b w)
    (h1 : binOp .neq t x y = (do pure (.bool (!(← Op.equal t x y))))) : (binOp .neq t x y).run P w = .ok (.bool (!b)) w := by
  rw [h1]; simp [h, Result.andThen]

/-! structs of plain cells -/
theorem eqC_i {v u : V} {b : Bool} (h : eqC .i v u = some b) : ∃ j a c, v = .val (.int j a) ∧ u = .val (.int j c) ∧ b = decide (a = c) := by
  unfold eqC at h
  split at h
  · split at h
    · rename_i hj; subst hj; cases h; exact ⟨_, _, _, rfl, rfl, rfl⟩
    · cases h
  · rename_i h1; cases h1
  · rename_i h1; cases h1
  · cases h
theorem eqC_b {v u : V} {b : Bool} (h : eqC .b v u = some b) : ∃ a c, v = .val (.bool a) ∧ u = .val (.bool c) ∧ b = (a == c) := by
  unfold eqC at h
  split at h
  · rename_i h1; cases h1
  · cases h; exact ⟨_, _, rfl, rfl, rfl⟩
  · rename_i h1; cases h1
  · cases h
theorem eqC_s {v u : V} {b : Bool} (h : eqC .s v u = some b) : ∃ a c, v = .str a ∧ u = .str c ∧ b = (a == c) := by
  unfold eqC at h
  split at h
  · rename_i h1; cases h1
  · rename_i h1; cases h1
  · cases h; exact ⟨_, _, rfl, rfl, rfl⟩
  · cases h
theorem eqCells_len : ∀ {ks : List Lf} {a b : List V} {r : Bool}, eqCells ks a b = some r → a.length = ks.length ∧ b.length = ks.length
  | [], [], [], _, _ => ⟨rfl, rfl⟩
  | l :: ls, x :: xs, y :: ys, r, h => by
    simp only [eqCells] at h
    split at h
    · rename_i p q _ hq
      have := eqCells_len hq
      simp [this.1, this.2]
    · cases h
theorem eqCells_app : ∀ {ks ks' : List Lf} {a b : List V} {r : Bool}, eqCells (ks ++ ks') a b = some r →
    ∃ r1 r2, eqCells ks (a.take ks.length) (b.take ks.length) = some r1 ∧ eqCells ks' (a.drop ks.length) (b.drop ks.length) = some r2 ∧ r = (r1 && r2)
  | [], ks', a, b, r, h => ⟨true, r, rfl, h, by simp⟩
  | l :: ls, ks', [], b, r, h => by cases b <;> simp [eqCells] at h
  | l :: ls, ks', x :: xs, [], r, h => by simp [eqCells] at h
  | l :: ls, ks', x :: xs, y :: ys, r, h => by
    simp only [List.cons_append, eqCells] at h
    split at h
    · rename_i p q hp hq
      cases h
      obtain ⟨r1, r2, h1, h2, rfl⟩ := eqCells_app hq
      exact ⟨p && r1, r2, by simp [eqCells, hp, h1], by simpa using h2, by rw [Bool.and_assoc]⟩
    · cases h
theorem takeN_of : ∀ {n : Nat} {cs : List V}, n ≤ cs.length → takeN n cs = some (cs.take n)
  | 0, _, _ => rfl
  | n + 1, c :: cs, h => by simp [takeN, takeN_of (n := n) (cs := cs) (by simpa using h)]
  | _ + 1, [], h => by simp at h
theorem ld_flat {k : Nat} {t : TypeId} {ks : List Lf} (h : flatT P k t = some ks) {cs : List V} (hl : ks.length ≤ cs.length) : ∃ v, ldV P t cs = some v := by
  cases k with
  | zero => cases h
  | succ k =>
    have leaf : ∀ l : Lf, (if aggB P t = some false then some [l] else none) = some ks → ∃ v, ldV P t cs = some v := fun l h => by
      split at h
      · rename_i ha
        cases h
        match cs, hl with
        | c :: cs, _ => exact ⟨c, by simp [ldV, ha]⟩
      · cases h
    unfold flatT at h
    split at h
    · exact leaf _ h
    · exact leaf _ h
    · exact leaf _ h
    · split at h
      · rename_i ha
        split at h
        · split at h
          · rename_i hc
            cases h
            exact ⟨_, by rw [ldV, ha.2]; simp only; rw [takeN_of (by omega)]; rfl⟩
          · cases h
        · cases h
      · cases h
    · cases h
/-- what is at hand of a struct's cells -/
structure AggRep (F : Frz) (cs : List V) (xs : Array Value) : Prop where
  size : xs.size = cs.length
  one : ∀ c ∈ cs, c.one = true
  rep : ∀ (j : Nat) c x, cs[j]? = some c → xs[j]? = some x → Rep F c x
theorem agg_rep_inv {cs : List V} {x : Value} (h : Rep F (.agg cs) x) : ∃ xs, x = .agg xs ∧ AggRep F cs xs := by
  cases h with
  | agg h1 h2 h3 => exact ⟨_, rfl, h1, h2, h3⟩
def EqAt (P : Program) (k : Nat) : Prop := ∀ {t : TypeId} {ks : List Lf}, flatT P k t = some ks → ∀ {d : Nat}, k ≤ d → ∀ {F : Frz} {w : World} {cs ds : List V} {v u : V} {x y : Value} {b : Bool},
  ldV P t cs = some v → ldV P t ds = some u → (∀ c ∈ cs, c.one = true) → (∀ c ∈ ds, c.one = true) → Rep F v x → Rep F u y →
  eqCells ks (cs.take ks.length) (ds.take ks.length) = some b → (Op.equalIn d t x y).run P w = .ok b w
theorem eq_fields {k : Nat} (IH : EqAt P k) {d : Nat} (hd : k ≤ d) {cs ds : List V} {xs ys : Array Value} (hx : AggRep F cs xs) (hy : AggRep F ds ys) :
    ∀ (fs : List Field) (off : Nat) {ks : List Lf} {b : Bool}, flatL (flatT P k) off fs = some ks → eqCells ks (cs.drop off) (ds.drop off) = some b → (Op.eqFields d xs ys fs).run P w = .ok b w
  | [], off, ks, b, h, e => by
    simp only [flatL, Option.some.injEq] at h
    subst h
    obtain ⟨h1, h2⟩ := eqCells_len e
    rw [List.eq_nil_of_length_eq_zero h1, List.eq_nil_of_length_eq_zero h2] at e
    cases e
    simp [Op.eqFields]
  | f :: fs, off, ks, b, h, e => by
    simp only [flatL] at h
    split at h
    · rename_i hf
      obtain ⟨hn, ho⟩ := hf
      split at h
      · rename_i ks1 h1
        simp only [Option.map_eq_some_iff] at h
        obtain ⟨ks2, h2, rfl⟩ := h
        obtain ⟨e1, e2⟩ := eqCells_len e
        simp only [List.length_append] at e1 e2
        obtain ⟨r1, r2, g1, g2, rfl⟩ := eqCells_app e
        obtain ⟨v, hv⟩ := ld_flat h1 (cs := cs.drop off) (by omega)
        obtain ⟨u, hu⟩ := ld_flat h1 (cs := ds.drop off) (by omega)
        obtain ⟨x, hx1, hx2⟩ := part_run (P := P) (w := w) hx.size hx.one hx.rep hv
        obtain ⟨y, hy1, hy2⟩ := part_run (P := P) (w := w) hy.size hy.one hy.rep hu
        have key := IH h1 hd (w := w) hv hu (fun c hc => hx.one c (List.mem_of_mem_drop hc)) (fun c hc => hy.one c (List.mem_of_mem_drop hc)) hx2 hy2 g1
        have rest := eq_fields IH hd hx hy fs (off + ks1.length) h2 (by simpa [List.drop_drop] using g2)
        rw [Op.eqFields, if_pos hn, ho]
        cases r1 with
        | true => simp [hx1, hy1, key, rest, Result.andThen]
        | false => simp [hx1, hy1, key, Result.andThen]
      · cases h
    · cases h
theorem eq_flat : ∀ (k : Nat), EqAt P k
  | 0 => fun h => by cases h
  | k + 1 => by
    intro h d hd F w cs ds v u x y b hv hu hc1 hc2 hx hy e
    rename_i t ks
    obtain ⟨d, rfl⟩ : ∃ d', d = d' + 1 := ⟨d - 1, by omega⟩
    have leaf : ∀ l : Lf, (if aggB P t = some false then some [l] else none) = some ks → eqC l v u = some b := fun l h => by
      split at h
      · rename_i ha
        cases h
        simp only [ldV, ha] at hv hu
        cases cs with
        | nil => cases hv
        | cons c cs =>
          cases ds with
          | nil => cases hu
          | cons c' ds =>
            cases hv; cases hu
            simp only [List.length_cons, List.length_nil, List.take_succ_cons, List.take_zero, eqCells] at e
            split at e
            · rename_i p q hp hq
              cases hq
              cases e
              simpa using hp
            · cases e
      · cases h
    unfold flatT at h
    split at h
    · rename_i kd hu'
      obtain ⟨j, a, c, rfl, rfl, rfl⟩ := eqC_i (leaf _ h)
      have := rep_val_inv hx; subst this
      have := rep_val_inv hy; subst this
      rw [run_equalIn_int w d t _ _ _ _ hu']
      congr
    · rename_i hu'
      obtain ⟨a, c, rfl, rfl, rfl⟩ := eqC_b (leaf _ h)
      have := rep_val_inv hx; subst this
      have := rep_val_inv hy; subst this
      exact equalIn_bool d hu' _ _ w
    · rename_i hu'
      obtain ⟨a, c, rfl, rfl, rfl⟩ := eqC_s (leaf _ h)
      have := rep_str_inv hx; subst this
      have := rep_str_inv hy; subst this
      rw [run_equalIn_string w d t _ _ hu', toList_mk, toList_mk]
    · rename_i fs hu'
      split at h
      · rename_i ha
        split at h
        · rename_i ks' hks
          split at h
          · rename_i hc
            cases h
            simp only [ldV, ha.2, Option.map_eq_some_iff] at hv hu
            obtain ⟨c1, hv, rfl⟩ := hv
            obtain ⟨c2, hu, rfl⟩ := hu
            obtain ⟨rfl, l1⟩ := takeN_some hv
            obtain ⟨rfl, l2⟩ := takeN_some hu
            obtain ⟨xs, rfl, hx'⟩ := agg_rep_inv hx
            obtain ⟨ys, rfl, hy'⟩ := agg_rep_inv hy
            have hfo : P.fieldsOf t = fs := by simp [Program.fieldsOf, hu']
            rw [run_equalIn_struct w d t xs ys (by rw [hfo]; exact hu') ha.1, hfo]
            exact eq_fields (eq_flat k) (by omega) hx' hy' fs.toList 0 hks (by simpa [hc] using e)
          · cases h
        · cases h
      · cases h
    · cases h
theorem eqT_run {t : TypeId} {ks : List Lf} {cs ds : List V} {x y : Value} {b : Bool} (h : eqT P t = some ks) (hx : Rep F (.agg cs) x) (hy : Rep F (.agg ds) y) (e : eqCells ks cs ds = some b) (w : World) :
    (Op.equal t x y).run P w = .ok b w ∧ ∃ xs ys, x = .agg xs ∧ y = .agg ys ∧ P.eqGuardType P.depth t = false := by
  unfold eqT at h
  split at h
  · rename_i fs hu
    split at h
    · rename_i hg
      obtain ⟨l1, l2⟩ := eqCells_len e
      have h' := h
      simp only [flatT, hu] at h'
      split at h'
      · rename_i ha
        split at h'
        · rename_i ks' hks
          split at h'
          · rename_i hc
            cases h'
            obtain ⟨xs, rfl, hx1⟩ := agg_rep_inv hx
            obtain ⟨ys, rfl, hy1⟩ := agg_rep_inv hy
            refine ⟨?_, xs, ys, rfl, rfl, hg⟩
            refine eq_flat 8 h (d := 10000) (by omega) (cs := cs) (ds := ds) ?_ ?_ hx1.one hy1.one hx hy ?_
            · rw [ldV, ha.2]; simp only; rw [takeN_of (by omega), List.take_of_length_le (by omega)]; rfl
            · rw [ldV, ha.2]; simp only; rw [takeN_of (by omega), List.take_of_length_le (by omega)]; rfl
            · rw [List.take_of_length_le (by omega), List.take_of_length_le (by omega)]; exact e
          · cases h'
        · cases h'
      · cases h'
    · cases h
  · cases h

theorem binV_run {op : BinOp} {t : TypeId} {x y : V} {v : V} {a b : Value} (ha : Rep F x a) (hb : Rep F y b) (e : binV P op t x y = some v) (w : World) :
    ∃ r, (binOp op t a b).run P w = .ok r w ∧ Rep F v r ∧ ∀ (ox oy : Operand), (eqGuard op t ox oy a b).run P w = .ok () w := by
  unfold binV at e
  split at e
  · -- ints
    have := rep_val_inv ha; subst this
    have := rep_val_inv hb; subst this
    split at e
    · rename_i hk
      subst hk
      obtain ⟨r, rfl, hr⟩ := intOp_run (P := P) e t w
      exact ⟨r, hr, .val _, fun ox oy => by unfold eqGuard; split <;> rfl⟩
    · cases e
  · -- bools
    have := rep_val_inv ha; subst this
    have := rep_val_inv hb; subst this
    split at e
    · rename_i hu
      rcases eqOp_some e with ⟨rfl, rfl⟩ | ⟨rfl, rfl⟩
      · exact ⟨_, binOp_eql (equal_bool (boolB_true hu) _ _ w) rfl, .val _, fun ox oy => by simp [eqGuard]⟩
      · exact ⟨_, binOp_neq (equal_bool (boolB_true hu) _ _ w) rfl, .val _, fun ox oy => by simp [eqGuard]⟩
    · cases e
  · -- strings
    have := rep_str_inv ha; subst this
    have := rep_str_inv hb; subst this
    obtain ⟨r, hr, hv⟩ := strOp_run (P := P) (F := F) e t w
    exact ⟨r, hr, hv, fun ox oy => by unfold eqGuard; split <;> rfl⟩
  · -- a slice that is not empty, against nil
    have := rep_val_inv hb; subst this
    split at e
    · rename_i hu
      obtain ⟨e', hu⟩ := slV_isSome hu
      rcases rep_slice_inv ha with ⟨_, h0⟩ | ⟨ad, cap, g, rfl, _⟩
      · cases h0
      · rcases eqOp_some e with ⟨rfl, rfl⟩ | ⟨rfl, rfl⟩
        · exact ⟨_, binOp_eql (equal_slice_nil hu _ _ _ w) rfl, .val _, fun ox oy => by simp [eqGuard]⟩
        · exact ⟨_, binOp_neq (equal_slice_nil hu _ _ _ w) rfl, .val _, fun ox oy => by simp [eqGuard]⟩
    · cases e
  · have := rep_val_inv ha; subst this
    have := rep_val_inv hb; subst this
    split at e
    · rename_i hu
      obtain ⟨e', hu⟩ := slV_isSome hu
      rcases eqOp_some e with ⟨rfl, rfl⟩ | ⟨rfl, rfl⟩
      · exact ⟨_, binOp_eql (equal_slice_nil hu _ _ _ w) rfl, .val _, fun ox oy => by simp [eqGuard]⟩
      · exact ⟨_, binOp_neq (equal_slice_nil hu _ _ _ w) rfl, .val _, fun ox oy => by simp [eqGuard]⟩
    · cases e
  · have := rep_val_inv hb; subst this
    split at e
    · rename_i hu
      obtain ⟨ms, hu⟩ := ifcB_true hu
      cases ha with
      | ifc u x =>
        rcases eqOp_some e with ⟨rfl, rfl⟩ | ⟨rfl, rfl⟩
        · exact ⟨_, binOp_eql (equal_ifc_nil hu _ _ w) rfl, .val _, fun ox oy => by simp [eqGuard]⟩
        · exact ⟨_, binOp_neq (equal_ifc_nil hu _ _ w) rfl, .val _, fun ox oy => by simp [eqGuard]⟩
    · cases e
  · split at e
    · rename_i ks hks
      split at e
      · rename_i b hb'
        obtain ⟨h1, xs, ys, rfl, rfl, hg⟩ := eqT_run hks ha hb hb' w
        rcases eqOp_some e with ⟨rfl, rfl⟩ | ⟨rfl, rfl⟩
        · exact ⟨_, binOp_eql h1 rfl, .val _, fun ox oy => run_eqGuard_agg w _ t ox oy xs ys hg⟩
        · exact ⟨_, binOp_neq h1 rfl, .val _, fun ox oy => run_eqGuard_agg w _ t ox oy xs ys hg⟩
      · cases e
    · cases e
  · cases e

theorem nilIface_run {op : BinOp} {t : TypeId} {v : V} (hu : ifcB P t = true) (e : eqOp op true = some v) (w : World) (c : Value) :
    ∃ r, (binOp op t .nilIface .nilIface).run P w = .ok r w ∧ Rep F v r ∧ ∀ (ox : Operand), (eqGuard op t ox (.const c) .nilIface .nilIface).run P w = .ok () w := by
  obtain ⟨ms, hu⟩ := ifcB_true hu
  rcases eqOp_some e with ⟨rfl, rfl⟩ | ⟨rfl, rfl⟩
  · exact ⟨_, binOp_eql (equal_nil_nil hu w) rfl, .val _, fun ox => by simp [eqGuard]⟩
  · exact ⟨_, binOp_neq (equal_nil_nil hu w) rfl, .val _, fun ox => by simp [eqGuard]⟩

theorem nums_rep {v : V} {x : Value} {n : Int} (h : Rep F v x) (e : nums v = some n) : ∃ k, x = .int k n := by
  unfold nums at e
  split at e
  · cases e; exact ⟨_, rep_val_inv h⟩
  · cases e

theorem sliceBound_run {k : IntKind} {i : Int} {y : Nat} (h0 : 0 ≤ i) (h1 : i ≤ y) (c : BoundsCode) (w : World) : (Instr.sliceBound (.int k i) y c).run P w = .ok i.toNat w := by
  simp [Instr.sliceBound, asIntOf, h0, h1]

theorem cutV_some {n : Nat} {lo hi : Option V} {a b : Nat} (e : cutV n lo hi = some (a, b)) :
    a ≤ b ∧ b ≤ n ∧ (match hi with | none => b = n | some v => nums v = some (b : Int)) ∧ (match lo with | none => a = 0 | some v => nums v = some (a : Int)) := by
  unfold cutV at e
  split at e
  · rename_i hv lv hh hl
    split at e
    · rename_i hc
      simp only [Option.some.injEq, Prod.mk.injEq] at e
      obtain ⟨rfl, rfl⟩ := e
      refine ⟨by omega, by omega, ?_, ?_⟩
      · cases hi with
        | none => simp at hh; subst hh; simp
        | some v => simp only at hh ⊢; rw [hh]; simp; omega
      · cases lo with
        | none => simp at hl; subst hl; simp
        | some v => simp only at hl ⊢; rw [hl]; simp; omega
    · cases e
  · cases e

def OptRep (F : Frz) : Option V → Option Value → Prop
  | none, none => True
  | some v, some x => Rep F v x
  | _, _ => False

/-- the bounds of a cut, as the model reckons them -/
theorem bounds_run {n cap a b : Nat} {isS : Bool} {lo hi : Option V} {lo' hi' : Option Value} (e : cutV n lo hi = some (a, b)) (hcap : n ≤ cap)
    (hlo : OptRep F lo lo')
    (hhi : OptRep F hi hi') (w : World) :
    (Instr.sliceBounds isS n cap lo' hi' none).run P w = .ok (a, b, cap) w := by
  obtain ⟨h1, h2, h3, h4⟩ := cutV_some e
  unfold Instr.sliceBounds
  cases hi with
  | none =>
    cases hi' with
    | some x => exact hhi.elim
    | none =>
      simp only at h3
      subst h3
      cases lo with
      | none =>
        cases lo' with
        | some x => exact hlo.elim
        | none => simp only at h4; subst h4; simp
      | some v =>
        cases lo' with
        | none => exact hlo.elim
        | some x =>
          obtain ⟨k, rfl⟩ := nums_rep hlo h4
          simp [Result.andThen, sliceBound_run (P := P) (k := k) (i := (a : Int)) (y := b) (by omega) (by omega)]
  | some vh =>
    cases hi' with
    | none => exact hhi.elim
    | some xh =>
      obtain ⟨kh, rfl⟩ := nums_rep hhi h3
      cases lo with
      | none =>
        cases lo' with
        | some x => exact hlo.elim
        | none =>
          simp only at h4; subst h4
          simp [Result.andThen, sliceBound_run (P := P) (k := kh) (i := (b : Int)) (y := cap) (by omega) (by omega)]
      | some v =>
        cases lo' with
        | none => exact hlo.elim
        | some x =>
          obtain ⟨k, rfl⟩ := nums_rep hlo h4
          simp [Result.andThen, sliceBound_run (P := P) (k := kh) (i := (b : Int)) (y := cap) (by omega) (by omega), sliceBound_run (P := P) (k := k) (i := (a : Int)) (y := b) (by omega) (by omega)]

theorem optV_some (G : Good F w ρ h ρa ρc) {x : Option Operand} {v : Option V} (e : optV ρa x = some v) :
    OptRep F v (x.map ρc) := by
  cases x with
  | none => simp [optV] at e; subst e; trivial
  | some o =>
    simp only [optV, Option.map_eq_some_iff] at e
    obtain ⟨v', h1, rfl⟩ := e
    exact G.v h1

theorem sliceV_run {t : TypeId} {x : V} {lo hi : Option V} {v : V} {y : Value} {lo' hi' : Option Value} (hx : Rep F x y) (e : sliceV P t x lo hi = some v)
    (hlo : OptRep F lo lo')
    (hhi : OptRep F hi hi') (w : World) :
    ∃ r, (Instr.sliceAt t y lo' hi' none).run P w = .ok r w ∧ Rep F v r := by
  unfold sliceV at e
  split at e
  · rename_i l
    split at e
    · rename_i hs
      simp only [Option.map_eq_some_iff] at e
      obtain ⟨⟨a, b⟩, hc, rfl⟩ := e
      have := rep_str_inv hx; subst this
      have hb := bounds_run (P := P) (F := F) (isS := false) (cap := l.length) hc (Nat.le_refl _) hlo hhi w
      obtain ⟨h1, h2, _, _⟩ := cutV_some hc
      refine ⟨.string ((⟨l.toArray⟩ : ByteArray).extract a b), ?_, ?_⟩
      · simp [Instr.sliceAt, run_underlying (strB_true hs), Result.andThen, Instr.slice, size_mk, hb]
      · have : ((⟨l.toArray⟩ : ByteArray).extract a b) = ⟨((l.take b).drop a).toArray⟩ := by
          apply WideShapes.bytes_inj
          simp [ByteArray.data_extract, List.extract_eq_take_drop, List.drop_take]
        rw [this]
        exact .str _
    · cases e
  · rename_i size es
    split at e
    · rename_i hs
      simp only [Option.map_eq_some_iff] at e
      obtain ⟨⟨a, b⟩, hc, rfl⟩ := e
      simp only [Option.map_eq_some_iff] at hs
      obtain ⟨⟨e', n⟩, hsl, rfl⟩ := hs
      obtain ⟨hu, hsz, hz⟩ := slV_some hsl
      simp only at *
      obtain ⟨inf, hi0⟩ := info_of_cells (P := P) (t := e') (by omega)
      obtain ⟨h1, h2, _, _⟩ := cutV_some hc
      rcases rep_slice_inv hx with ⟨rfl, rfl⟩ | ⟨ad, cap, g, rfl, hcap, hm, hss, ho, hg, hr⟩
      · have hb := bounds_run (P := P) (F := F) (isS := true) (n := 0) (cap := 0) hc (Nat.le_refl _) hlo hhi w
        simp only [List.length_nil] at h2
        obtain rfl : b = 0 := by omega
        obtain rfl : a = 0 := by omega
        refine ⟨.slice none 0 0, ?_, by simpa using Rep.snil⟩
        simp [Instr.sliceAt, run_underlying hu, Result.andThen, Instr.slice, hb, run_sizeOf' hi0]
      · have hb := bounds_run (P := P) (F := F) (isS := true) (n := es.length) (cap := cap) hc hcap hlo hhi w
        refine ⟨.slice (if cap = a then some ad else some (ad.add (a * n))) (b - a) (cap - a), ?_, ?_⟩
        · simp [Instr.sliceAt, run_underlying hu, Result.andThen, Instr.slice, hb, run_sizeOf' hi0, hsz]
        · have hlen : ((es.take b).drop a).length = b - a := by simp; omega
          have hnth : ∀ (i : Nat) (e : List V), ((es.take b).drop a)[i]? = some e → es[a + i]? = some e := fun i e hi => by
            rw [List.getElem?_drop, List.getElem?_take] at hi
            split at hi
            · exact hi
            · cases hi
          have hmem : ∀ e ∈ (es.take b).drop a, e ∈ es := fun e he => List.mem_of_mem_take (List.mem_of_mem_drop he)
          rw [← hlen]
          by_cases hca : cap = a
          · have : (es.take b).drop a = [] := List.eq_nil_of_length_eq_zero (by omega)
            rw [if_pos hca, this]
            exact .slice g (by simp) (by omega) (by simp) (by simp) (by simp) (by simp)
          · rw [if_neg hca]
            refine .slice (fun i j => g (a + i) j) (by omega) (by omega) (fun e he => hss e (hmem e he)) (fun e he => ho e (hmem e he)) (fun i j e c h1 h2 => ?_) (fun i j e c h1 h2 => hr _ j e c (hnth i e h1) h2)
            rw [add_add, ← Nat.add_assoc, ← Nat.add_mul]
            exact hg _ j e c (hnth i e h1) h2
    · cases e
  · cases e
end Go.Ab
