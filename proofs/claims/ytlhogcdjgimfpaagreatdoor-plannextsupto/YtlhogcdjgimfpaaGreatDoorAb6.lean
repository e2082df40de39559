/-
  Contracts of functions of the program, each by a walk through its code, for all arguments within the bounds that the statements name.
-/
import Derived.Test.YtlhogcdjgimfpaaGreatDoorAb5
namespace Go.Ab
open Go.RowKit
variable {P : Program} {F : Frz} {w : World} {ρ : Nat → Nat} {h : List (Nat × Blk)} {ρa : Operand → Option TV} {ρc : Operand → Value}

theorem eqOp_some {op : BinOp} {b : Bool} {v : V} (e : eqOp op b = some v) : (op = .eql ∧ v = .val (.bool b)) ∨ (op = .neq ∧ v = .val (.bool (!b))) := by
  unfold eqOp at e
  split at e
  · cases e; exact .inl ⟨rfl, rfl⟩
  · cases e; exact .inr ⟨rfl, rfl⟩
  · cases e

theorem equalIn_bool (d : Nat) {t : TypeId} (hu : P.underlying t = some .bool) (a b : Bool) (w : World) : (Op.equalIn (d + 1) t (.bool a) (.bool b)).run P w = .ok (a == b) w := by
  simp [Op.equalIn, run_underlying hu]
theorem equal_bool {t : TypeId} (hu : P.underlying t = some .bool) (a b : Bool) (w : World) : (Op.equal t (.bool a) (.bool b)).run P w = .ok (a == b) w := equalIn_bool 9999 hu a b w
theorem equalIn_slice_nil (d : Nat) {t e : TypeId} (hu : P.underlying t = some (.slice e)) (a : Option Addr) (n c : Nat) (w : World) : (Op.equalIn (d + 1) t (.slice a n c) (.slice none 0 0)).run P w = .ok a.isNone w := by
  cases a <;> simp [Op.equalIn, run_underlying hu]
theorem equal_slice_nil {t e : TypeId} (hu : P.underlying t = some (.slice e)) (a : Option Addr) (n c : Nat) (w : World) : (Op.equal t (.slice a n c) (.slice none 0 0)).run P w = .ok a.isNone w := equalIn_slice_nil 9999 hu a n c w
theorem equalIn_ifc_nil (d : Nat) {t : TypeId} {ms : Array (String × TypeId)} (hu : P.underlying t = some (.interface ms)) (u : TypeId) (x : Value) (w : World) : (Op.equalIn (d + 1) t (.iface u x) .nilIface).run P w = .ok false w := by
  simp [Op.equalIn, run_underlying hu]
theorem equal_ifc_nil {t : TypeId} {ms : Array (String × TypeId)} (hu : P.underlying t = some (.interface ms)) (u : TypeId) (x : Value) (w : World) : (Op.equal t (.iface u x) .nilIface).run P w = .ok false w := equalIn_ifc_nil 9999 hu u x w

theorem equalIn_nil_nil (d : Nat) {t : TypeId} {ms : Array (String × TypeId)} (hu : P.underlying t = some (.interface ms)) (w : World) : (Op.equalIn (d + 1) t .nilIface .nilIface).run P w = .ok true w := by
  simp [Op.equalIn, run_underlying hu]
theorem equal_nil_nil {t : TypeId} {ms : Array (String × TypeId)} (hu : P.underlying t = some (.interface ms)) (w : World) : (Op.equal t .nilIface .nilIface).run P w = .ok true w := equalIn_nil_nil 9999 hu w

theorem binOp_eql {x y : Value} {t : TypeId} {b : Bool} {w : World} (h : (Op.equal t x y).run P w = .ok b w)
    (h1 : binOp .eql t x y = (do pure (.bool (← Op.equal t x y)))) : (binOp .eql t x y).run P w = .ok (.bool b) w := by
  rw [h1]; simp [h, Result.andThen]
theorem binOp_neq {x y : Value} {t : TypeId} {b : Bool} {w : World} (h : (Op.equal t x y).run P w = .ok b w)
    (h1 : binOp .neq t x y = (do pure (.bool (!(← Op.equal t x y))))) : (binOp .neq t x y).run P w = .ok (.bool (!b)) w := by
  rw [h1]; simp [h, Result.andThen]

theorem binV_run {op : BinOp} {t : TypeId} {x y : V} {v : V} {a b : Value} (ha : Rep F x a) (hb : Rep F y b) (e : binV P op t x y = some v) (w : World) :
    ∃ r, (binOp op t a b).run P w = .ok r w ∧ Rep F v r ∧ ∀ (ox oy : Operand), (eqGuard op t ox oy a b).run P w = .ok () w := by
  unfold binV at e
  split at e
  · -- ints
    have := rep_val_inv ha; subst this
    have := rep_val_inv hb; subst this
    split at e
    · rename_i hk
      subst hk
      obtain ⟨r, rfl, hr⟩ := intOp_run (P := P) e t w
      exact ⟨r, hr, .val _, fun ox oy => by unfold eqGuard; split <;> rfl⟩
    · cases e
  · -- bools
    have := rep_val_inv ha; subst this
    have := rep_val_inv hb; subst this
    split at e
    · rename_i hu
      rcases eqOp_some e with ⟨rfl, rfl⟩ | ⟨rfl, rfl⟩
      · exact ⟨_, binOp_eql (equal_bool (boolB_true hu) _ _ w) rfl, .val _, fun ox oy => by simp [eqGuard]⟩
      · exact ⟨_, binOp_neq (equal_bool (boolB_true hu) _ _ w) rfl, .val _, fun ox oy => by simp [eqGuard]⟩
    · cases e
  · -- strings
    have := rep_str_inv ha; subst this
    have := rep_str_inv hb; subst this
    obtain ⟨r, hr, hv⟩ := strOp_run (P := P) (F := F) e t w
    exact ⟨r, hr, hv, fun ox oy => by unfold eqGuard; split <;> rfl⟩
  · -- a slice that is not empty, against nil
    have := rep_val_inv hb; subst this
    split at e
    · rename_i hu
      obtain ⟨e', hu⟩ := slV_isSome hu
      rcases rep_slice_inv ha with ⟨_, h0⟩ | ⟨ad, cap, g, rfl, _⟩
      · cases h0
      · rcases eqOp_some e with ⟨rfl, rfl⟩ | ⟨rfl, rfl⟩
        · exact ⟨_, binOp_eql (equal_slice_nil hu _ _ _ w) rfl, .val _, fun ox oy => by simp [eqGuard]⟩
        · exact ⟨_, binOp_neq (equal_slice_nil hu _ _ _ w) rfl, .val _, fun ox oy => by simp [eqGuard]⟩
    · cases e
  · have := rep_val_inv ha; subst this
    have := rep_val_inv hb; subst this
    split at e
    · rename_i hu
      obtain ⟨e', hu⟩ := slV_isSome hu
      rcases eqOp_some e with ⟨rfl, rfl⟩ | ⟨rfl, rfl⟩
      · exact ⟨_, binOp_eql (equal_slice_nil hu _ _ _ w) rfl, .val _, fun ox oy => by simp [eqGuard]⟩
      · exact ⟨_, binOp_neq (equal_slice_nil hu _ _ _ w) rfl, .val _, fun ox oy => by simp [eqGuard]⟩
    · cases e
  · have := rep_val_inv hb; subst this
    split at e
    · rename_i hu
      obtain ⟨ms, hu⟩ := ifcB_true hu
      cases ha with
      | ifc u x =>
        rcases eqOp_some e with ⟨rfl, rfl⟩ | ⟨rfl, rfl⟩
        · exact ⟨_, binOp_eql (equal_ifc_nil hu _ _ w) rfl, .val _, fun ox oy => by simp [eqGuard]⟩
        · exact ⟨_, binOp_neq (equal_ifc_nil hu _ _ w) rfl, .val _, fun ox oy => by simp [eqGuard]⟩
    · cases e
  · cases e

theorem nilIface_run {op : BinOp} {t : TypeId} {v : V} (hu : ifcB P t = true) (e : eqOp op true = some v) (w : World) (c : Value) :
    ∃ r, (binOp op t .nilIface .nilIface).run P w = .ok r w ∧ Rep F v r ∧ ∀ (ox : Operand), (eqGuard op t ox (.const c) .nilIface .nilIface).run P w = .ok () w := by
  obtain ⟨ms, hu⟩ := ifcB_true hu
  rcases eqOp_some e with ⟨rfl, rfl⟩ | ⟨rfl, rfl⟩
  · exact ⟨_, binOp_eql (equal_nil_nil hu w) rfl, .val _, fun ox => by simp [eqGuard]⟩
  · exact ⟨_, binOp_neq (equal_nil_nil hu w) rfl, .val _, fun ox => by simp [eqGuard]⟩

theorem nums_rep {v : V} {x : Value} {n : Int} (h : Rep F v x) (e : nums v = some n) : ∃ k, x = .int k n := by
  unfold nums at e
  split at e
  · cases e; exact ⟨_, rep_val_inv h⟩
  · cases e

theorem sliceBound_run {k : IntKind} {i : Int} {y : Nat} (h0 : 0 ≤ i) (h1 : i ≤ y) (c : BoundsCode) (w : World) : (Instr.sliceBound (.int k i) y c).run P w = .ok i.toNat w := by
  simp [Instr.sliceBound, asIntOf, h0, h1]

theorem cutV_some {n : Nat} {lo hi : Option V} {a b : Nat} (e : cutV n lo hi = some (a, b)) :
    a ≤ b ∧ b ≤ n ∧ (match hi with | none => b = n | some v => nums v = some (b : Int)) ∧ (match lo with | none => a = 0 | some v => nums v = some (a : Int)) := by
  unfold cutV at e
  split at e
  · rename_i hv lv hh hl
    split at e
    · rename_i hc
      simp only [Option.some.injEq, Prod.mk.injEq] at e
      obtain ⟨rfl, rfl⟩ := e
      refine ⟨by omega, by omega, ?_, ?_⟩
      · cases hi with
        | none => simp at hh; subst hh; simp
        | some v => simp only at hh ⊢; rw [hh]; simp; omega
      · cases lo with
        | none => simp at hl; subst hl; simp
        | some v => simp only at hl ⊢; rw [hl]; simp; omega
    · cases e
  · cases e

def OptRep (F : Frz) : Option V → Option Value → Prop
  | none, none => True
  | some v, some x => Rep F v x
  | _, _ => False

/-- the bounds of a cut, as the model reckons them -/
theorem bounds_run {n cap a b : Nat} {isS : Bool} {lo hi : Option V} {lo' hi' : Option Value} (e : cutV n lo hi = some (a, b)) (hcap : n ≤ cap)
    (hlo : OptRep F lo lo')
    (hhi : OptRep F hi hi') (w : World) :
    (Instr.sliceBounds isS n cap lo' hi' none).run P w = .ok (a, b, cap) w := by
  obtain ⟨h1, h2, h3, h4⟩ := cutV_some e
  unfold Instr.sliceBounds
  cases hi with
  | none =>
    cases hi' with
    | some x => exact hhi.elim
    | none =>
      simp only at h3
      subst h3
      cases lo with
      | none =>
        cases lo' with
        | some x => exact hlo.elim
        | none => simp only at h4; subst h4; simp
      | some v =>
        cases lo' with
        | none => exact hlo.elim
        | some x =>
          obtain ⟨k, rfl⟩ := nums_rep hlo h4
          simp [Result.andThen, sliceBound_run (P := P) (k := k) (i := (a : Int)) (y := b) (by omega) (by omega)]
  | some vh =>
    cases hi' with
    | none => exact hhi.elim
    | some xh =>
      obtain ⟨kh, rfl⟩ := nums_rep hhi h3
      cases lo with
      | none =>
        cases lo' with
        | some x => exact hlo.elim
        | none =>
          simp only at h4; subst h4
          simp [Result.andThen, sliceBound_run (P := P) (k := kh) (i := (b : Int)) (y := cap) (by omega) (by omega)]
      | some v =>
        cases lo' with
        | none => exact hlo.elim
        | some x =>
          obtain ⟨k, rfl⟩ := nums_rep hlo h4
          simp [Result.andThen, sliceBound_run (P := P) (k := kh) (i := (b : Int)) (y := cap) (by omega) (by omega), sliceBound_run (P := P) (k := k) (i := (a : Int)) (y := b) (by omega) (by omega)]

theorem optV_some (G : Good F w ρ h ρa ρc) {x : Option Operand} {v : Option V} (e : optV ρa x = some v) :
    OptRep F v (x.map ρc) := by
  cases x with
  | none => simp [optV] at e; subst e; trivial
  | some o =>
    simp only [optV, Option.map_eq_some_iff] at e
    obtain ⟨v', h1, rfl⟩ := e
    exact G.v h1

theorem sliceV_run {t : TypeId} {x : V} {lo hi : Option V} {v : V} {y : Value} {lo' hi' : Option Value} (hx : Rep F x y) (e : sliceV P t x lo hi = some v)
    (hlo : OptRep F lo lo')
    (hhi : OptRep F hi hi') (w : World) :
    ∃ r, (Instr.sliceAt t y lo' hi' none).run P w = .ok r w ∧ Rep F v r := by
  unfold sliceV at e
  split at e
  · rename_i l
    split at e
    · rename_i hs
      simp only [Option.map_eq_some_iff] at e
      obtain ⟨⟨a, b⟩, hc, rfl⟩ := e
      have := rep_str_inv hx; subst this
      have hb := bounds_run (P := P) (F := F) (isS := false) (cap := l.length) hc (Nat.le_refl _) hlo hhi w
      obtain ⟨h1, h2, _, _⟩ := cutV_some hc
      refine ⟨.string ((⟨l.toArray⟩ : ByteArray).extract a b), ?_, ?_⟩
      · simp [Instr.sliceAt, run_underlying (strB_true hs), Result.andThen, Instr.slice, size_mk, hb]
      · have : ((⟨l.toArray⟩ : ByteArray).extract a b) = ⟨((l.take b).drop a).toArray⟩ := by
          apply WideShapes.bytes_inj
          simp [ByteArray.data_extract, List.extract_eq_take_drop, List.drop_take]
        rw [this]
        exact .str _
    · cases e
  · rename_i size es
    split at e
    · rename_i hs
      simp only [Option.map_eq_some_iff] at e
      obtain ⟨⟨a, b⟩, hc, rfl⟩ := e
      simp only [Option.map_eq_some_iff] at hs
      obtain ⟨⟨e', n⟩, hsl, rfl⟩ := hs
      obtain ⟨hu, hsz, hz⟩ := slV_some hsl
      simp only at *
      obtain ⟨inf, hi0⟩ := info_of_cells (P := P) (t := e') (by omega)
      obtain ⟨h1, h2, _, _⟩ := cutV_some hc
      rcases rep_slice_inv hx with ⟨rfl, rfl⟩ | ⟨ad, cap, g, rfl, hcap, hm, hss, ho, hg, hr⟩
      · have hb := bounds_run (P := P) (F := F) (isS := true) (n := 0) (cap := 0) hc (Nat.le_refl _) hlo hhi w
        simp only [List.length_nil] at h2
        obtain rfl : b = 0 := by omega
        obtain rfl : a = 0 := by omega
        refine ⟨.slice none 0 0, ?_, by simpa using Rep.snil⟩
        simp [Instr.sliceAt, run_underlying hu, Result.andThen, Instr.slice, hb, run_sizeOf' hi0]
      · have hb := bounds_run (P := P) (F := F) (isS := true) (n := es.length) (cap := cap) hc hcap hlo hhi w
        refine ⟨.slice (if cap = a then some ad else some (ad.add (a * n))) (b - a) (cap - a), ?_, ?_⟩
        · simp [Instr.sliceAt, run_underlying hu, Result.andThen, Instr.slice, hb, run_sizeOf' hi0, hsz]
        · have hlen : ((es.take b).drop a).length = b - a := by simp; omega
          have hnth : ∀ (i : Nat) (e : List V), ((es.take b).drop a)[i]? = some e → es[a + i]? = some e := fun i e hi => by
            rw [List.getElem?_drop, List.getElem?_take] at hi
            split at hi
            · exact hi
            · cases hi
          have hmem : ∀ e ∈ (es.take b).drop a, e ∈ es := fun e he => List.mem_of_mem_take (List.mem_of_mem_drop he)
          rw [← hlen]
          by_cases hca : cap = a
          · have : (es.take b).drop a = [] := List.eq_nil_of_length_eq_zero (by omega)
            rw [if_pos hca, this]
            exact .slice g (by simp) (by omega) (by simp) (by simp) (by simp) (by simp)
          · rw [if_neg hca]
            refine .slice (fun i j => g (a + i) j) (by omega) (by omega) (fun e he => hss e (hmem e he)) (fun e he => ho e (hmem e he)) (fun i j e c h1 h2 => ?_) (fun i j e c h1 h2 => hr _ j e c (hnth i e h1) h2)
            rw [add_add, ← Nat.add_assoc, ← Nat.add_mul]
            exact hg _ j e c (hnth i e h1) h2
    · cases e
  · cases e
end Go.Ab
