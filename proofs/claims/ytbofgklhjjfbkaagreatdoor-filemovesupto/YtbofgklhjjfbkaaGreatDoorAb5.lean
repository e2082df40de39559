/-
  Soundness of the quiet operations.
-/
import Derived.Test.YtbofgklhjjfbkaaGreatDoorAb4
import Derived.Lib.SmallJoins
import Derived.WideShapes
namespace Go.Ab
open Go.RowKit
variable {P : Program} {F : Frz} {w : World} {ρ : Nat → Nat} {h : List (Nat × Blk)} {ρa : Operand → Option TV} {ρc : Operand → Value}

theorem nu_some {r : Option TV} {tv : TV} (h : nu r = some tv) : r = some tv := by
  unfold nu at h; split at h
  · cases h
  · exact h
theorem vOf_some {r : Option TV} {x : V} (h : vOf r = some x) : r = some (.v x) := by
  unfold vOf at h; split at h
  · cases h; rfl
  · cases h

structure Good (F : Frz) (w : World) (ρ : Nat → Nat) (h : List (Nat × Blk)) (ρa : Operand → Option TV) (ρc : Operand → Value) : Prop where
  sees : Sees F w
  blk : ∀ id k, look id h = some k → RepB F w (ρ id) k
  opr : ∀ x tv, ρa x = some tv → RepT F ρ tv (ρc x)

theorem Good.v (G : Good F w ρ h ρa ρc) {x : Operand} {v : V} (hx : vOf (ρa x) = some v) : Rep F v (ρc x) := G.opr x _ (vOf_some hx)

theorem var_mem {w : World} {b off j : Nat} {xs : Array Value} {ty : TypeId} (h : w.heap[b]? = some (.cells xs ty (0, 0))) : w.cell? ⟨b, off + j, none⟩ = xs[off + j]? := by
  simp [World.cell?, h]

/-- the cells behind a pointer, as they lie -/
theorem behind_load (G : Good F w ρ h ρa ρc) {x : Operand} {cs : List V} {t : TypeId} {v : V} (hb : behind h (ρa x) = some cs) (hl : ldV P t cs = some v) :
    ∃ y, (Instr.loadAt t (ρc x)).run P w = .ok y w ∧ Rep F v y := by
  unfold behind at hb
  split at hb
  · rename_i cs' hx
    cases hb
    obtain ⟨a, g, e, hat⟩ := rep_row_inv (show Rep F (.row _) (ρc x) from G.opr x _ hx)
    obtain ⟨y, hr, hy⟩ := ldV_run (P := P) G.sees hat hl
    exact ⟨y, by simp [Instr.loadAt, e, Instr.sureAddr, hr], hy⟩
  · rename_i id off hx
    have e := show ρc x = _ from G.opr x _ hx
    unfold memV at hb
    split at hb
    · rename_i cs' hk
      cases hb
      obtain ⟨xs, ty, h1, h2, h3, h4, h5⟩ := G.blk id _ hk
      -- what is read stands for its value without the own block
      have hnaive : ∃ y, (loadVar t ⟨ρ id, off, none⟩).run P w = .ok y w ∧ Rep F v y := by
        unfold ldV at hl
        cases hag : aggB P t with
        | none => rw [hag] at hl; cases hl
        | some b =>
          rw [hag] at hl
          cases b with
          | true =>
            simp only [Option.map_eq_some_iff] at hl
            obtain ⟨r, hr, rfl⟩ := hl
            obtain ⟨rfl, hn⟩ := takeN_some hr
            simp only [List.length_drop] at hn
            have hi : ∃ i, P.info? t = some i := by
              unfold aggB at hag
              cases hu : P.underlying t with
              | none => rw [hu] at hag; cases hag
              | some d => exact info_of_underlying hu
            obtain ⟨i, hi⟩ := hi
            have hrun := run_loadCells (P := P) w ⟨ρ id, off, none⟩ (P.cellsOf t) (fun j => xs.getD (off + j) undef) (fun j hj => by
              rw [add_plain, var_mem h1]
              have : off + j < xs.size := by omega
              simp [this])
            refine ⟨.agg ((List.range (P.cellsOf t)).map (fun j => xs.getD (off + j) undef)).toArray, by simp [loadVar, run_isAgg hag, run_sizeOf' hi, hrun, Result.andThen], ?_⟩
            refine .agg (by simp; omega) (fun c hc => h3 c (List.mem_of_mem_drop (List.mem_of_mem_take hc))) ?_
            intro j c x h1' h2'
            have hj : j < P.cellsOf t := by
              rcases Nat.lt_or_ge j (P.cellsOf t) with hj | hj
              · exact hj
              · rw [List.getElem?_eq_none (by simp; omega)] at h1'; cases h1'
            have h1'' : cs'[off + j]? = some c := by simpa [List.getElem?_take, hj] using h1'
            have hlt : off + j < xs.size := by omega
            have hx' : x = xs[off + j] := by simpa [hj, hlt] using h2'.symm
            subst hx'
            exact h4 _ c _ h1'' (Array.getElem?_eq_getElem hlt)
          | false =>
            have hl' : cs'[off]? = some v := by simpa [List.head?_eq_getElem?] using hl
            have hlt : off < xs.size := by
              have := (List.getElem?_eq_some_iff.1 hl').1
              omega
            have hc : w.cell? ⟨ρ id, off, none⟩ = some xs[off] := by simp [World.cell?, h1, hlt]
            exact ⟨xs[off], by simp [loadVar, run_isAgg hag, Result.andThen, hc], h4 off v _ hl' (Array.getElem?_eq_getElem hlt)⟩
      obtain ⟨y, hr, hy⟩ := hnaive
      exact ⟨y, by simp [Instr.loadAt, e, Instr.sureAddr, hr], hy⟩
    · rename_i cs' hk
      cases hb
      obtain ⟨g, h1, h2, h3⟩ := G.blk id _ hk
      have hat : At F ⟨ρ id, off, none⟩ (cs'.drop off) (fun j => g (off + j)) :=
        ⟨fun c hc => h1 c (List.mem_of_mem_drop hc), fun j c hc => by rw [add_plain]; exact h2 _ c (by simpa using hc), fun j c hc => h3 _ c (by simpa using hc)⟩
      obtain ⟨y, hr, hy⟩ := ldV_run (P := P) G.sees hat hl
      exact ⟨y, by simp [Instr.loadAt, e, Instr.sureAddr, hr], hy⟩
    · cases hb
  · cases hb

theorem capV_sound (G : Good F w ρ h ρa ρc) {x : Operand} {v : V} (hv : capV h (ρa x) = some v) : Rep F v (ρc x) := by
  unfold capV at hv
  split at hv
  · rename_i v' hx; cases hv; exact G.opr x _ hx
  · rename_i id off hx
    have e := show ρc x = _ from G.opr x _ hx
    split at hv
    · rename_i cs hk
      cases hv
      obtain ⟨g, h1, h2, h3⟩ := G.blk id _ hk
      rw [e]
      exact .row (fun j => g (off + j)) (fun c hc => h1 c (List.mem_of_mem_drop hc)) (fun j c hc => by rw [add_plain]; exact h2 _ c (by simpa using hc)) (fun j c hc => h3 _ c (by simpa using hc))
    · cases hv
  · cases hv

theorem capsV_sound (G : Good F w ρ h ρa ρc) : ∀ {l : List Operand} {vs : List V}, capsV ρa h l = some vs → vs.length = l.length ∧ ∀ (j : Nat) v x, vs[j]? = some v → (l.map ρc)[j]? = some x → Rep F v x
  | [], vs, e => by simp [capsV] at e; subst e; simp
  | x :: r, vs, e => by
    simp only [capsV] at e
    split at e
    · rename_i v vs' h1 h2
      cases e
      obtain ⟨hl, hh⟩ := capsV_sound G h2
      refine ⟨by simp [hl], fun j v' x' e1 e2 => ?_⟩
      cases j with
      | zero =>
        simp only [List.getElem?_cons_zero, Option.some.injEq, List.map_cons] at e1 e2
        subst e1 e2
        exact capV_sound G h1
      | succ j =>
        simp only [List.getElem?_cons_succ, List.map_cons] at e1 e2
        exact hh j v' x' e1 e2
    · cases e

theorem vsOf_sound (G : Good F w ρ h ρa ρc) : ∀ {l : List Operand} {vs : List V}, vsOf ρa l = some vs → vs.length = l.length ∧ ∀ (j : Nat) v x, vs[j]? = some v → (l.map ρc)[j]? = some x → Rep F v x
  | [], vs, e => by simp [vsOf] at e; subst e; simp
  | x :: r, vs, e => by
    simp only [vsOf] at e
    split at e
    · rename_i v vs' h1 h2
      cases e
      obtain ⟨hl, hh⟩ := vsOf_sound G h2
      refine ⟨by simp [hl], fun j v' x' e1 e2 => ?_⟩
      cases j with
      | zero =>
        simp only [List.getElem?_cons_zero, Option.some.injEq, List.map_cons] at e1 e2
        subst e1 e2
        exact G.v h1
      | succ j =>
        simp only [List.getElem?_cons_succ, List.map_cons] at e1 e2
        exact hh j v' x' e1 e2
    · cases e

theorem strB_true {t : TypeId} (e : strB P t = true) : P.underlying t = some .string := by
  unfold strB at e; split at e
  · rename_i h; exact h
  · cases e
theorem boolB_true {t : TypeId} (e : boolB P t = true) : P.underlying t = some .bool := by
  unfold boolB at e; split at e
  · rename_i h; exact h
  · cases e
theorem ifcB_true {t : TypeId} (e : ifcB P t = true) : ∃ ms, P.underlying t = some (.interface ms) := by
  unfold ifcB at e; split at e
  · rename_i ms h; exact ⟨ms, h⟩
  · cases e
theorem intK_some {t : TypeId} {k : IntKind} (e : intK P t = some k) : P.underlying t = some (.int k) := by
  unfold intK at e; split at e
  · rename_i k' h; cases e; exact h
  · cases e
theorem slV_isSome {t : TypeId} (e : (slV P t).isSome = true) : ∃ e', P.underlying t = some (.slice e') := by
  obtain ⟨⟨e', n⟩, h⟩ := Option.isSome_iff_exists.1 e
  exact ⟨e', (slV_some h).1⟩

theorem rep_str_inv {l : List UInt8} {x : Value} (h : Rep F (.str l) x) : x = .string ⟨l.toArray⟩ := by cases h; rfl
theorem rep_val_inv {v x : Value} (h : Rep F (.val v) x) : x = v := by cases h; rfl

theorem size_mk' (l : List UInt8) : ByteArray.size ⟨l.toArray⟩ = l.length := rfl

theorem lenV_sound (G : Good F w ρ h ρa ρc) {t ty : TypeId} {x : Operand} {v : V} (e : lenV P t h (ρa x) = some v) :
    ∃ y, (Builtin.len_ #[t] ty #[ρc x]).run P w = .ok y w ∧ Rep F v y := by
  unfold lenV at e
  split at e
  · rename_i size es hx
    split at e
    · rename_i hs
      cases e
      obtain ⟨e', hu⟩ := slV_isSome hs
      obtain ⟨a, c, hv⟩ := rep_slice_len (show Rep F (.slice size es) (ρc x) from G.opr x _ hx)
      exact ⟨.int .i64 es.length, by simp [Builtin.len_, run_underlying hu, Result.andThen, hv, goInt], .val _⟩
    · cases e
  · rename_i l hx
    split at e
    · rename_i hs
      cases e
      have hv := rep_str_inv (show Rep F (.str l) (ρc x) from G.opr x _ hx)
      exact ⟨.int .i64 l.length, by simp only [Builtin.len_, hv]; simp [run_underlying (strB_true hs), Result.andThen, size_mk']; rfl, .val _⟩
    · cases e
  · rename_i hx
    split at e
    · rename_i hs
      cases e
      obtain ⟨e', hu⟩ := slV_isSome hs
      have hv := rep_val_inv (show Rep F (.val _) (ρc x) from G.opr x _ hx)
      exact ⟨.int .i64 0, by simp [Builtin.len_, run_underlying hu, Result.andThen, hv, goInt], .val _⟩
    · cases e
  · rename_i id off m size hx
    split at e
    · rename_i hs
      cases e
      obtain ⟨e', hu⟩ := slV_isSome hs
      obtain ⟨cap, _, _, _, hv⟩ := show ∃ cap, m ≤ cap ∧ cap ≤ maxLen ∧ 0 < m ∧ ρc x = _ from G.opr x _ hx
      exact ⟨.int .i64 m, by simp [Builtin.len_, run_underlying hu, Result.andThen, hv, goInt], .val _⟩
    · cases e
  · rename_i id hx
    split at e
    · rename_i es k' e' hk hu
      cases e
      have hv := show ρc x = _ from G.opr x _ hx
      obtain ⟨xs, ck, h1, _, h2, h3⟩ := G.blk id _ hk
      have hg : (getObj (ρ id)).run P w = .ok (.map xs ck) w := by
        unfold getObj
        simp only [Sem.run]
        rw [h1]
      exact ⟨.int .i64 es.length, by simp [Builtin.len_, run_underlying hu, Result.andThen, hv, goInt, hg, h2], .val _⟩
    · cases e
  · cases e

theorem size_mk (l : List UInt8) : (⟨l.toArray⟩ : ByteArray).size = l.length := by simp [ByteArray.size]
theorem toList_mk (l : List UInt8) : (⟨l.toArray⟩ : ByteArray).toList = l := by simp [ByteArray.toList_eq]

theorem strOp_run {op : BinOp} {a b : List UInt8} {v : V} (e : strOp op a b = some v) (t : TypeId) (w : World) :
    ∃ y, (binOp op t (.string ⟨a.toArray⟩) (.string ⟨b.toArray⟩)).run P w = .ok y w ∧ Rep F v y := by
  cases op <;> simp only [strOp] at e <;> try (cases e; done)
  case add =>
    split at e
    · rename_i hle
      cases e
      refine ⟨.string ⟨(a ++ b).toArray⟩, ?_, .str _⟩
      have : (⟨a.toArray⟩ : ByteArray) ++ ⟨b.toArray⟩ = ⟨(a ++ b).toArray⟩ := by
        apply WideShapes.bytes_inj
        simp
      have hm : IntKind.i64.max = 9223372036854775807 := by decide
      simp [binOp, Op.stringOp, hm, size_mk, this]
      omega
    · cases e
  all_goals
    cases e
    refine ⟨_, ?_, .val _⟩
    simp [binOp, Op.stringOp]
end Go.Ab
