/-
  The quiet operations, one by one: soundness.
-/
import Derived.Test.YtbofgklhjjfbkaaGreatDoorAb2
namespace Go.Ab
open Go.RowKit
variable {P : Program} {F : Frz} {w : World}


theorem info_of_underlying {t : TypeId} {d : TypeDesc} (h : P.underlying t = some d) : ∃ i, P.info? t = some i := by
  unfold Program.underlying at h
  cases hi : P.info? t with
  | none => rw [hi] at h; cases h
  | some i => exact ⟨i, rfl⟩
theorem info_of_cells {t : TypeId} (h : P.cellsOf t ≠ 0) : ∃ i, P.info? t = some i := by
  unfold Program.cellsOf at h
  cases hi : P.info? t with
  | none => rw [hi] at h; simp at h
  | some i => exact ⟨i, rfl⟩
theorem run_sizeOf' {t : TypeId} {i : TypeInfo} (h : P.info? t = some i) (w : World) : (sizeOf t).run P w = .ok (P.cellsOf t) w := by
  simp [sizeOf, typeInfo, h, Program.cellsOf]
theorem run_isAgg {t : TypeId} {b : Bool} (h : aggB P t = some b) (w : World) : (isAgg t).run P w = .ok b w := by
  unfold aggB at h
  unfold isAgg
  cases hu : P.underlying t with
  | none => rw [hu] at h; cases h
  | some d =>
    rw [hu] at h
    simp only [Sem.run_bind, run_underlying hu, Result.andThen_ok]
    cases d <;> simp_all

/-- cells at an address -/
structure At (F : Frz) (a : Addr) (cs : List V) (g : Nat → Value) : Prop where
  one : ∀ c ∈ cs, c.one = true
  at_ : ∀ (j : Nat) c, cs[j]? = some c → F (a.add j) = some (g j)
  rep : ∀ (j : Nat) c, cs[j]? = some c → Rep F c (g j)

theorem At.drop {a : Addr} {cs : List V} {g : Nat → Value} (h : At F a cs g) (n : Nat) : At F (a.add n) (cs.drop n) (fun j => g (n + j)) :=
  ⟨fun c hc => h.one c (List.mem_of_mem_drop hc), fun j c hc => by rw [add_add]; exact h.at_ _ c (by simpa using hc), fun j c hc => h.rep _ c (by simpa using hc)⟩

theorem ldV_run {t : TypeId} {a : Addr} {cs : List V} {g : Nat → Value} {v : V} (hF : Sees F w) (h : At F a cs g) (hl : ldV P t cs = some v) :
    ∃ x, (loadVar t a).run P w = .ok x w ∧ Rep F v x := by
  unfold ldV at hl
  cases hb : aggB P t with
  | none => rw [hb] at hl; cases hl
  | some b =>
    rw [hb] at hl
    cases b with
    | true =>
      simp only [Option.map_eq_some_iff] at hl
      obtain ⟨r, hr, rfl⟩ := hl
      obtain ⟨rfl, hn⟩ := takeN_some hr
      have hi : ∃ i, P.info? t = some i := by
        unfold aggB at hb
        cases hu : P.underlying t with
        | none => rw [hu] at hb; cases hb
        | some d => exact info_of_underlying hu
      obtain ⟨i, hi⟩ := hi
      have hrun := run_loadCells (P := P) w a (P.cellsOf t) g (fun j hj => hF _ _ (h.at_ j cs[j] (List.getElem?_eq_getElem (by omega))))
      refine ⟨.agg ((List.range (P.cellsOf t)).map g).toArray, by simp [loadVar, run_isAgg hb, run_sizeOf' hi, hrun, Result.andThen], ?_⟩
      refine .agg (by simp; omega) (fun c hc => h.one c (List.mem_of_mem_take hc)) ?_
      intro j c x h1 h2
      have hj : j < P.cellsOf t := by
        rcases Nat.lt_or_ge j (P.cellsOf t) with hj | hj
        · exact hj
        · rw [List.getElem?_eq_none (by simp; omega)] at h1; cases h1
      have h1' : cs[j]? = some c := by simpa [List.getElem?_take, hj] using h1
      have : x = g j := by simpa [hj] using h2.symm
      subst this
      exact h.rep j c h1'
    | false =>
      simp only [List.head?_eq_getElem?] at hl
      have := hF _ _ (h.at_ 0 v hl)
      refine ⟨g 0, ?_, h.rep 0 v hl⟩
      have h0 : a.add 0 = a := by simp [Addr.add]
      rw [h0] at this
      simp [loadVar, run_isAgg hb, Result.andThen, this]

/-- a part of an aggregate by value -/
theorem part_run {t : TypeId} {cs : List V} {xs : Array Value} {off : Nat} {v : V} (hl : xs.size = cs.length) (ho : ∀ c ∈ cs, c.one = true)
    (hr : ∀ (j : Nat) c x, cs[j]? = some c → xs[j]? = some x → Rep F c x) (h : ldV P t (cs.drop off) = some v) :
    ∃ x, (part t xs off).run P w = .ok x w ∧ Rep F v x := by
  unfold ldV at h
  cases hb : aggB P t with
  | none => rw [hb] at h; cases h
  | some b =>
    rw [hb] at h
    cases b with
    | true =>
      simp only [Option.map_eq_some_iff] at h
      obtain ⟨r, hr', rfl⟩ := h
      obtain ⟨rfl, hn⟩ := takeN_some hr'
      have hi : ∃ i, P.info? t = some i := by
        unfold aggB at hb
        cases hu : P.underlying t with
        | none => rw [hu] at hb; cases hb
        | some d => exact info_of_underlying hu
      obtain ⟨i, hi⟩ := hi
      simp only [List.length_drop] at hn
      refine ⟨.agg (xs.extract off (off + P.cellsOf t)), by simp [part, run_isAgg hb, run_sizeOf' hi, Result.andThen], ?_⟩
      refine .agg (by simp; omega) (fun c hc => ho c (List.mem_of_mem_drop (List.mem_of_mem_take hc))) ?_
      intro j c x h1 h2
      have hj : j < P.cellsOf t := by
        rcases Nat.lt_or_ge j (P.cellsOf t) with hj | hj
        · exact hj
        · rw [List.getElem?_eq_none (by simp; omega)] at h1; cases h1
      have h1' : cs[off + j]? = some c := by simpa [List.getElem?_take, hj] using h1
      have h2' : xs[off + j]? = some x := by
        rw [Array.getElem?_extract] at h2
        split at h2
        · exact h2
        · cases h2
      exact hr _ c x h1' h2'
    | false =>
      have h' : cs[off]? = some v := by simpa [List.head?_eq_getElem?] using h
      have hlt : off < xs.size := by
        rcases Nat.lt_or_ge off cs.length with hj | hj
        · omega
        · rw [List.getElem?_eq_none hj] at h'; cases h'
      refine ⟨xs[off], ?_, hr off v _ h' (Array.getElem?_eq_getElem hlt)⟩
      simp [part, run_isAgg hb, Result.andThen, Array.getElem?_eq_getElem hlt]

theorem fldV_some {s : TypeId} {f off : Nat} {ft : TypeId} (h : fldV P s f = some (off, ft)) :
    ∃ fs fd, P.underlying s = some (.struct fs) ∧ fs[f]? = some fd ∧ fd.offset = off ∧ fd.type = ft ∧ P.cellsOf ft ≠ 0 := by
  unfold fldV at h
  split at h
  · rename_i fs hu
    split at h
    · rename_i fd hf
      split at h
      · cases h
      · rename_i hz
        simp only [Option.some.injEq, Prod.mk.injEq] at h
        obtain ⟨rfl, rfl⟩ := h
        exact ⟨fs, fd, hu, hf, rfl, rfl, hz⟩
    · cases h
  · cases h

theorem fieldAt_run {s : TypeId} {f off : Nat} {ft : TypeId} (h : fldV P s f = some (off, ft)) (a : Addr) (w : World) :
    (Instr.fieldAt s (.pointer (some a)) f).run P w = .ok (.pointer (some (a.add off))) w := by
  obtain ⟨fs, fd, hu, hf, rfl, rfl, hz⟩ := fldV_some h
  obtain ⟨i, hi⟩ := info_of_cells hz
  simp [Instr.fieldAt, run_underlying hu, hf, Result.andThen, Instr.sureAddr, fieldPlace, run_sizeOf' hi, hz]

theorem slV_some {t : TypeId} {e : TypeId} {n : Nat} (h : slV P t = some (e, n)) : P.underlying t = some (.slice e) ∧ P.cellsOf e = n ∧ n ≠ 0 := by
  unfold slV at h
  split at h
  · rename_i e' hu
    split at h
    · cases h
    · rename_i hz
      simp only [Option.some.injEq, Prod.mk.injEq] at h
      obtain ⟨rfl, rfl⟩ := h
      exact ⟨hu, rfl, hz⟩
  · cases h

theorem indexAt_run {t e : TypeId} {n : Nat} (h : slV P t = some (e, n)) (k : IntKind) (i : Int) (a : Addr) (len cap : Nat) (h0 : 0 ≤ i) (h1 : i < len) (w : World) :
    (Instr.indexAt t (.slice (some a) len cap) (.int k i)).run P w = .ok (.pointer (some (a.add (i.toNat * n)))) w := by
  obtain ⟨hu, rfl, hz⟩ := slV_some h
  obtain ⟨inf, hi⟩ := info_of_cells hz
  simp [Instr.indexAt, asIntOf, run_underlying hu, Result.andThen, run_sizeOf' hi, h0, h1]

theorem at_elem {size : Nat} {es : List (List V)} {a : Addr} {g : Nat → Nat → Value}
    (ho : ∀ e ∈ es, ∀ c ∈ e, c.one = true)
    (hg : ∀ (i j : Nat) e c, es[i]? = some e → e[j]? = some c → F (a.add (i * size + j)) = some (g i j))
    (hr : ∀ (i j : Nat) e c, es[i]? = some e → e[j]? = some c → Rep F c (g i j)) {k : Nat} {e : List V} (he : es[k]? = some e) :
    At F (a.add (k * size)) e (g k) :=
  ⟨ho e (List.mem_of_getElem? he), fun j c hc => by rw [add_add]; exact hg k j e c he hc, fun j c hc => hr k j e c he hc⟩

theorem rep_row {a : Addr} {cs : List V} {g : Nat → Value} (h : At F a cs g) : Rep F (.row cs) (.pointer (some a)) := .row g h.one h.at_ h.rep

theorem rep_row_inv {cs : List V} {x : Value} (h : Rep F (.row cs) x) : ∃ a g, x = .pointer (some a) ∧ At F a cs g := by
  cases h with
  | row g ho hg hr => exact ⟨_, g, rfl, ho, hg, hr⟩

theorem rep_slice_inv {size : Nat} {es : List (List V)} {x : Value} (h : Rep F (.slice size es) x) :
    (x = .slice none 0 0 ∧ es = []) ∨ ∃ (a : Addr) (cap : Nat) (g : Nat → Nat → Value), x = .slice (some a) es.length cap ∧ es.length ≤ cap ∧ cap ≤ maxLen ∧ (∀ e ∈ es, e.length = size) ∧ (∀ e ∈ es, ∀ c ∈ e, c.one = true) ∧
      (∀ (i j : Nat) e c, es[i]? = some e → e[j]? = some c → F (a.add (i * size + j)) = some (g i j)) ∧
      (∀ (i j : Nat) e c, es[i]? = some e → e[j]? = some c → Rep F c (g i j)) := by
  cases h with
  | snil => exact .inl ⟨rfl, rfl⟩
  | slice g hc hm hs ho hg hr => exact .inr ⟨_, _, g, rfl, hc, hm, hs, ho, hg, hr⟩
theorem rep_slice_len {size : Nat} {es : List (List V)} {x : Value} (h : Rep F (.slice size es) x) : ∃ a c, x = .slice a es.length c := by
  rcases rep_slice_inv h with ⟨rfl, rfl⟩ | ⟨a, cap, g, rfl, _⟩
  · exact ⟨none, 0, rfl⟩
  · exact ⟨_, _, rfl⟩

theorem intOp_run {op : BinOp} {k : IntKind} {a b : Int} {v : V} (h : intOp op k a b = some v) (t : TypeId) (w : World) :
    ∃ x, v = .val x ∧ (binOp op t (.int k a) (.int k b)).run P w = .ok x w := by
  cases op <;> simp only [intOp] at h <;>
    first
    | (cases h; refine ⟨_, rfl, ?_⟩; simp [binOp, Op.intArith]; done)
    | (cases h; refine ⟨_, rfl, ?_⟩; simp [binOp, Op.intCmp, bne, BEq.beq]; done)
    | (split at h
       · cases h
       · rename_i hz
         cases h
         refine ⟨_, rfl, ?_⟩
         simp [binOp, Op.intDiv, hz]
         done)
    | cases h
end Go.Ab
