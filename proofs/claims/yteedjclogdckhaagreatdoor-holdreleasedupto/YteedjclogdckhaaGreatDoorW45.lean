/-
  Contracts of functions of the program, each by a walk through its code, for all arguments within the bounds that the statements name.
-/
import Derived.Test.YteedjclogdckhaaGreatDoorW44
namespace Go.Arc
open Go.Ab Go.RowKit Go.Proofs
variable {T : Lay}

/-! ending a hold -/
theorem flatH : ∀ (l : List Hld), ∀ e ∈ l.map Hld.cs, ∀ c ∈ e, c.flat = true := by
  intro l e he c hc
  obtain ⟨n, -, rfl⟩ := List.mem_map.1 he
  simp only [Hld.cs, List.mem_cons, List.mem_nil_iff, or_false] at hc
  rcases hc with rfl | rfl | rfl | rfl | rfl | rfl | rfl <;> rfl
theorem lenH7 (l : List Hld) : ∀ e ∈ l.map Hld.cs, e.length = 7 := by
  intro e he
  obtain ⟨n, -, rfl⟩ := List.mem_map.1 he
  rfl
theorem den_cloneHld (l : List Hld) (hl : l.length ≤ 1048576) : DenO Tryz.prog T 20 [hlds l] 27 (hlds l) := by
  refine denO_of_body follows (fun args w => Tryz.call20 args w) Tryz.func20 rfl 8 rfl ?_
  cases l with
  | nil =>
    refine run ?_
    intro b
    cases b
    · refine run ?_
      exact finO (.refl _)
    · refine run ?_
      exact finO (.nil 7)
  | cons x r =>
    have h : r.length + 1 ≤ 1048576 := hl
    have e : hlds (x :: r) = .slice 7 (x.cs :: r.map Hld.cs) := rfl
    rw [e]
    refine run ?_
    exact finO (.refl _)
theorem denN_cloneHld (l : List Hld) (hl : l.length ≤ 1048576) : DenN Tryz.prog T 20 [hlds l] 7 (l.map Hld.cs) :=
  (den_cloneHld l hl).new (by kernel_rfl) (by decide) (flatH l)

/-- the cells of holds, one after the other -/
def cellsH (l : List Hld) : List V := (l.map Hld.cs).flatten
theorem cellsH_cons (x : Hld) (l : List Hld) : cellsH (x :: l) = x.cs ++ cellsH l := rfl
theorem cellsH_len : ∀ (l : List Hld), (cellsH l).length = l.length * 7
  | [] => rfl
  | x :: l => by rw [cellsH_cons, List.length_append, cellsH_len l, List.length_cons]; simp only [Hld.cs, List.length_cons, List.length_nil]; omega
theorem cellsH_chunk : ∀ (l : List Hld), chunk 0 l.length 7 (cellsH l) = l.map Hld.cs := by
  intro l
  have key : ∀ (l : List Hld) (i : Nat) (x : Hld), l[i]? = some x → ((cellsH l).drop (i * 7)).take 7 = x.cs := by
    intro l
    induction l with
    | nil => intro i x h; simp at h
    | cons y r ih =>
      intro i x h
      rw [cellsH_cons]
      cases i with
      | zero =>
        simp only [List.getElem?_cons_zero, Option.some.injEq] at h
        subst h
        simp
      | succ i =>
        simp only [List.getElem?_cons_succ] at h
        have : (i + 1) * 7 = y.cs.length + i * 7 := by simp only [Hld.cs, List.length_cons, List.length_nil]; omega
        rw [this, List.drop_length_add_append]
        exact ih i x h
  refine List.ext_getElem? fun i => ?_
  simp only [chunk, List.getElem?_map]
  by_cases h : i < l.length
  · rw [List.getElem?_range h, List.getElem?_eq_getElem h]
    simp only [Option.map_some, Nat.zero_add, Option.some.injEq]
    exact key l i _ (List.getElem?_eq_getElem h)
  · rw [List.getElem?_eq_none (l := List.range l.length) (by simp; omega), List.getElem?_eq_none (l := l) (by omega)]
    rfl
/-- the day on which the hold at i ends is written -/
theorem cellsH_cut : ∀ (l : List Hld) (i : Nat) (x : Hld) (d : Int), l[i]? = some x → (cellsH l).take (i * 7 + 6) ++ [vi d] ++ (cellsH l).drop (i * 7 + 6 + 1) = cellsH (cutH l i d)
  | [], i, x, d, h => by simp at h
  | y :: r, 0, x, d, h => by
    simp only [List.getElem?_cons_zero, Option.some.injEq] at h
    subst h
    rfl
  | y :: r, i + 1, x, d, h => by
    simp only [List.getElem?_cons_succ] at h
    have ih := cellsH_cut r i x d h
    have e : cutH (y :: r) (i + 1) d = y :: cutH r i d := by simp [cutH, h]
    rw [e, cellsH_cons, cellsH_cons, ← ih]
    have e1 : (i + 1) * 7 + 6 = y.cs.length + (i * 7 + 6) := by simp only [Hld.cs, List.length_cons, List.length_nil]; omega
    have e2 : (i + 1) * 7 + 6 + 1 = y.cs.length + (i * 7 + 6 + 1) := by simp only [Hld.cs, List.length_cons, List.length_nil]; omega
    rw [e2, e1, List.take_length_add_append, List.drop_length_add_append]
    simp only [List.append_assoc]

theorem den_ixHld (l : List Hld) (f : FuncId) (cap : List V) (p : Hld → Bool) (hl : l.length ≤ 1048576) (hp : ∀ e ∈ l, Den Tryz.prog T f (.agg e.cs :: cap) (vb (p e))) :
   Den Tryz.prog T 56 [hlds l, .func f cap] (vi (ix p l)) := by
  refine den_of_body follows (fun args w => Tryz.call56 args w) Tryz.func56 rfl 19 rfl ?_
  refine run ?_
  refine loop ⟨[0, 1, 7, 8], [], [], []⟩ (fun k : Nat => k ≤ l.length ∧ ∀ e ∈ l.take k, p e = false) (fun k => l.length - k)
    (fun k => ⟨19, [(0, .v (hlds l)), (1, .v (.func f cap)), (7, .v (vi l.length)), (8, .v (vi k))], [], []⟩) 0 ⟨by omega, by simp⟩ ?_
  rintro k ⟨hk, hall⟩
  by_cases hlt : k < l.length
  · obtain ⟨x, hx, -, hm⟩ := drop_at hlt
    refine runW hx ?_
    refine call (hp x hm) ?_
    cases hpc : p x
    · refine run ?_
      exact round (k + 1) ⟨by omega, take_snoc hall hx hpc⟩ (by omega)
    · refine run ?_
      exact fin (vi_eq (ix_at hall hx hpc))
  · refine run ?_
    exact fin (vi_eq (ix_none hall hlt))
theorem den_Rel1 (h : Hld) (n : Int) : Den Tryz.prog T 57 [.agg h.cs, .row [vi n]] (vb (isIdH n h)) := by
  refine den_of_body follows (fun args w => Tryz.call57 args w) Tryz.func57 rfl 8 rfl ?_
  refine run ?_
  exact fin rfl
theorem den_FindHRef (l : List Hld) (n : Int) (hl : l.length ≤ 1048576) : Den Tryz.prog T 59 [hlds l, vi n] (vi (findH l n)) := by
  refine den_of_body follows (fun args w => Tryz.call59 args w) Tryz.func59 rfl 20 rfl ?_
  refine run ?_
  refine loop ⟨[0, 1, 5], [], [], []⟩ (fun k : Nat => k ≤ l.length ∧ ∀ o ∈ l.take k, isIdH n o = false) (fun k => l.length - k)
    (fun k => ⟨20, [(0, .v (hlds l)), (1, .v (vi n)), (5, .v (vi k))], [], []⟩) 0 ⟨by omega, by simp⟩ ?_
  rintro k ⟨hk, hall⟩
  by_cases hlt : k < l.length
  · obtain ⟨x, hx, -, -⟩ := drop_at hlt
    by_cases hxn : x.id = n
    · refine runW hx ?_
      exact fin (vi_eq (ix_at (p := isIdH n) hall hx (by simp [isIdH, hxn])))
    · refine runW hx ?_
      exact round (k + 1) ⟨by omega, take_snoc (q := fun o : Hld => isIdH n o = false) hall hx (by simp [isIdH, hxn])⟩ (by omega)
  · refine run ?_
    exact fin (vi_eq (ix_none (p := isIdH n) hall hlt))

theorem wk_two {a b c : V} (h : Wk a b) : Wk (.tup [a, c]) (.tup [b, c]) := by
  refine .tup rfl fun j v u h1 h2 => ?_
  rcases j with _ | _ | j
  · cases h1; cases h2; exact h
  · cases h1; cases h2; exact .refl _
  · simp at h1
abbrev relV (l : List Hld) (n d : Int) : V := .tup [hlds (relL l n d), vi (relE l n d)]
theorem relE_1 {l : List Hld} {n d : Int} (h : goodH l = false) : relE l n d = 1 := by unfold relE; rw [if_pos h]
theorem relE_7 {l : List Hld} {n d : Int} (h : goodH l = true) (h7 : findH l n < 0) : relE l n d = 7 := by unfold relE; rw [if_neg (by simp [h]), if_pos h7]
theorem relE_2 {l : List Hld} {n d : Int} {i : Nat} {x : Hld} (h : goodH l = true) (hi : findH l n = i) (hx : l[i]? = some x) (h2 : d ≤ x.frm ∨ x.til < d) : relE l n d = 2 := by
  unfold relE; rw [if_neg (by simp [h]), if_neg (by omega), hi, Int.toNat_natCast, hx]; simp only; rw [if_pos h2]
theorem relE_0 {l : List Hld} {n d : Int} {i : Nat} {x : Hld} (h : goodH l = true) (hi : findH l n = i) (hx : l[i]? = some x) (h2 : ¬ (d ≤ x.frm ∨ x.til < d)) : relE l n d = 0 := by
  unfold relE; rw [if_neg (by simp [h]), if_neg (by omega), hi, Int.toNat_natCast, hx]; simp only; rw [if_neg h2]
theorem relV_e {l : List Hld} {n d e : Int} (h : relE l n d = e) (hne : e ≠ 0) : relV l n d = .tup [hlds [], vi e] := by
  unfold relV relL; rw [if_neg (by rw [h]; exact hne), h]
theorem relV_0 {l : List Hld} {n d : Int} {i : Nat} (h : relE l n d = 0) (hi : findH l n = i) : relV l n d = .tup [hlds (cutH l i d), vi 0] := by
  unfold relV relL; rw [if_pos h, h, hi, Int.toNat_natCast]
theorem findH_cases (l : List Hld) (n : Int) : findH l n < 0 ∨ ∃ (i : Nat) (x : Hld), findH l n = i ∧ i < l.length ∧ l[i]? = some x ∧ x.id = n := by
  rcases ix_find (isIdH n) l with ⟨h, -⟩ | ⟨k, x, h1, h2, h3, -, h4⟩
  · left; show ix (isIdH n) l < 0; rw [h]; decide
  · right; exact ⟨k, x, h1, h2, h3, by simpa [isIdH] using h4⟩
set_option maxRecDepth 100000 in
theorem den_Release (L : LibC T) (l : List Hld) (n d : Int) (hl : FitsH l) : Den Tryz.prog T 27 [hlds l, vi n, vi d] (relV l n d) := by
  have hl0 := hl.1
  refine den_of_body follows (fun args w => Tryz.call27 args w) Tryz.func27 rfl 51 rfl ?_
  refine run ?_
  refine call (den_CheckH L l hl) ?_
  by_cases hg0 : ¬ (checkH l).2 = 0
  · rw [relV_e (e := 1) (relE_1 (by simp [goodH, hg0])) (by decide)]
    refine run ?_
    exact finW (wk_two (.nil 7))
  have hz : (checkH l).2 = 0 := Decidable.not_not.1 hg0
  have hg : goodH l = true := by simp [goodH, hz]
  refine run ?_
  refine call (den_ixHld l _ _ (isIdH n) hl0 fun h _ => den_Rel1 h n) ?_
  rcases findH_cases l n with h7 | ⟨i, x, hi, hlt, hx, -⟩
  · rw [relV_e (relE_7 hg h7) (by decide)]
    have h7' : ix (isIdH n) l < 0 := h7
    refine run ?_
    exact finW (wk_two (.nil 7))
  · rw [show ix (isIdH n) l = (i : Int) from hi]
    by_cases a1 : d ≤ x.frm
    · rw [relV_e (relE_2 hg hi hx (.inl a1)) (by decide)]
      refine runW hx ?_
      exact finW (wk_two (.nil 7))
    by_cases a2 : x.til < d
    · rw [relV_e (relE_2 hg hi hx (.inr a2)) (by decide)]
      refine runW hx ?_
      exact finW (wk_two (.nil 7))
    rw [relV_0 (relE_0 hg hi hx (by omega)) hi]
    refine runW hx ?_
    refine callN (denN_cloneHld l hl0) ?_ ?_
    · intro hz
      have : l = [] := by simpa using hz
      subst this
      simp at hlt
    · intro _
      have hcl := cellsH_len l
      have hcut := cellsH_cut l i x d hx
      have hcc := cellsH_chunk (cutH l i d)
      rw [cutH_len] at hcc
      rw [show (l.map Hld.cs).flatten = cellsH l from rfl]
      generalize cellsH l = C at hcl hcut
      refine run ?_
      refine finF2 (Wk.of ?_) ?_
      · rw [show hlds (cutH l i d) = .slice 7 ((cutH l i d).map Hld.cs) from rfl, ← hcc, ← hcut]
      · rw [hcut, cellsH_len, cutH_len]; omega
set_option maxRecDepth 100000 in
theorem den_ReleaseRef (l : List Hld) (n d : Int) (hl : FitsH l) : Den Tryz.prog T 28 [hlds l, vi n, vi d] (relV l n d) := by
  have hl0 := hl.1
  refine den_of_body follows (fun args w => Tryz.call28 args w) Tryz.func28 rfl 46 rfl ?_
  refine run ?_
  refine call (den_GoodHRef l hl) ?_
  cases hg : goodH l
  · rw [relV_e (e := 1) (relE_1 hg) (by decide)]
    refine run ?_
    exact finW (wk_two (.nil 7))
  refine run ?_
  refine call (den_FindHRef l n hl0) ?_
  rcases findH_cases l n with h7 | ⟨i, x, hi, hlt, hx, -⟩
  · rw [relV_e (relE_7 hg h7) (by decide)]
    refine run ?_
    exact finW (wk_two (.nil 7))
  · rw [hi]
    by_cases a1 : d ≤ x.frm
    · rw [relV_e (relE_2 hg hi hx (.inl a1)) (by decide)]
      refine runW hx ?_
      exact finW (wk_two (.nil 7))
    by_cases a2 : x.til < d
    · rw [relV_e (relE_2 hg hi hx (.inr a2)) (by decide)]
      refine runW hx ?_
      exact finW (wk_two (.nil 7))
    rw [relV_0 (relE_0 hg hi hx (by omega)) hi]
    refine runB hx ?_
    refine appO_l ?_
    have hcl := cellsH_len l
    have hcut := cellsH_cut l i x d hx
    have hcc := cellsH_chunk (cutH l i d)
    rw [cutH_len] at hcc
    have hfl : (l.map Hld.cs).flatten = cellsH l := rfl
    have hap : (l.map Hld.cs).length * 56 ≤ 140737488355328 := by simp; omega
    refine runB hfl ?_
    generalize cellsH l = C at hcl hcut
    refine run ?_
    refine finF2 (Wk.of ?_) ?_
    · rw [show hlds (cutH l i d) = .slice 7 ((cutH l i d).map Hld.cs) from rfl, ← hcc, ← hcut]
    · rw [hcut, cellsH_len, cutH_len]; omega

theorem hld_ne {x y : Hld} (h : x ≠ y) : ¬ (x.id = y.id ∧ x.kind = y.kind ∧ x.obj = y.obj ∧ x.cls = y.cls ∧ x.why = y.why ∧ x.frm = y.frm ∧ x.til = y.til) := by
  rintro ⟨h1, h2, h3, h4, h5, h6, h7⟩
  cases x; cases y
  simp only at h1 h2 h3 h4 h5 h6 h7
  subst h1 h2 h3 h4 h5 h6 h7
  exact h rfl
theorem den_SameH (a : List Hld) (ha : a.length ≤ 1048576) : Den Tryz.prog T 29 [hlds a, hlds a] (vb true) := by
  refine den_of_body follows (fun args w => Tryz.call29 args w) Tryz.func29 rfl 26 rfl ?_
  refine run ?_
  refine loop ⟨[0, 1, 5], [], [], []⟩ (fun k : Nat => k ≤ a.length) (fun k => a.length - k)
    (fun k => ⟨26, [(0, .v (hlds a)), (1, .v (hlds a)), (5, .v (vi k))], [], []⟩) 0 (by omega) ?_
  intro k hk
  by_cases hlt : k < a.length
  · obtain ⟨x, hx, hd, -⟩ := drop_at hlt
    refine runW hx ?_
    exact round (k + 1) (by omega) (by omega)
  · refine run ?_
    exact fin rfl

theorem relL_len (l : List Hld) (n d : Int) : (relL l n d).length ≤ l.length := by
  unfold relL
  split
  · rw [cutH_len]; exact Nat.le_refl _
  · simp
set_option maxRecDepth 100000 in
theorem den_HoldChecks (L : LibC T) (l : List Hld) (n d : Int) (hl : FitsH l) : Den Tryz.prog T 7 [hlds l, vi n, vi d] (vb true) := by
  have hrl := relL_len l n d
  have hl0 := hl.1
  refine den_of_body follows (fun args w => Tryz.call7 args w) Tryz.func7 rfl 62 rfl ?_
  refine run ?_
  refine call (den_awake10 L) ?_
  refine run ?_
  refine call (den_FewH l hl) ?_
  cases fewH l
  · refine run ?_
    exact fin rfl
  refine run ?_
  refine call (den_CheckH L l hl) ?_
  refine run ?_
  refine call (den_CheckHRef l hl) ?_
  refine run ?_
  refine call (den_Release L l n d hl) ?_
  refine run ?_
  refine call (den_ReleaseRef l n d hl) ?_
  refine run ?_
  refine call (den_SameH (relL l n d) (by omega)) ?_
  refine run ?_
  exact fin rfl
end Go.Arc
