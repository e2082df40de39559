/-
  Contracts of functions of the program, each by a walk through its code, for all arguments within the bounds that the statements name.
-/
import Derived.Test.YtbofgklhjjfbkaaGreatDoorW33
namespace Go.Arc
open Go.Ab Go.RowKit Go.Proofs
variable {T : Lay}

theorem inS_and (f u d : Int) : inS f u d = (decide (f ≤ d) && decide (d < u)) := by simp [inS]
theorem den_there (os : List Ofc) (id d : Int) (hl : os.length ≤ 1048576) : Den Tryz.prog T 80 [ofcs os, vi id, vi d] (vb (thereO os id d)) := by
  refine den_of_body follows (fun args w => Tryz.call80 args w) Tryz.func80 rfl 33 rfl ?_
  refine run ?_
  refine call (den_FindO os id hl) ?_
  rcases findO_look os id with ⟨h1, h2⟩ | ⟨i, o, h1, h2, h3⟩
  · rw [thereO_n h2]
    refine run ?_
    exact fin rfl
  · rw [h1, thereO_s h3, inS_and]
    by_cases g1 : o.frm ≤ d
    · by_cases g2 : d < o.til
      · refine runW h2 ?_
        exact fin rfl
      · refine runW h2 ?_
        exact fin rfl
    · refine runW h2 ?_
      refine fin (vb_eq ?_)
      simp [g1]

theorem badF_iff (f : Fil) : badF f ↔ (f.id < 1 ∨ 1073741824 < f.id ∨ dayB f.opn 0 = false ∨ (dayB f.cld f.opn = false ∧ f.cld ≠ 1048576) ∨ f.pts < 0 ∨ 100 < f.pts) := Iff.rfl
theorem noClass_n {ps : List Plan} {f : Fil} (h : idx ps f.opn < 0) : noClass ps f = true := by simp [noClass, h]
theorem noClass_s {ps : List Plan} {f : Fil} {v : Nat} {p : Plan} (h : idx ps f.opn = v) (hp : ps[v]? = some p) : noClass ps f = !has p f.cls := by
  unfold noClass
  have : decide ((v : Int) < 0) = false := decide_eq_false (by omega)
  rw [h, Int.toNat_natCast, pl_at hp, this]; rfl

set_option maxRecDepth 100000 in
set_option maxHeartbeats 2000000 in
theorem den_checkF (L : LibC T) (os : List Ofc) (ps : List Plan) (l : List Fil) (i : Nat) (ho : FitsO os) (hp : Fits ps) (hg : goodL ps = true) (hl : FitsF l) (hi : i < l.length) :
    Den Tryz.prog T 59 [ofcs os, plans ps, fils l, vi i] (vi (faultF os ps l i)) := by
  obtain ⟨hl0, hf⟩ := hl
  obtain ⟨f, hfi, -, hm⟩ := drop_at hi
  have hff := hf f hm
  have hp0 := hp.1
  have ho0 := ho.1
  refine den_of_body follows (fun args w => Tryz.call59 args w) Tryz.func59 rfl 99 rfl ?_
  refine runW hfi ?_
  refine call (den_AtL L ps f.opn hp) ?_
  rw [atL_good hg]
  by_cases b1 : f.id < 1
  · rw [faultF_2 hfi ((badF_iff f).2 (.inl b1))]
    refine run ?_
    exact fin rfl
  by_cases b2 : 1073741824 < f.id
  · rw [faultF_2 hfi ((badF_iff f).2 (.inr (.inl b2)))]
    refine run ?_
    exact fin rfl
  refine run ?_
  refine call (den_isDayF f.opn 0) ?_
  cases b3 : dayB f.opn 0
  · rw [faultF_2 hfi ((badF_iff f).2 (.inr (.inr (.inl b3))))]
    refine run ?_
    exact fin rfl
  refine run ?_
  refine call (den_isDayF f.cld f.opn) ?_
  have next : ∀ {Q : Prop}, ((dayB f.cld f.opn = false ∧ f.cld ≠ 1048576) → Q) → ((dayB f.cld f.opn = true) → Q) → (dayB f.cld f.opn = false → f.cld = 1048576 → Q) → Q := fun {Q} a b c => by
    cases e : dayB f.cld f.opn
    · by_cases h : f.cld = 1048576
      · exact c e h
      · exact a ⟨e, h⟩
    · exact b e
  have tail : ∀ (h4 : ¬ (dayB f.cld f.opn = false ∧ f.cld ≠ 1048576)) (h5 : ¬ f.pts < 0) (h6 : ¬ 100 < f.pts),
      faultF os ps l i = if prevF l i f = true then 5 else if name f.title = false then 4 else if thereO os f.ofc f.opn = false then 7 else if noClass ps f = true then 24 else notesErr f := fun h4 h5 h6 =>
    faultF_r hfi fun h => by
      rcases (badF_iff f).1 h with h | h | h | h | h | h
      · exact b1 h
      · exact b2 h
      · rw [b3] at h; cases h
      · exact h4 h
      · exact h5 h
      · exact h6 h
  have two : f.pts < 0 ∨ 100 < f.pts → faultF os ps l i = 2 := fun h => faultF_2 hfi ((badF_iff f).2 (by rcases h with h | h <;> simp [h]))
  refine next (fun h4 => ?_) (fun h4 => ?_) (fun h4 h4' => ?_)
  · rw [faultF_2 hfi ((badF_iff f).2 (.inr (.inr (.inr (.inl h4))))), h4.1]
    have := h4.2
    refine run ?_
    exact fin rfl
  all_goals rw [h4]
  all_goals by_cases b5 : f.pts < 0
  · rw [two (.inl b5)]
    refine run ?_
    exact fin rfl
  rotate_left
  · rw [two (.inl b5)]
    refine run ?_
    exact fin rfl
  rotate_left
  all_goals by_cases b6 : 100 < f.pts
  · rw [two (.inr b6)]
    refine run ?_
    exact fin rfl
  rotate_left
  · rw [two (.inr b6)]
    refine run ?_
    exact fin rfl
  rotate_left
  all_goals
    rw [tail (by simp [*]) b5 b6]
    have hprev : (prevF l i f = true ∧ ∃ q, i ≠ 0 ∧ l[i - 1]? = some q ∧ f.id ≤ q.id) ∨ (prevF l i f = false ∧ (i = 0 ∨ ∃ q, i ≠ 0 ∧ l[i - 1]? = some q ∧ ¬ f.id ≤ q.id)) := by
      by_cases h0 : i = 0
      · right; rw [h0]; exact ⟨prevF_0 l f, .inl rfl⟩
      · obtain ⟨q, hq, -, -⟩ := drop_at (l := l) (k := i - 1) (by omega)
        by_cases hle : f.id ≤ q.id
        · left; exact ⟨by rw [prevF_s h0 hq]; simp [hle], q, h0, hq, hle⟩
        · right; exact ⟨by rw [prevF_s h0 hq]; simp [hle], .inr ⟨q, h0, hq, hle⟩⟩
    have rest : ∀ {st : St} {Q : AX → St → Prop}, True := fun {_ _} => trivial
    rcases hprev with ⟨hpv, q, h0, hq, hle⟩ | ⟨hpv, h0 | ⟨q, h0, hq, hle⟩⟩
    · rw [if_pos hpv]
      refine runW hq ?_
      exact fin rfl
    all_goals
      rw [if_neg (by rw [hpv]; exact Bool.noConfusion)]
      first
        | (subst h0; refine run ?_)
        | refine runW hq ?_
      refine call (den_Name L f.title hff.2.1) ?_
      cases hn : name f.title
      · rw [if_pos rfl]
        refine run ?_
        exact fin rfl
      · rw [if_neg (by exact Bool.noConfusion)]
        refine run ?_
        refine call (den_there os f.ofc f.opn ho0) ?_
        cases ht : thereO os f.ofc f.opn
        · rw [if_pos rfl]
          refine run ?_
          exact fin rfl
        · rw [if_neg (by exact Bool.noConfusion)]
          by_cases hv : idx ps f.opn < 0
          · rw [noClass_n hv, if_pos rfl]
            refine run ?_
            exact fin rfl
          · obtain ⟨v, hv', hvl⟩ := idx_some hv
            obtain ⟨p, hpv', -, hpm⟩ := drop_at hvl
            rw [noClass_s hv' hpv']
            rw [hv'] at hv ⊢
            refine runW hpv' ?_
            refine call (den_Has p f.cls (hp.2 p hpm).1) ?_
            cases has p f.cls
            · refine run ?_
              exact fin rfl
            · refine run ?_
              refine call (den_notes L f hff) ?_
              refine run ?_
              exact fin rfl
end Go.Arc
