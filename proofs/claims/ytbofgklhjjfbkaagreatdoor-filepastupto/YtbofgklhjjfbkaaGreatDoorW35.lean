/-
  Contracts of functions of the program, each by a walk through its code, for all arguments within the bounds that the statements name.
-/
import Derived.Test.YtbofgklhjjfbkaaGreatDoorW34
namespace Go.Arc
open Go.Ab Go.RowKit Go.Proofs
variable {T : Lay}

theorem dayB_eq (d f : Int) : decide (f ≤ d ∧ d ≤ 1048575) = dayB d f := rfl
set_option maxRecDepth 100000 in
set_option maxHeartbeats 2000000 in
theorem den_faultFRef (os : List Ofc) (ps : List Plan) (l : List Fil) (i : Nat) (ho : FitsO os) (hp : Fits ps) (hl : FitsF l) (hi : i < l.length) :
    Den Tryz.prog T 61 [ofcs os, plans ps, fils l, vi i] (vi (faultF os ps l i)) := by
  obtain ⟨hl0, hf⟩ := hl
  obtain ⟨f, hfi, -, hm⟩ := drop_at hi
  have hff := hf f hm
  have hp0 := hp.1
  have ho0 := ho.1
  refine den_of_body follows (fun args w => Tryz.call61 args w) Tryz.func61 rfl 97 rfl ?_
  refine runW hfi ?_
  refine call (den_withinF f.id 1 1073741824) ?_
  by_cases b1 : f.id < 1
  · rw [faultF_2 hfi ((badF_iff f).2 (.inl b1)), show decide ((1 : Int) ≤ f.id ∧ f.id ≤ 1073741824) = false by simp; omega]
    refine run ?_
    exact fin rfl
  by_cases b2 : 1073741824 < f.id
  · rw [faultF_2 hfi ((badF_iff f).2 (.inr (.inl b2))), show decide ((1 : Int) ≤ f.id ∧ f.id ≤ 1073741824) = false by simp; omega]
    refine run ?_
    exact fin rfl
  rw [show decide ((1 : Int) ≤ f.id ∧ f.id ≤ 1073741824) = true by simp; omega]
  refine run ?_
  refine call (den_withinF f.opn 0 1048575) ?_
  rw [dayB_eq]
  cases b3 : dayB f.opn 0
  · rw [faultF_2 hfi ((badF_iff f).2 (.inr (.inr (.inl b3))))]
    refine run ?_
    exact fin rfl
  refine run ?_
  refine call (den_withinF f.cld f.opn 1048575) ?_
  rw [dayB_eq]
  have next : ∀ {Q : Prop}, ((dayB f.cld f.opn = false ∧ f.cld ≠ 1048576) → Q) → ((dayB f.cld f.opn = true) → Q) → (dayB f.cld f.opn = false → f.cld = 1048576 → Q) → Q := fun {Q} a b c => by
    cases e : dayB f.cld f.opn
    · by_cases h : f.cld = 1048576
      · exact c e h
      · exact a ⟨e, h⟩
    · exact b e
  have tail : ∀ (h4 : ¬ (dayB f.cld f.opn = false ∧ f.cld ≠ 1048576)) (h5 : ¬ (f.pts < 0 ∨ 100 < f.pts)),
      faultF os ps l i = if prevF l i f = true then 5 else if name f.title = false then 4 else if thereO os f.ofc f.opn = false then 7 else if noClass ps f = true then 24 else notesErr f := fun h4 h5 =>
    faultF_r hfi fun h => by
      rcases (badF_iff f).1 h with h | h | h | h | h | h
      · exact b1 h
      · exact b2 h
      · rw [b3] at h; cases h
      · exact h4 h
      · exact h5 (.inl h)
      · exact h5 (.inr h)
  have two : f.pts < 0 ∨ 100 < f.pts → faultF os ps l i = 2 := fun h => faultF_2 hfi ((badF_iff f).2 (by rcases h with h | h <;> simp [h]))
  refine next (fun h4 => ?_) (fun h4 => ?_) (fun h4 h4' => ?_)
  · rw [faultF_2 hfi ((badF_iff f).2 (.inr (.inr (.inr (.inl h4))))), h4.1]
    have := h4.2
    refine run ?_
    exact fin rfl
  all_goals
    rw [h4]
    refine run ?_
    refine call (den_withinF f.pts 0 100) ?_
    by_cases b5 : f.pts < 0 ∨ 100 < f.pts
    · rw [two b5, show decide ((0 : Int) ≤ f.pts ∧ f.pts ≤ 100) = false by simp; omega]
      refine run ?_
      exact fin rfl
    rw [tail (by simp [*]) b5, show decide ((0 : Int) ≤ f.pts ∧ f.pts ≤ 100) = true by simp; omega]
    have hprev : (prevF l i f = true ∧ ∃ q, i ≠ 0 ∧ l[i - 1]? = some q ∧ f.id ≤ q.id) ∨ (prevF l i f = false ∧ (i = 0 ∨ ∃ q, i ≠ 0 ∧ l[i - 1]? = some q ∧ ¬ f.id ≤ q.id)) := by
      by_cases h0 : i = 0
      · right; rw [h0]; exact ⟨prevF_0 l f, .inl rfl⟩
      · obtain ⟨q, hq, -, -⟩ := drop_at (l := l) (k := i - 1) (by omega)
        by_cases hle : f.id ≤ q.id
        · left; exact ⟨by rw [prevF_s h0 hq]; simp [hle], q, h0, hq, hle⟩
        · right; exact ⟨by rw [prevF_s h0 hq]; simp [hle], .inr ⟨q, h0, hq, hle⟩⟩
    rcases hprev with ⟨hpv, q, h0, hq, hle⟩ | ⟨hpv, h0 | ⟨q, h0, hq, hle⟩⟩
    · rw [if_pos hpv]
      refine runW hq ?_
      exact fin rfl
    all_goals
      rw [if_neg (by rw [hpv]; exact Bool.noConfusion)]
      first
        | (subst h0; refine run ?_)
        | refine runW hq ?_
      refine call (den_NameRef f.title hff.2.1) ?_
      cases hn : name f.title
      · rw [if_pos rfl]
        refine run ?_
        exact fin rfl
      · rw [if_neg (by exact Bool.noConfusion)]
        refine run ?_
        refine call (den_FindORef os f.ofc ho0) ?_
        rcases findO_look os f.ofc with ⟨h1, h2⟩ | ⟨k, o, h1, h2, h3⟩
        · rw [thereO_n h2, if_pos rfl]
          refine run ?_
          exact fin rfl
        · rw [h1, thereO_s h3]
          refine runW h2 ?_
          refine call (den_In04 o.frm o.til f.opn) ?_
          cases hin : inS o.frm o.til f.opn
          · rw [if_pos rfl]
            refine run ?_
            exact fin rfl
          · rw [if_neg (by exact Bool.noConfusion)]
            refine run ?_
            refine call (den_IndexRef ps f.opn hp0) ?_
            by_cases hv : idx ps f.opn < 0
            · rw [noClass_n hv, if_pos rfl]
              refine run ?_
              exact fin rfl
            · obtain ⟨v, hv', hvl⟩ := idx_some hv
              obtain ⟨p, hpv', -, hpm⟩ := drop_at hvl
              rw [noClass_s hv' hpv']
              rw [hv'] at hv ⊢
              refine runW hpv' ?_
              refine call (den_hasRef p f.cls (hp.2 p hpm).1) ?_
              cases has p f.cls
              · refine run ?_
                exact fin rfl
              · refine run ?_
                refine call (den_notesRef f hff) ?_
                refine run ?_
                exact fin rfl

theorem checkF_1 {os : List Ofc} {ps : List Plan} {l : List Fil} (h : goodO os = false ∨ goodL ps = false) : checkF os ps l = (-1, 1) := by unfold checkF; rw [if_pos h]
theorem checkF_c {os : List Ofc} {ps : List Plan} {l : List Fil} (h : goodO os = true) (h' : goodL ps = true) : checkF os ps l = chk 256 l.length (faultF os ps l) := by unfold checkF; rw [if_neg (by simp [h, h'])]
theorem den_CheckF (L : LibC T) (os : List Ofc) (ps : List Plan) (l : List Fil) (ho : FitsO os) (hp : Fits ps) (hl : FitsF l) :
    Den Tryz.prog T 29 [ofcs os, plans ps, fils l] (chkV (checkF os ps l)) := by
  have hl0 := hl.1
  refine den_of_body follows (fun args w => Tryz.call29 args w) Tryz.func29 rfl 48 rfl ?_
  refine run ?_
  refine call (den_CheckO L os ho) ?_
  refine run ?_
  refine call (den_CheckL L ps hp) ?_
  by_cases g1 : (checkO os).2 = 0
  · have go : goodO os = true := by simp [goodO, g1]
    by_cases g2 : (check ps).2 = 0
    · have gp : goodL ps = true := (goodL_iff ps).2 g2
      rw [checkF_c go gp]
      by_cases h16 : 256 < l.length
      · refine run ?_
        refine fin ?_
        simp only [chkV, chk_many h16]
      refine run ?_
      refine loop ⟨[0, 1, 2, 34, 35], [], [], []⟩ (fun k : Nat => k ≤ l.length ∧ ∀ i, i < k → faultF os ps l i = 0) (fun k => l.length - k)
        (fun k => ⟨48, [(0, .v (ofcs os)), (1, .v (plans ps)), (2, .v (fils l)), (34, .v (vi l.length)), (35, .v (vi k))], [], []⟩) 0 ⟨by omega, by omega⟩ ?_
      rintro k ⟨hk, hall⟩
      by_cases hlt : k < l.length
      · refine run ?_
        refine call (den_checkF L os ps l k ho hp gp hl hlt) ?_
        by_cases hz : faultF os ps l k = 0
        · refine run ?_
          refine round (k + 1) ⟨by omega, fun i hi => ?_⟩ (by omega)
          by_cases e : i = k
          · rw [e]; exact hz
          · exact hall i (by omega)
        · refine run ?_
          refine fin ?_
          simp only [chkV, chk_bad h16 hlt hall hz]
      · refine run ?_
        refine fin ?_
        simp only [chkV, chk_ok h16 fun i hi => hall i (by omega)]
    · have gp : goodL ps = false := by simp [goodL, g2]
      rw [checkF_1 (.inr gp)]
      refine run ?_
      exact fin rfl
  · have go : goodO os = false := by simp [goodO, g1]
    rw [checkF_1 (.inl go)]
    refine run ?_
    exact fin rfl
theorem den_CheckFRef (os : List Ofc) (ps : List Plan) (l : List Fil) (ho : FitsO os) (hp : Fits ps) (hl : FitsF l) :
    Den Tryz.prog T 30 [ofcs os, plans ps, fils l] (chkV (checkF os ps l)) := by
  have hl0 := hl.1
  refine den_of_body follows (fun args w => Tryz.call30 args w) Tryz.func30 rfl 36 rfl ?_
  refine run ?_
  refine call (den_GoodORef os ho) ?_
  cases go : goodO os
  · rw [checkF_1 (.inl go)]
    refine run ?_
    exact fin rfl
  refine run ?_
  refine call (den_GoodL ps hp) ?_
  cases gp : goodL ps
  · rw [checkF_1 (.inr gp)]
    refine run ?_
    exact fin rfl
  rw [checkF_c go gp]
  by_cases h16 : 256 < l.length
  · refine run ?_
    refine fin ?_
    simp only [chkV, chk_many h16]
  refine run ?_
  refine loop ⟨[0, 1, 2, 8], [], [], []⟩ (fun k : Nat => k ≤ l.length ∧ ∀ i, i < k → faultF os ps l i = 0) (fun k => l.length - k)
    (fun k => ⟨36, [(0, .v (ofcs os)), (1, .v (plans ps)), (2, .v (fils l)), (8, .v (vi k))], [], []⟩) 0 ⟨by omega, by omega⟩ ?_
  rintro k ⟨hk, hall⟩
  by_cases hlt : k < l.length
  · refine run ?_
    refine call (den_faultFRef os ps l k ho hp hl hlt) ?_
    by_cases hz : faultF os ps l k = 0
    · refine run ?_
      refine round (k + 1) ⟨by omega, fun i hi => ?_⟩ (by omega)
      by_cases e : i = k
      · rw [e]; exact hz
      · exact hall i (by omega)
    · refine run ?_
      refine fin ?_
      simp only [chkV, chk_bad h16 hlt hall hz]
  · refine run ?_
    refine fin ?_
    simp only [chkV, chk_ok h16 fun i hi => hall i (by omega)]

theorem den_FileChecks (L : LibC T) (os : List Ofc) (ps : List Plan) (l : List Fil) (n : Int) (ho : FitsO os) (hp : Fits ps) (hl : FitsF l) :
    Den Tryz.prog T 8 [ofcs os, plans ps, fils l, vi n] (vb true) := by
  refine den_of_body follows (fun args w => Tryz.call8 args w) Tryz.func8 rfl 59 rfl ?_
  refine run ?_
  refine call (den_awake8 L) ?_
  refine run ?_
  refine call (den_FewO os ho) ?_
  cases fewO os
  · refine run ?_
    exact fin rfl
  refine run ?_
  refine call (den_Few ps hp) ?_
  cases few ps
  · refine run ?_
    exact fin rfl
  refine run ?_
  refine call (den_FewF l hl) ?_
  cases fewF l
  · refine run ?_
    exact fin rfl
  refine run ?_
  refine call (den_CheckF L os ps l ho hp hl) ?_
  refine run ?_
  refine call (den_CheckFRef os ps l ho hp hl) ?_
  refine run ?_
  refine call (den_FindF l n hl.1) ?_
  refine run ?_
  refine call (den_FindFRef l n hl.1) ?_
  refine run ?_
  exact fin rfl
end Go.Arc
