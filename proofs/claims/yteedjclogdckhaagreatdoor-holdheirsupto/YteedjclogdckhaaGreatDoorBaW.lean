/-
  Walks of functions of chapter 10, and of those that it reaches.
-/
import Derived.Test.YteedjclogdckhaaGreatDoorPl10
import Derived.Test.YteedjclogdckhaaGreatDoorW32
import Derived.Test.YteedjclogdckhaaGreatDoorW20
import Derived.Test.YteedjclogdckhaaGreatDoorW35
import Derived.Test.YteedjclogdckhaaGreatDoorBaC
import Derived.Test.YteedjclogdckhaaGreatDoorSp14
import Derived.Test.YteedjclogdckhaaGreatDoorSp15
import Derived.Test.YteedjclogdckhaaGreatDoorShelf
import Derived.Shelf.Sort.Plain

namespace Go.Arc
open Go.Ab Go.RowKit Go.Proofs
variable {T : Lay}

/-! chains of offices -/
theorem inS_two (f u d : Int) : inS f u d = (decide (f ≤ d) && decide (d < u)) := by simp [inS]
theorem den_inO (o : Ofc) (d : Int) : Den Tryz.prog T 67 [.agg o.cs, vi d] (vb (inS o.frm o.til d)) := by
  refine den_of_body follows (fun args w => Tryz.call67 args w) Tryz.func67 rfl 17 rfl ?_
  rw [inS_two]
  by_cases h1 : o.frm ≤ d
  · refine run ?_
    exact fin (vb_eq (by first | rfl | simp [h1]))
  · refine run ?_
    exact fin (vb_eq (by first | rfl | simp [h1]))
abbrev knownV (l : List Ofc) (n : Int) : V := if goodO l = true ∧ (lookO l n).isSome = true then .tup [mapO (idxO l), vb true] else .tup [.val (.map none), vb false]
theorem den_known (L : LibC T) (l : List Ofc) (n : Int) (hl : FitsO l) : Den Tryz.prog T 68 [ofcs l, vi n] (knownV l n) := by
  have hl0 := hl.1
  refine den_of_body follows (fun args w => Tryz.call68 args w) Tryz.func68 rfl 23 rfl ?_
  refine run ?_
  refine call (den_CheckO L l hl) ?_
  by_cases g1 : (checkO l).2 = 0
  · have go : goodO l = true := by simp [goodO, g1]
    refine run ?_
    refine call (den_FindO l n hl0) ?_
    rcases findO_look l n with ⟨h1, h2⟩ | ⟨i, q, h1, h2, h3⟩
    · rw [knownV, if_neg (by simp [h2])]
      refine run ?_
      exact fin rfl
    · rw [knownV, if_pos ⟨go, by simp [h3]⟩, h1]
      refine run ?_
      refine call (den_index l hl0) ?_
      refine run ?_
      exact fin rfl
  · have go : goodO l = false := by simp [goodO, g1]
    rw [knownV, if_neg (by simp [go])]
    refine run ?_
    exact fin rfl

theorem den_Chain (L : LibC T) (l : List Ofc) (n d : Int) (hl : FitsO l) : DenO Tryz.prog T 41 [ofcs l, vi n, vi d] 3 (ints (chain l n d)) := by
  have hl0 := hl.1
  refine denO_of_body follows (fun args w => Tryz.call41 args w) Tryz.func41 rfl 44 rfl ?_
  refine run ?_
  refine call (den_known L l n hl) ?_
  by_cases hk : goodO l = true ∧ (lookO l n).isSome = true
  · obtain ⟨hg, hs⟩ := hk
    rw [knownV, if_pos ⟨hg, hs⟩]
    obtain ⟨o0, ho0⟩ := Option.isSome_iff_exists.1 hs
    rw [chain_some hg ho0]
    have hz := zip_fst_snd (entsO (idxO l))
    have hf0 := find_entsO n (idxO l)
    rw [look_idx, ho0] at hf0
    refine runW (And.intro hz (And.intro hf0 (And.intro okVal_O ofVal_O))) ?_
    have hg0 := goodO_look hg ho0
    refine loop ⟨[2, 7, 9, 10], [10], [9], [(9, 3, 1)]⟩ (fun y : Nat × List Int × Ofc => (∃ k, lookO l k = some y.2.2) ∧ y.2.1.length + y.1 = 1048577 ∧ 1048577 ≤ (y.1 : Int) + y.2.2.frm ∧ y.2.1 ++ chainF l d y.1 y.2.2 = chainF l d 1048577 o0) (fun y => y.1)
      (fun y => ⟨44, [(2, .v (vi d)), (7, .v (mapO (idxO l))), (9, .v (ints y.2.1)), (10, .p 10 0)], [(10, .var y.2.2.cs)], [(3, [9])]⟩) (1048577, [], o0) ⟨⟨n, ho0⟩, by simp, by simp only; omega, by simp⟩ ?_
    rintro ⟨m, out, o⟩ ⟨⟨k, hko⟩, hlen, hm, hch⟩
    simp only at hko hlen hm hch
    obtain ⟨q1, q2, q3, q4⟩ := goodO_look hg hko
    have hap : out.map Cint ++ [[V.val (.int .i64 o.id)]] = (out ++ [o.id]).map Cint := by simp
    refine runW hap ?_
    refine call (den_inO o d) ?_
    cases hin : inS o.frm o.til d
    · obtain ⟨nx, hnx⟩ : ∃ nx, o.nxt = nx := ⟨_, rfl⟩
      cases nx with
      | nil =>
        rw [chainF_end m (nextO_nil hnx)] at hch
        refine runW hnx ?_
        refine finO (.of ?_)
        rw [← hch]
      | cons x r =>
        obtain ⟨q, hq, hqf⟩ := q4 x (by rw [hnx]; simp)
        have hno : nextO l d o = some q := by rw [nextO_cons hin hnx]; exact hq
        obtain ⟨m', rfl⟩ : ∃ m', m = m' + 1 := ⟨m - 1, by omega⟩
        rw [chainF_next m' hno] at hch
        have hf := find_entsO x (idxO l)
        rw [look_idx, hq] at hf
        refine runW (And.intro hnx (And.intro hz (And.intro hf (And.intro okVal_O ofVal_O)))) ?_
        refine round (m', out ++ [o.id], q) ⟨⟨x, hq⟩, by simp only [List.length_append, List.length_cons, List.length_nil]; omega, by simp only; omega, ?_⟩ (by simp only; omega)
        simp only; rw [← hch]; simp
    · rw [chainF_end m (nextO_in hin)] at hch
      refine run ?_
      refine finO (.of ?_)
      rw [← hch]
  · rw [knownV, if_neg hk]
    have hc : chain l n d = [] := by
      cases hg : goodO l
      · exact chain_bad hg
      · cases hs : lookO l n with
        | none => exact chain_none hs
        | some q => exact absurd ⟨hg, by simp [hs]⟩ hk
    rw [hc]
    refine run ?_
    exact finO (.nil 1)

theorem den_ChainRef (l : List Ofc) (n d : Int) (hl : FitsO l) : DenO Tryz.prog T 46 [ofcs l, vi n, vi d] 3 (ints (chain l n d)) := by
  have hl0 := hl.1
  refine denO_of_body follows (fun args w => Tryz.call46 args w) Tryz.func46 rfl 55 rfl ?_
  refine run ?_
  refine call (den_FindORef l n hl0) ?_
  refine run ?_
  refine call (den_GoodORef l hl) ?_
  cases hg : goodO l
  · rw [chain_bad hg]
    refine run ?_
    exact finO (.refl _)
  rcases findO_look l n with ⟨h1, h2⟩ | ⟨i0, o0, h1, h2, ho0⟩
  · rw [chain_none h2]
    refine run ?_
    exact finO (.refl _)
  rw [chain_some hg ho0, h1]
  have hg0 := goodO_look hg ho0
  refine run ?_
  refine loop ⟨[0, 2, 7, 8], [], [7], []⟩ (fun y : Nat × List Int × Nat × Ofc => (∃ k, lookO l k = some y.2.2.2) ∧ l[y.2.2.1]? = some y.2.2.2 ∧ y.2.1.length + y.1 = 1048577 ∧ 1048577 ≤ (y.1 : Int) + y.2.2.2.frm ∧ y.2.1 ++ chainF l d y.1 y.2.2.2 = chainF l d 1048577 o0) (fun y => y.1)
    (fun y => ⟨55, [(0, .v (ofcs l)), (2, .v (vi d)), (7, .v (ints y.2.1)), (8, .v (vi y.2.2.1))], [], [(3, [7])]⟩) (1048577, [], i0, o0) ⟨⟨n, ho0⟩, h2, by simp, by simp only; omega, by simp⟩ ?_
  rintro ⟨m, out, i, o⟩ ⟨⟨k, hko⟩, hio, hlen, hm, hch⟩
  simp only at hko hio hlen hm hch
  obtain ⟨q1, q2, q3, q4⟩ := goodO_look hg hko
  have hap : out.map Cint ++ [[V.val (.int .i64 o.id)]] = (out ++ [o.id]).map Cint := by simp
  refine runW (And.intro hio hap) ?_
  refine call (den_In04 o.frm o.til d) ?_
  cases hin : inS o.frm o.til d
  · obtain ⟨nx, hnx⟩ : ∃ nx, o.nxt = nx := ⟨_, rfl⟩
    cases nx with
    | nil =>
      rw [chainF_end m (nextO_nil hnx)] at hch
      refine runW (And.intro hio hnx) ?_
      refine finO (.of ?_)
      rw [← hch]
    | cons x r =>
      obtain ⟨q, hq, hqf⟩ := q4 x (by rw [hnx]; simp)
      have hno : nextO l d o = some q := by rw [nextO_cons hin hnx]; exact hq
      obtain ⟨m', rfl⟩ : ∃ m', m = m' + 1 := ⟨m - 1, by omega⟩
      rw [chainF_next m' hno] at hch
      rcases findO_look l x with ⟨g1, g2⟩ | ⟨j, q', g1, g2, g3⟩
      · rw [g2] at hq; cases hq
      · rw [g3] at hq; cases hq
        refine runW (And.intro hio hnx) ?_
        refine call (den_FindORef l x hl0) ?_
        rw [g1]
        refine run ?_
        refine round (m', out ++ [o.id], j, q) ⟨⟨x, g3⟩, g2, by simp only [List.length_append, List.length_cons, List.length_nil]; omega, by simp only; omega, ?_⟩ (by simp only; omega)
        simp only; rw [← hch]; simp
  · rw [chainF_end m (nextO_in hin)] at hch
    refine run ?_
    refine finO (.of ?_)
    rw [← hch]
end Go.Arc


namespace Go.Arc
open Go.Ab Go.RowKit Go.Proofs
variable {T : Lay}

/-! holds: checks -/
theorem den_isIDH (n : Int) : Den Tryz.prog T 89 [vi n] (vb (idB n)) := by
  refine den_of_body follows (fun args w => Tryz.call89 args w) Tryz.func89 rfl 9 rfl ?_
  unfold idB
  by_cases h1 : 1 ≤ n <;> by_cases h2 : n ≤ 1073741824 <;> (refine run ?_; refine fin (vb_eq ?_); simp; try omega)
theorem den_validH (f u : Int) : Den Tryz.prog T 90 [span f u] (vb (goodS f u)) := by
  refine den_of_body follows (fun args w => Tryz.call90 args w) Tryz.func90 rfl 18 rfl ?_
  unfold goodS
  by_cases h1 : 0 ≤ f <;> by_cases h2 : f < u <;> by_cases h3 : u ≤ 1048576 <;> (refine run ?_; refine fin (vb_eq ?_); simp; try omega)
theorem ofErr_n {h : Hld} (hk : h.kind ≠ 3) : ofErr h = if idB h.obj = false ∨ h.cls ≠ [] then 1 else 0 := by unfold ofErr; rw [if_pos hk]
theorem ofErr_1 {h : Hld} (hk : h.kind = 3) (ho : h.obj ≠ 0) : ofErr h = 1 := by unfold ofErr; rw [if_neg (by simp [hk]), if_pos ho]
theorem ofErr_c {h : Hld} (hk : h.kind = 3) (ho : h.obj = 0) : ofErr h = if (parse h.cls).isNone = true then 3 else 0 := by unfold ofErr; rw [if_neg (by simp [hk]), if_neg (by simp [ho])]
theorem nil_beq {s : Str} : (s == []) = decide (s = []) := by cases s <;> rfl
theorem den_of (L : LibC T) (h : Hld) (hf : h.Fit) : Den Tryz.prog T 88 [.agg h.cs] (vi (ofErr h)) := by
  refine den_of_body follows (fun args w => Tryz.call88 args w) Tryz.func88 rfl 27 rfl ?_
  by_cases hk : h.kind = 3
  · by_cases ho : h.obj = 0
    · rw [ofErr_c hk ho]
      refine run ?_
      refine call (den_Parse L h.cls hf.1) ?_
      cases hp : parse h.cls with
      | none => rw [parseV_n hp]; refine run ?_; exact fin rfl
      | some l => rw [parseV_s hp]; refine run ?_; exact fin rfl
    · rw [ofErr_1 hk ho]
      refine run ?_
      exact fin rfl
  · rw [ofErr_n hk]
    refine run ?_
    refine call (den_isIDH h.obj) ?_
    cases hi : idB h.obj
    · rw [if_pos (.inl rfl)]
      refine run ?_
      exact fin rfl
    · cases hc : h.cls == []
      · have hne : h.cls ≠ [] := fun e => by rw [e] at hc; cases hc
        rw [if_pos (.inr hne)]
        refine runW hc ?_
        exact fin rfl
      · have he : h.cls = [] := by rw [nil_beq] at hc; simpa using hc
        rw [if_neg (by simp [he])]
        refine runW hc ?_
        exact fin rfl

theorem faultH_2 {l : List Hld} {i : Nat} {h : Hld} (hi : l[i]? = some h) (hb : badH h) : faultH l i = 2 := by simp only [faultH, hi]; rw [if_pos hb]
theorem faultH_r {l : List Hld} {i : Nat} {h : Hld} (hi : l[i]? = some h) (hb : ¬ badH h) : faultH l i = if prevH l i h = true then 5 else if ofErr h ≠ 0 then ofErr h else if name h.why = false then 4 else 0 := by
  simp only [faultH, hi]; rw [if_neg hb]
theorem badH_iff (h : Hld) : badH h ↔ (idB h.id = false ∨ h.kind < 1 ∨ 3 < h.kind ∨ goodS h.frm h.til = false) := Iff.rfl
theorem prevH_cases {l : List Hld} {i : Nat} (hi : i < l.length) (h : Hld) : (prevH l i h = true ∧ ∃ q, i ≠ 0 ∧ l[i - 1]? = some q ∧ h.id ≤ q.id) ∨ (prevH l i h = false ∧ (i = 0 ∨ ∃ q, i ≠ 0 ∧ l[i - 1]? = some q ∧ ¬ h.id ≤ q.id)) := by
  by_cases h0 : i = 0
  · right; rw [h0]; exact ⟨prevH_0 l h, .inl rfl⟩
  · obtain ⟨q, hq, -, -⟩ := drop_at (l := l) (k := i - 1) (by omega)
    by_cases hle : h.id ≤ q.id
    · left; exact ⟨by rw [prevH_s h0 hq]; simp [hle], q, h0, hq, hle⟩
    · right; exact ⟨by rw [prevH_s h0 hq]; simp [hle], .inr ⟨q, h0, hq, hle⟩⟩

set_option maxRecDepth 100000 in
theorem den_checkH (L : LibC T) (l : List Hld) (i : Nat) (hl : FitsH l) (hi : i < l.length) : Den Tryz.prog T 52 [hlds l, vi i] (vi (faultH l i)) := by
  obtain ⟨hl0, hf⟩ := hl
  obtain ⟨h, hh, -, hm⟩ := drop_at hi
  have hff := hf h hm
  refine den_of_body follows (fun args w => Tryz.call52 args w) Tryz.func52 rfl 57 rfl ?_
  refine runW hh ?_
  refine call (den_of L h hff) ?_
  refine run ?_
  refine call (den_isIDH h.id) ?_
  cases b1 : idB h.id
  · rw [faultH_2 hh ((badH_iff h).2 (.inl b1))]
    refine run ?_
    exact fin rfl
  by_cases b2 : h.kind < 1
  · rw [faultH_2 hh ((badH_iff h).2 (.inr (.inl b2)))]
    refine run ?_
    exact fin rfl
  by_cases b3 : 3 < h.kind
  · rw [faultH_2 hh ((badH_iff h).2 (.inr (.inr (.inl b3))))]
    refine run ?_
    exact fin rfl
  refine run ?_
  refine call (den_validH h.frm h.til) ?_
  cases b4 : goodS h.frm h.til
  · rw [faultH_2 hh ((badH_iff h).2 (.inr (.inr (.inr b4))))]
    refine run ?_
    exact fin rfl
  rw [faultH_r hh fun hb => by
    rcases (badH_iff h).1 hb with h | h | h | h
    · rw [b1] at h; cases h
    · exact b2 h
    · exact b3 h
    · rw [b4] at h; cases h]
  rcases prevH_cases hi h with ⟨hpv, q, h0, hq, hle⟩ | ⟨hpv, h0 | ⟨q, h0, hq, hle⟩⟩
  · rw [if_pos hpv]
    refine runW hq ?_
    exact fin rfl
  all_goals
    rw [if_neg (by rw [hpv]; exact Bool.noConfusion)]
    by_cases he : ofErr h = 0
    · rw [if_neg (by simp [he]), he]
      first
        | (subst h0; refine run ?_)
        | refine runW hq ?_
      refine call (den_Name L h.why hff.2) ?_
      cases name h.why
      · refine run ?_
        exact fin rfl
      · refine run ?_
        exact fin rfl
    · rw [if_pos he]
      first
        | (subst h0; refine run ?_)
        | refine runW hq ?_
      exact fin rfl
theorem den_CheckH (L : LibC T) (l : List Hld) (hl : FitsH l) : Den Tryz.prog T 15 [hlds l] (chkV (checkH l)) := by
  have hl0 := hl.1
  refine den_of_body follows (fun args w => Tryz.call15 args w) Tryz.func15 rfl 22 rfl ?_
  by_cases h16 : 64 < l.length
  · refine run ?_
    refine fin ?_
    simp only [chkV, checkH, chk_many h16]
  refine run ?_
  refine loop ⟨[0, 10, 11], [], [], []⟩ (fun k : Nat => k ≤ l.length ∧ ∀ i, i < k → faultH l i = 0) (fun k => l.length - k)
    (fun k => ⟨22, [(0, .v (hlds l)), (10, .v (vi l.length)), (11, .v (vi k))], [], []⟩) 0 ⟨by omega, by omega⟩ ?_
  rintro k ⟨hk, hall⟩
  by_cases hlt : k < l.length
  · refine run ?_
    refine call (den_checkH L l k hl hlt) ?_
    by_cases hz : faultH l k = 0
    · refine run ?_
      refine round (k + 1) ⟨by omega, fun i hi => ?_⟩ (by omega)
      by_cases e : i = k
      · rw [e]; exact hz
      · exact hall i (by omega)
    · refine run ?_
      refine fin ?_
      simp only [chkV, checkH, chk_bad h16 hlt hall hz]
  · refine run ?_
    refine fin ?_
    simp only [chkV, checkH, chk_ok h16 fun i hi => hall i (by omega)]

/-! the reference's -/
theorem den_numbersH (h : Hld) : Den Tryz.prog T 54 [.agg h.cs] (vi (if badH h then 2 else 0)) := by
  refine den_of_body follows (fun args w => Tryz.call54 args w) Tryz.func54 rfl 27 rfl ?_
  by_cases a1 : h.id < 1
  · rw [if_pos ((badH_iff h).2 (.inl (by simp [idB]; omega)))]
    refine run ?_
    exact fin rfl
  by_cases a2 : 1073741824 < h.id
  · rw [if_pos ((badH_iff h).2 (.inl (by simp [idB]; omega)))]
    refine run ?_
    exact fin rfl
  by_cases b2 : h.kind < 1
  · rw [if_pos ((badH_iff h).2 (.inr (.inl b2)))]
    refine run ?_
    exact fin rfl
  by_cases b3 : 3 < h.kind
  · rw [if_pos ((badH_iff h).2 (.inr (.inr (.inl b3))))]
    refine run ?_
    exact fin rfl
  refine run ?_
  refine call (den_Good04 h.frm h.til) ?_
  cases b4 : goodS h.frm h.til
  · rw [if_pos ((badH_iff h).2 (.inr (.inr (.inr b4))))]
    refine run ?_
    exact fin rfl
  · rw [if_neg fun hb => by
      rcases (badH_iff h).1 hb with h | h | h | h
      · simp [idB] at h; omega
      · exact b2 h
      · exact b3 h
      · rw [b4] at h; cases h]
    refine run ?_
    exact fin rfl
theorem sc_e {h : Hld} {e : Int} (he : ofErr h = e) (hne : e ≠ 0) : (if ofErr h ≠ 0 then ofErr h else if name h.why = false then 4 else 0) = e := by rw [if_pos (by rw [he]; exact hne), he]
theorem sc_z {h : Hld} (he : ofErr h = 0) : (if ofErr h ≠ 0 then ofErr h else if name h.why = false then 4 else 0) = if name h.why = false then (4 : Int) else 0 := by rw [if_neg (by simp [he])]
set_option maxRecDepth 100000 in
theorem den_scope (h : Hld) (hf : h.Fit) : Den Tryz.prog T 55 [.agg h.cs] (vi (if ofErr h ≠ 0 then ofErr h else if name h.why = false then 4 else 0)) := by
  refine den_of_body follows (fun args w => Tryz.call55 args w) Tryz.func55 rfl 44 rfl ?_
  by_cases hk : h.kind = 3
  · by_cases ho : h.obj = 0
    · have hc := ofErr_c hk ho
      refine run ?_
      refine call (den_GoodRef h.cls hf.1) ?_
      cases hp : parse h.cls with
      | none =>
        rw [hp] at hc
        rw [sc_e (e := 3) (by rw [hc]; rfl) (by decide)]
        refine run ?_
        exact fin rfl
      | some l =>
        rw [hp] at hc
        rw [sc_z (by rw [hc]; rfl)]
        refine run ?_
        refine call (den_NameRef h.why hf.2) ?_
        cases name h.why
        · refine run ?_
          exact fin rfl
        · refine run ?_
          exact fin rfl
    · rw [sc_e (ofErr_1 hk ho) (by decide)]
      refine run ?_
      exact fin rfl
  · have hn := ofErr_n hk
    by_cases a1 : h.obj < 1
    · rw [if_pos (.inl (show idB h.obj = false by simp [idB]; omega))] at hn
      rw [sc_e hn (by decide)]
      refine run ?_
      exact fin rfl
    by_cases a2 : 1073741824 < h.obj
    · rw [if_pos (.inl (show idB h.obj = false by simp [idB]; omega))] at hn
      rw [sc_e hn (by decide)]
      refine run ?_
      exact fin rfl
    have hi : idB h.obj = true := by simp [idB]; omega
    cases hc : h.cls == []
    · have hne : h.cls ≠ [] := fun e => by rw [e] at hc; cases hc
      rw [if_pos (.inr hne)] at hn
      rw [sc_e hn (by decide)]
      refine runW hc ?_
      exact fin rfl
    · have he : h.cls = [] := by rw [nil_beq] at hc; simpa using hc
      rw [if_neg (show ¬ (idB h.obj = false ∨ h.cls ≠ []) by simp [he, hi])] at hn
      rw [sc_z hn]
      refine runW hc ?_
      refine call (den_NameRef h.why hf.2) ?_
      cases name h.why
      · refine run ?_
        exact fin rfl
      · refine run ?_
        exact fin rfl
set_option maxRecDepth 100000 in
set_option maxHeartbeats 1000000 in
theorem den_CheckHRef (l : List Hld) (hl : FitsH l) : Den Tryz.prog T 26 [hlds l] (chkV (checkH l)) := by
  have hl0 := hl.1
  refine den_of_body follows (fun args w => Tryz.call26 args w) Tryz.func26 rfl 51 rfl ?_
  by_cases h16 : 64 < l.length
  · refine run ?_
    refine fin ?_
    simp only [chkV, checkH, chk_many h16]
  refine run ?_
  refine loop ⟨[0, 4], [], [], []⟩ (fun k : Nat => k ≤ l.length ∧ ∀ i, i < k → faultH l i = 0) (fun k => l.length - k)
    (fun k => ⟨51, [(0, .v (hlds l)), (4, .v (vi k))], [], []⟩) 0 ⟨by omega, by omega⟩ ?_
  rintro k ⟨hk, hall⟩
  by_cases hlt : k < l.length
  · obtain ⟨h, hh, -, hm⟩ := drop_at hlt
    have hff := hl.2 h hm
    have out : ∀ e : Int, faultH l k = e → e ≠ 0 → chkV (checkH l) = .tup [vi k, vi e] := fun e he hne => by
      rw [checkH, chk_bad h16 hlt hall (by rw [he]; exact hne), he]
    have nxt : faultH l k = 0 → ∀ i, i < k + 1 → faultH l i = 0 := fun hz i hi => by
      by_cases e : i = k
      · rw [e]; exact hz
      · exact hall i (by omega)
    refine runW hh ?_
    refine call (den_numbersH h) ?_
    by_cases hb : badH h
    · rw [if_pos hb, out 2 (faultH_2 hh hb) (by decide)]
      refine run ?_
      exact fin rfl
    · rw [if_neg hb]
      have hr := faultH_r hh hb
      rcases prevH_cases hlt h with ⟨hpv, q, h0, hq, hle⟩ | ⟨hpv, h0 | ⟨q, h0, hq, hle⟩⟩
      · rw [if_pos hpv] at hr
        rw [out 5 hr (by decide)]
        refine runW (And.intro hh hq) ?_
        exact fin rfl
      all_goals
        rw [if_neg (by rw [hpv]; exact Bool.noConfusion)] at hr
        first
          | refine runW (And.intro hh hq) ?_
          | refine runW hh ?_
        refine call (den_scope h hff) ?_
        rw [← hr]
        by_cases hz : faultH l k = 0
        · first
            | (refine run ?_; exact round (k + 1) ⟨by omega, nxt hz⟩ (by omega))
        · rw [out _ rfl hz]
          refine run ?_
          exact fin rfl
  · refine run ?_
    refine fin ?_
    simp only [chkV, checkH, chk_ok h16 fun i hi => hall i (by omega)]
theorem den_GoodHRef (l : List Hld) (hl : FitsH l) : Den Tryz.prog T 58 [hlds l] (vb (goodH l)) := by
  refine den_of_body follows (fun args w => Tryz.call58 args w) Tryz.func58 rfl 12 rfl ?_
  refine run ?_
  refine call (den_CheckHRef l hl) ?_
  refine run ?_
  exact fin (vb_eq rfl)
end Go.Arc


namespace Go.Arc
open Go.Ab Go.RowKit Go.Proofs
variable {T : Lay}

/-! what a hold covers -/
theorem covers_out {os : List Ofc} {ps : List Plan} {h : Hld} {f : Fil} {d : Int} (hi : inS h.frm h.til d = false) : covers os ps h f d = false := by simp [covers, hi]
theorem covers_in {os : List Ofc} {ps : List Plan} {h : Hld} {f : Fil} {d : Int} (hi : inS h.frm h.til d = true) : covers os ps h f d = kindB os ps h f d := by simp [covers, hi]
theorem kindB_1 {os : List Ofc} {ps : List Plan} {h : Hld} {f : Fil} {d : Int} (hk : h.kind = 1) : kindB os ps h f d = decide (h.obj = f.id) := by simp [kindB, hk]
theorem kindB_2 {os : List Ofc} {ps : List Plan} {h : Hld} {f : Fil} {d : Int} (hk : h.kind = 2) : kindB os ps h f d = (chain os f.ofc d).any (fun y => decide (h.obj = y)) := by simp [kindB, hk]
theorem kindB_3 {os : List Ofc} {ps : List Plan} {h : Hld} {f : Fil} {d : Int} (hk : h.kind = 3) : kindB os ps h f d = (decide ((classR ps f d).2 = 0) && within (classR ps f d).1 h.cls) := by simp [kindB, hk]
theorem kindB_0 {os : List Ofc} {ps : List Plan} {h : Hld} {f : Fil} {d : Int} (h1 : h.kind ≠ 1) (h2 : h.kind ≠ 2) (h3 : h.kind ≠ 3) : kindB os ps h f d = false := by simp [kindB, h1, h2, h3]
theorem chain_len (os : List Ofc) (n d : Int) : (chain os n d).length ≤ 1048578 := by
  unfold chain
  split
  · simp
  · split
    · simp
    · exact chainF_len os d 1048577 _
theorem classR_len {l : List Plan} (hl : Fits l) {f : Fil} (hf : f.Fit) (d : Int) : (classR l f d).1.length ≤ 1048576 := by
  unfold classR
  split
  · simp
  · split
    · simp
    · split
      · simp
      · exact walkN_len hl _ _ _ hf.1
theorem den_hasInt2 (l : List Int) (x : Int) (hl : l.length ≤ 1048578) : Den Tryz.prog T 17 [ints l, vi x] (vb (l.any fun y => decide (x = y))) := by
  have h0 : Den Tryz.prog T 53 [ints l, vi x] (vi (ix (fun y => decide (x = y)) l)) := by
    refine den_of_body follows (fun args w => Tryz.call53 args w) Tryz.func53 rfl 19 rfl ?_
    refine run ?_
    refine loop ⟨[0, 1, 7, 8], [], [], []⟩ (fun k : Nat => k ≤ l.length ∧ ∀ n ∈ l.take k, decide (x = n) = false) (fun k => l.length - k)
      (fun k => ⟨19, [(0, .v (ints l)), (1, .v (vi x)), (7, .v (vi l.length)), (8, .v (vi k))], [], []⟩) 0 ⟨by omega, by simp⟩ ?_
    rintro k ⟨hk, hall⟩
    by_cases hlt : k < l.length
    · obtain ⟨y, hy, -, -⟩ := drop_at hlt
      by_cases hxy : x = y
      · refine runW hy ?_
        exact fin (vi_eq (ix_at (p := fun n => decide (x = n)) hall hy (by simp [hxy])))
      · refine runW hy ?_
        exact round (k + 1) ⟨by omega, take_snoc (q := fun n : Int => decide (x = n) = false) hall hy (by simp [hxy])⟩ (by omega)
    · refine run ?_
      exact fin (vi_eq (ix_none (p := fun n => decide (x = n)) hall hlt))
  refine den_of_body follows (fun args w => Tryz.call17 args w) Tryz.func17 rfl 9 rfl ?_
  refine run ?_
  refine call h0 ?_
  refine run ?_
  exact fin (vb_eq (ix_ge _ l))

theorem den_Cov1 (h : Hld) (f : Fil) : Den Tryz.prog T 39 [.row h.cs, .row f.cs] (vb (decide (h.obj = f.id))) := by
  refine den_of_body follows (fun args w => Tryz.call39 args w) Tryz.func39 rfl 8 rfl ?_
  refine run ?_
  exact fin rfl
theorem den_Cov2 (L : LibC T) (os : List Ofc) (h : Hld) (f : Fil) (d : Int) (ho : FitsO os) : Den Tryz.prog T 40 [.row [ofcs os], .row f.cs, .row [vi d], .row h.cs] (vb ((chain os f.ofc d).any fun y => decide (h.obj = y))) := by
  refine den_of_body follows (fun args w => Tryz.call40 args w) Tryz.func40 rfl 13 rfl ?_
  refine run ?_
  refine call (den_Chain L os f.ofc d ho).den ?_
  refine run ?_
  refine call (den_hasInt2 _ h.obj (chain_len os f.ofc d)) ?_
  refine run ?_
  exact fin rfl
theorem den_Cov3 (L : LibC T) (ps : List Plan) (h : Hld) (f : Fil) (d : Int) (hp : Fits ps) (hf : f.Fit) (hh : h.Fit) : Den Tryz.prog T 42 [.row [plans ps], .row f.cs, .row [vi d], .row h.cs] (vb (decide ((classR ps f d).2 = 0) && within (classR ps f d).1 h.cls)) := by
  have hcl := classR_len hp hf d
  refine den_of_body follows (fun args w => Tryz.call42 args w) Tryz.func42 rfl 22 rfl ?_
  refine run ?_
  refine call (den_Class L ps f d hp hf) ?_
  by_cases hz : (classR ps f d).2 = 0
  · refine run ?_
    refine call (den_Within L _ h.cls hcl hh.1) ?_
    refine run ?_
    refine fin (vb_eq ?_)
    first | rfl | (simp [hz]; done) | trace_state
  · refine run ?_
    refine fin (vb_eq ?_)
    first | rfl | (simp [hz]; done) | trace_state

set_option maxRecDepth 100000 in
theorem den_Covers (L : LibC T) (os : List Ofc) (ps : List Plan) (h : Hld) (f : Fil) (d : Int) (ho : FitsO os) (hp : Fits ps) (hh : h.Fit) (hf : f.Fit) :
    Den Tryz.prog T 12 [ofcs os, plans ps, .agg h.cs, .agg f.cs, vi d] (vb (covers os ps h f d)) := by
  refine den_of_body follows (fun args w => Tryz.call12 args w) Tryz.func12 rfl 43 rfl ?_
  by_cases h1 : d < h.frm
  · rw [covers_out (by simp [inS]; omega)]
    refine run ?_
    exact fin rfl
  by_cases h2 : h.til ≤ d
  · rw [covers_out (by simp [inS]; omega)]
    refine run ?_
    exact fin rfl
  rw [covers_in (by simp [inS]; omega)]
  by_cases k0 : h.kind ≤ 0
  · rw [kindB_0 (by omega) (by omega) (by omega)]
    refine run ?_
    exact fin rfl
  by_cases k4 : 4 ≤ h.kind
  · rw [kindB_0 (by omega) (by omega) (by omega)]
    refine run ?_
    exact fin rfl
  by_cases k1 : h.kind = 1
  · rw [kindB_1 k1]
    refine runW k1 ?_
    refine call (den_Cov1 h f) ?_
    refine run ?_
    exact fin rfl
  by_cases k2 : h.kind = 2
  · rw [kindB_2 k2]
    refine runW k2 ?_
    refine call (den_Cov2 L os h f d ho) ?_
    refine run ?_
    exact fin rfl
  have k3 : h.kind = 3 := by omega
  rw [kindB_3 k3]
  refine runW k3 ?_
  refine call (den_Cov3 L ps h f d hp hf hh) ?_
  refine run ?_
  exact fin rfl

theorem den_CoversRef (os : List Ofc) (ps : List Plan) (h : Hld) (f : Fil) (d : Int) (ho : FitsO os) (hp : Fits ps) (hh : h.Fit) (hf : f.Fit) :
    Den Tryz.prog T 13 [ofcs os, plans ps, .agg h.cs, .agg f.cs, vi d] (vb (covers os ps h f d)) := by
  have hcl := classR_len hp hf d
  refine den_of_body follows (fun args w => Tryz.call13 args w) Tryz.func13 rfl 72 rfl ?_
  refine run ?_
  refine call (den_In04 h.frm h.til d) ?_
  cases hin : inS h.frm h.til d
  · rw [covers_out hin]
    refine run ?_
    exact fin rfl
  rw [covers_in hin]
  by_cases k1 : h.kind = 1
  · rw [kindB_1 k1]
    refine run ?_
    exact fin rfl
  by_cases k2 : h.kind = 2
  · rw [kindB_2 k2]
    refine run ?_
    refine callO (den_ChainRef os f.ofc d ho) ?_
    have hcn := chain_len os f.ofc d
    generalize chain os f.ofc d = C at hcn
    refine run ?_
    refine loop ⟨[7, 11, 12], [7], [], []⟩ (fun k : Nat => k ≤ C.length ∧ ∀ y ∈ C.take k, decide (h.obj = y) = false) (fun k => C.length - k)
      (fun k => ⟨72, [(7, .p 7 0), (11, .v (ints C)), (12, .v (vi k))], [(7, .var h.cs)], []⟩) 0 ⟨by omega, by simp⟩ ?_
    rintro k ⟨hk, hall⟩
    by_cases hlt : k < C.length
    · obtain ⟨y, hy, -, -⟩ := drop_at hlt
      by_cases hxy : y = h.obj
      · rw [any_at hy (by simp [hxy])]
        refine runW hy ?_
        exact fin rfl
      · refine runW hy ?_
        exact round (k + 1) ⟨by omega, take_snoc (q := fun y : Int => decide (h.obj = y) = false) hall hy (by simp; exact fun e => hxy e.symm)⟩ (by omega)
    · rw [any_end hall hlt]
      refine run ?_
      exact fin rfl
  by_cases k3 : h.kind = 3
  · rw [kindB_3 k3]
    refine run ?_
    refine call (den_GoodL ps hp) ?_
    cases hg : goodL ps
    · rw [classR_1 hg]
      refine run ?_
      exact fin rfl
    · refine run ?_
      refine call (den_ClassOn ps f d hp hf hg) ?_
      by_cases hz : (classR ps f d).2 = 0
      · refine run ?_
        refine call (den_WithinRef _ h.cls hcl hh.1) ?_
        refine run ?_
        refine fin (vb_eq ?_)
        first | rfl | (simp [hz]; done) | trace_state
      · refine run ?_
        refine fin (vb_eq ?_)
        first | rfl | (simp [hz]; done) | trace_state
  · rw [kindB_0 k1 k2 k3]
    refine run ?_
    exact fin rfl
end Go.Arc


namespace Go.Arc
open Go.Ab Go.RowKit Go.Proofs
variable {T : Lay}

/-! what holds a file, what a hold covers -/
theorem hold_snoc (os : List Ofc) (ps : List Plan) (f : Fil) (d : Int) {l : List Hld} {k : Nat} {h : Hld} (hk : l[k]? = some h) :
    holding os ps (l.take (k + 1)) f d = holding os ps (l.take k) f d ++ (if covers os ps h f d = true then [h.id] else []) := by
  unfold holding
  rw [List.take_add_one, hk]
  simp only [Option.toList_some, List.filter_append, List.map_append, List.filter_cons, List.filter_nil]
  split <;> rfl
theorem cov_snoc (os : List Ofc) (ps : List Plan) (h : Hld) (d : Int) {l : List Fil} {k : Nat} {f : Fil} (hk : l[k]? = some f) :
    covered os ps h (l.take (k + 1)) d = covered os ps h (l.take k) d ++ (if covers os ps h f d = true then [f.id] else []) := by
  unfold covered
  rw [List.take_add_one, hk]
  simp only [Option.toList_some, List.filter_append, List.map_append, List.filter_cons, List.filter_nil]
  split <;> rfl
theorem hold_len (os : List Ofc) (ps : List Plan) (l : List Hld) (f : Fil) (d : Int) : (holding os ps l f d).length ≤ l.length := by
  unfold holding; rw [List.length_map]; exact List.length_filter_le _ _
theorem cov_len (os : List Ofc) (ps : List Plan) (h : Hld) (l : List Fil) (d : Int) : (covered os ps h l d).length ≤ l.length := by
  unfold covered; rw [List.length_map]; exact List.length_filter_le _ _

theorem den_Holding (L : LibC T) (os : List Ofc) (ps : List Plan) (l : List Hld) (f : Fil) (d : Int) (ho : FitsO os) (hp : Fits ps) (hl : FitsH l) (hf : f.Fit) :
    DenO Tryz.prog T 18 [ofcs os, plans ps, hlds l, .agg f.cs, vi d] 3 (ints (holding os ps l f d)) := by
  have hl0 := hl.1
  refine denO_of_body follows (fun args w => Tryz.call18 args w) Tryz.func18 rfl 33 rfl ?_
  refine run ?_
  refine loop ⟨[0, 1, 4, 8, 11, 14, 15, 16], [8], [11], [(11, 3, 1)]⟩ (fun y : Nat × List Int => y.1 ≤ l.length ∧ y.2.length ≤ y.1 ∧ y.2 = holding os ps (l.take y.1) f d) (fun y => l.length - y.1)
    (fun y => ⟨33, [(0, .v (ofcs os)), (1, .v (plans ps)), (4, .v (vi d)), (8, .p 8 0), (11, .v (ints y.2)), (14, .v (hlds l)), (15, .v (vi l.length)), (16, .v (vi y.1))], [(8, .var f.cs)], [(3, [11])]⟩) (0, []) ⟨by omega, by simp, by simp [holding]⟩ ?_
  rintro ⟨k, out⟩ ⟨hk, hlen, ho'⟩
  simp only at hk hlen ho'
  by_cases hlt : k < l.length
  · obtain ⟨h, hh, -, hm⟩ := drop_at hlt
    have hsn := hold_snoc os ps f d hh
    rw [← ho'] at hsn
    refine runW hh ?_
    refine call (den_Covers L os ps h f d ho hp (hl.2 h hm) hf) ?_
    cases hc : covers os ps h f d
    · rw [hc] at hsn
      refine run ?_
      exact round (k + 1, out) ⟨by simp only; omega, by simp only; omega, by simp only; rw [hsn]; simp⟩ (by simp only; omega)
    · rw [hc] at hsn
      have hap : out.map Cint ++ [[V.val (.int .i64 h.id)]] = (out ++ [h.id]).map Cint := by simp
      refine runW hap ?_
      exact round (k + 1, out ++ [h.id]) ⟨by simp only; omega, by simp; omega, by simp only; rw [hsn]; simp⟩ (by simp only; omega)
  · refine run ?_
    refine finO (.of ?_)
    rw [ho', List.take_of_length_le (by omega)]
theorem den_Covered (L : LibC T) (os : List Ofc) (ps : List Plan) (h : Hld) (l : List Fil) (d : Int) (ho : FitsO os) (hp : Fits ps) (hh : h.Fit) (hl : FitsF l) :
    DenO Tryz.prog T 16 [ofcs os, plans ps, .agg h.cs, fils l, vi d] 3 (ints (covered os ps h l d)) := by
  have hl0 := hl.1
  refine denO_of_body follows (fun args w => Tryz.call16 args w) Tryz.func16 rfl 33 rfl ?_
  refine run ?_
  refine loop ⟨[0, 1, 4, 7, 11, 14, 15, 16], [7], [11], [(11, 3, 1)]⟩ (fun y : Nat × List Int => y.1 ≤ l.length ∧ y.2.length ≤ y.1 ∧ y.2 = covered os ps h (l.take y.1) d) (fun y => l.length - y.1)
    (fun y => ⟨33, [(0, .v (ofcs os)), (1, .v (plans ps)), (4, .v (vi d)), (7, .p 7 0), (11, .v (ints y.2)), (14, .v (fils l)), (15, .v (vi l.length)), (16, .v (vi y.1))], [(7, .var h.cs)], [(3, [11])]⟩) (0, []) ⟨by omega, by simp, by simp [covered]⟩ ?_
  rintro ⟨k, out⟩ ⟨hk, hlen, ho'⟩
  simp only at hk hlen ho'
  by_cases hlt : k < l.length
  · obtain ⟨f, hf, -, hm⟩ := drop_at hlt
    have hsn := cov_snoc os ps h d hf
    rw [← ho'] at hsn
    refine runW hf ?_
    refine call (den_Covers L os ps h f d ho hp hh (hl.2 f hm)) ?_
    cases hc : covers os ps h f d
    · rw [hc] at hsn
      refine run ?_
      exact round (k + 1, out) ⟨by simp only; omega, by simp only; omega, by simp only; rw [hsn]; simp⟩ (by simp only; omega)
    · rw [hc] at hsn
      have hap : out.map Cint ++ [[V.val (.int .i64 f.id)]] = (out ++ [f.id]).map Cint := by simp
      refine runW hap ?_
      exact round (k + 1, out ++ [f.id]) ⟨by simp only; omega, by simp; omega, by simp only; rw [hsn]; simp⟩ (by simp only; omega)
  · refine run ?_
    refine finO (.of ?_)
    rw [ho', List.take_of_length_le (by omega)]
theorem den_HoldingRef (os : List Ofc) (ps : List Plan) (l : List Hld) (f : Fil) (d : Int) (ho : FitsO os) (hp : Fits ps) (hl : FitsH l) (hf : f.Fit) :
    DenO Tryz.prog T 23 [ofcs os, plans ps, hlds l, .agg f.cs, vi d] 3 (ints (holding os ps l f d)) := by
  have hl0 := hl.1
  refine denO_of_body follows (fun args w => Tryz.call23 args w) Tryz.func23 rfl 38 rfl ?_
  refine run ?_
  refine loop ⟨[0, 1, 2, 4, 8, 11, 12], [8], [11], []⟩ (fun y : Nat × List Int => y.1 ≤ l.length ∧ y.2.length ≤ y.1 ∧ y.2 = holding os ps (l.take y.1) f d) (fun y => l.length - y.1)
    (fun y => ⟨38, [(0, .v (ofcs os)), (1, .v (plans ps)), (2, .v (hlds l)), (4, .v (vi d)), (8, .p 8 0), (11, .v (ints y.2)), (12, .v (vi y.1))], [(8, .var f.cs)], [(3, [11])]⟩) (0, []) ⟨by omega, by simp, by simp [holding]⟩ ?_
  rintro ⟨k, out⟩ ⟨hk, hlen, ho'⟩
  simp only at hk hlen ho'
  by_cases hlt : k < l.length
  · obtain ⟨h, hh, -, hm⟩ := drop_at hlt
    have hsn := hold_snoc os ps f d hh
    rw [← ho'] at hsn
    refine runW hh ?_
    refine call (den_CoversRef os ps h f d ho hp (hl.2 h hm) hf) ?_
    cases hc : covers os ps h f d
    · rw [hc] at hsn
      refine run ?_
      exact round (k + 1, out) ⟨by simp only; omega, by simp only; omega, by simp only; rw [hsn]; simp⟩ (by simp only; omega)
    · rw [hc] at hsn
      have hap : out.map Cint ++ [[V.val (.int .i64 h.id)]] = (out ++ [h.id]).map Cint := by simp
      refine runW (And.intro hh hap) ?_
      exact round (k + 1, out ++ [h.id]) ⟨by simp only; omega, by simp; omega, by simp only; rw [hsn]; simp⟩ (by simp only; omega)
  · refine run ?_
    refine finO (.of ?_)
    rw [ho', List.take_of_length_le (by omega)]
theorem den_CoveredRef (os : List Ofc) (ps : List Plan) (h : Hld) (l : List Fil) (d : Int) (ho : FitsO os) (hp : Fits ps) (hh : h.Fit) (hl : FitsF l) :
    DenO Tryz.prog T 24 [ofcs os, plans ps, .agg h.cs, fils l, vi d] 3 (ints (covered os ps h l d)) := by
  have hl0 := hl.1
  refine denO_of_body follows (fun args w => Tryz.call24 args w) Tryz.func24 rfl 38 rfl ?_
  refine run ?_
  refine loop ⟨[0, 1, 3, 4, 7, 11, 12], [7], [11], []⟩ (fun y : Nat × List Int => y.1 ≤ l.length ∧ y.2.length ≤ y.1 ∧ y.2 = covered os ps h (l.take y.1) d) (fun y => l.length - y.1)
    (fun y => ⟨38, [(0, .v (ofcs os)), (1, .v (plans ps)), (3, .v (fils l)), (4, .v (vi d)), (7, .p 7 0), (11, .v (ints y.2)), (12, .v (vi y.1))], [(7, .var h.cs)], [(3, [11])]⟩) (0, []) ⟨by omega, by simp, by simp [covered]⟩ ?_
  rintro ⟨k, out⟩ ⟨hk, hlen, ho'⟩
  simp only at hk hlen ho'
  by_cases hlt : k < l.length
  · obtain ⟨f, hf, -, hm⟩ := drop_at hlt
    have hsn := cov_snoc os ps h d hf
    rw [← ho'] at hsn
    refine runW hf ?_
    refine call (den_CoversRef os ps h f d ho hp hh (hl.2 f hm)) ?_
    cases hc : covers os ps h f d
    · rw [hc] at hsn
      refine run ?_
      exact round (k + 1, out) ⟨by simp only; omega, by simp only; omega, by simp only; rw [hsn]; simp⟩ (by simp only; omega)
    · rw [hc] at hsn
      have hap : out.map Cint ++ [[V.val (.int .i64 f.id)]] = (out ++ [f.id]).map Cint := by simp
      refine runW (And.intro hf hap) ?_
      exact round (k + 1, out ++ [f.id]) ⟨by simp only; omega, by simp; omega, by simp only; rw [hsn]; simp⟩ (by simp only; omega)
  · refine run ?_
    refine finO (.of ?_)
    rw [ho', List.take_of_length_le (by omega)]

theorem den_eqInts (a b : List Int) (ha : a.length ≤ 1048576) : Den Tryz.prog T 19 [ints a, ints b] (vb (decide (a = b))) := by
  refine den_of_body follows (fun args w => Tryz.call19 args w) Tryz.func19 rfl 26 rfl ?_
  by_cases hl : a.length = b.length
  · refine run ?_
    refine loop ⟨[0, 1, 12, 13], [], [], []⟩ (fun k : Nat => k ≤ a.length ∧ (a = b ↔ a.drop k = b.drop k)) (fun k => a.length - k)
      (fun k => ⟨26, [(0, .v (ints a)), (1, .v (ints b)), (12, .v (vi a.length)), (13, .v (vi k))], [], []⟩) 0 ⟨by omega, by simp⟩ ?_
    rintro k ⟨hk, hall⟩
    by_cases hlt : k < a.length
    · obtain ⟨x, hx, hd, -⟩ := drop_at hlt
      obtain ⟨y, hy, he, -⟩ := drop_at (l := b) (k := k) (by omega)
      by_cases hxy : x = y
      · subst hxy
        refine runW (And.intro hx hy) ?_
        exact round (k + 1) ⟨by omega, by rw [hall, eq_drop hd he]; simp⟩ (by omega)
      · refine runW (And.intro hx hy) ?_
        refine fin (vb_eq ?_)
        symm
        rw [decide_eq_false_iff_not, hall, eq_drop hd he]
        simp [hxy]
    · refine run ?_
      refine fin (vb_eq ?_)
      symm; rw [decide_eq_true_iff, hall, drop_end hlt, drop_end (l := b) (by omega)]
  · refine run ?_
    refine fin (vb_eq ?_)
    symm; rw [decide_eq_false_iff_not]; intro h; exact hl (by rw [h])
theorem den_sameInts (a b : List Int) (ha : a.length ≤ 1048576) : Den Tryz.prog T 22 [ints a, ints b] (vb (decide (a = b))) := by
  refine den_of_body follows (fun args w => Tryz.call22 args w) Tryz.func22 rfl 26 rfl ?_
  by_cases hl : a.length = b.length
  · refine run ?_
    refine loop ⟨[0, 1, 5], [], [], []⟩ (fun k : Nat => k ≤ a.length ∧ (a = b ↔ a.drop k = b.drop k)) (fun k => a.length - k)
      (fun k => ⟨26, [(0, .v (ints a)), (1, .v (ints b)), (5, .v (vi k))], [], []⟩) 0 ⟨by omega, by simp⟩ ?_
    rintro k ⟨hk, hall⟩
    by_cases hlt : k < a.length
    · obtain ⟨x, hx, hd, -⟩ := drop_at hlt
      obtain ⟨y, hy, he, -⟩ := drop_at (l := b) (k := k) (by omega)
      by_cases hxy : x = y
      · subst hxy
        refine runW (And.intro hx hy) ?_
        exact round (k + 1) ⟨by omega, by rw [hall, eq_drop hd he]; simp⟩ (by omega)
      · refine runW (And.intro hx hy) ?_
        refine fin (vb_eq ?_)
        symm
        rw [decide_eq_false_iff_not, hall, eq_drop hd he]
        simp [hxy]
    · refine run ?_
      refine fin (vb_eq ?_)
      symm; rw [decide_eq_true_iff, hall, drop_end hlt, drop_end (l := b) (by omega)]
  · refine run ?_
    refine fin (vb_eq ?_)
    symm; rw [decide_eq_false_iff_not]; intro h; exact hl (by rw [h])

/-! few -/
def fewH1 (h : Hld) : Bool := !(decide (100 < h.cls.length) || decide (100 < h.why.length))
def fewH (l : List Hld) : Bool := !((decide (12 < l.length) && decide (l.length ≤ 64)) || decide (69 < l.length)) && l.all fewH1
theorem den_FewH2 (l : List Hld) (hl0 : l.length ≤ 2097152) (hl : ∀ h ∈ l, h.Fit) : Den Tryz.prog T 25 [hlds l] (vb (fewH l)) := by
  refine den_of_body follows (fun args w => Tryz.call25 args w) Tryz.func25 rfl 39 rfl ?_
  by_cases g : (12 < l.length ∧ l.length ≤ 64) ∨ 69 < l.length
  · have hf : fewH l = false := by
      rcases g with ⟨g1, g2⟩ | g
      · simp [fewH, g1, g2]
      · simp [fewH, g]
    rw [hf]
    by_cases a1 : l.length ≤ 64
    · have a2 : 12 < l.length := by omega
      refine run ?_
      exact fin rfl
    · have a2 : 12 < l.length := by omega
      have a3 : 69 < l.length := by omega
      refine run ?_
      exact fin rfl
  · have hq : fewH l = l.all fewH1 := by
      have e1 : (decide (12 < l.length) && decide (l.length ≤ 64)) = false := by
        cases e : decide (12 < l.length)
        · rfl
        · have : 12 < l.length := by simpa using e
          simp; omega
      have e2 : decide (69 < l.length) = false := by simp; omega
      simp only [fewH, e1, e2, Bool.or_false, Bool.not_false, Bool.true_and]
    have go : ∀ Q : Prop, (12 < l.length → ¬ l.length ≤ 64 → Q) → (¬ 12 < l.length → Q) → Q := fun Q a b => by
      by_cases a1 : 12 < l.length
      · exact a a1 (by omega)
      · exact b a1
    rw [hq]
    have a3 : ¬ 69 < l.length := by omega
    refine go _ (fun a1 a2 => ?_) (fun a1 => ?_) <;>
    · refine run ?_
      refine loop ⟨[0, 3], [], [], []⟩ (fun k : Nat => k ≤ l.length ∧ ∀ p ∈ l.take k, fewH1 p = true) (fun k => l.length - k)
        (fun k => ⟨39, [(0, .v (hlds l)), (3, .v (vi k))], [], []⟩) 0 ⟨by omega, by simp⟩ ?_
      rintro k ⟨hk, hall⟩
      by_cases hlt : k < l.length
      · obtain ⟨x, hx, hd, hm⟩ := drop_at hlt
        obtain ⟨f1, f2⟩ := hl x hm
        by_cases g1 : 100 < x.cls.length
        · refine runW hx ?_
          refine fin (vb_eq ?_)
          rw [all_at hx (by simp [fewH1, g1])]
        by_cases g2 : 100 < x.why.length
        · refine runW hx ?_
          refine fin (vb_eq ?_)
          rw [all_at hx (by simp [fewH1, g2])]
        refine runW hx ?_
        exact round (k + 1) ⟨by omega, take_snoc (q := fun p : Hld => fewH1 p = true) hall hx (by simp [fewH1, g1, g2])⟩ (by omega)
      · refine run ?_
        refine fin (vb_eq ?_)
        rw [all_end hall hlt]
theorem den_FewH (l : List Hld) (hl : FitsH l) : Den Tryz.prog T 25 [hlds l] (vb (fewH l)) := den_FewH2 l (Nat.le_trans hl.1 (by decide)) hl.2
def few10 (os : List Ofc) (ps : List Plan) (l : List Hld) (fs : List Fil) : Bool := fewO os && few ps && fewH l && fewF fs
theorem den_few102 (os : List Ofc) (ps : List Plan) (l : List Hld) (fs : List Fil) (ho : FitsO os) (hp : Fits ps) (hl0 : l.length ≤ 2097152) (hl : ∀ h ∈ l, h.Fit) (hf0 : fs.length ≤ 2097152) (hf : ∀ f ∈ fs, f.Fit) :
    Den Tryz.prog T 11 [ofcs os, plans ps, hlds l, fils fs] (vb (few10 os ps l fs)) := by
  refine den_of_body follows (fun args w => Tryz.call11 args w) Tryz.func11 rfl 23 rfl ?_
  unfold few10
  refine run ?_
  refine call (den_FewO os ho) ?_
  cases fewO os
  · refine run ?_
    exact fin rfl
  refine run ?_
  refine call (den_Few ps hp) ?_
  cases few ps
  · refine run ?_
    exact fin rfl
  refine run ?_
  refine call (den_FewH2 l hl0 hl) ?_
  cases fewH l
  · refine run ?_
    exact fin rfl
  refine run ?_
  refine call (den_FewF2 fs hf0 hf) ?_
  refine run ?_
  exact fin rfl
theorem den_few10 (os : List Ofc) (ps : List Plan) (l : List Hld) (fs : List Fil) (ho : FitsO os) (hp : Fits ps) (hl : FitsH l) (hf : FitsF fs) :
    Den Tryz.prog T 11 [ofcs os, plans ps, hlds l, fils fs] (vb (few10 os ps l fs)) := den_few102 os ps l fs ho hp (Nat.le_trans hl.1 (by decide)) hl.2 (Nat.le_trans hf.1 (by decide)) hf.2
theorem fitH1 {h : Hld} (hh : h.Fit) : FitsH [h] := ⟨by simp, fun x hx => by simp at hx; subst hx; exact hh⟩
end Go.Arc


namespace Go.Arc
open Go.Ab Go.RowKit Go.Proofs
variable {T : Lay}

/-! the example of the chapter -/
def xL : List Ofc := [⟨1, [65], 0, 100, [2]⟩, ⟨2, [66], 100, 1048576, []⟩]
def xF : Fil := ⟨9, 1, 0, 0, [], [], 0, []⟩
def xA : Hld := ⟨1, 2, 1, [], [82], 50, 200⟩
def xB : Hld := ⟨2, 2, 2, [], [82], 50, 200⟩
abbrev xLv : V := .slice 5 [[vi 1, .str [65], vi 0, vi 100, .slice 1 [[vi 2]]], [vi 2, .str [66], vi 100, vi 1048576, .val (.slice none 0 0)]]
abbrev xFv : V := .agg [vi 9, vi 1, vi 0, vi 0, .str [], .str [], vi 0, .val (.slice none 0 0)]
theorem xL_fit : FitsO xL := by
  refine ⟨by decide, fun o ho => ?_⟩
  simp only [xL, List.mem_cons, List.mem_nil_iff, or_false] at ho
  rcases ho with rfl | rfl <;> exact ⟨by decide, by decide⟩
theorem xF_fit : xF.Fit := ⟨by decide, by decide, by decide, fun n hn => by simp [xF] at hn⟩
theorem xA_fit : xA.Fit := ⟨by decide, by decide⟩
theorem xB_fit : xB.Fit := ⟨by decide, by decide⟩
theorem xH_fit : FitsH [xA, xB] := by
  refine ⟨by decide, fun h hh => ?_⟩
  simp only [List.mem_cons, List.mem_nil_iff, or_false] at hh
  rcases hh with rfl | rfl
  · exact xA_fit
  · exact xB_fit
theorem nil_fits : Fits [] := ⟨by simp, fun p hp => by cases hp⟩
theorem xL_wk : Wk xLv (ofcs xL) := by
  refine Wk.slice rfl (by intro e he; simp [xL] at he; rcases he with rfl | rfl <;> rfl) (by intro e he c hc; simp [xL] at he; rcases he with rfl | rfl <;> (simp at hc; rcases hc with rfl | rfl | rfl | rfl | rfl <;> rfl)) ?_
  intro i j e u v c h1 h2 h3 h4
  rcases i with _ | _ | i
  · simp only [xL, List.map_cons, List.getElem?_cons_zero, Option.some.injEq] at h1 h2
    subst h1 h2
    rcases j with _ | _ | _ | _ | _ | j <;> simp at h3 h4 <;> subst h3 h4 <;> exact .refl _
  · simp only [xL, List.map_cons, List.getElem?_cons_succ, List.getElem?_cons_zero, Option.some.injEq] at h1 h2
    subst h1 h2
    rcases j with _ | _ | _ | _ | _ | j <;> simp at h3 h4 <;> subst h3 h4 <;> first | exact .refl _ | exact .nil 1
  · simp [xL] at h2
theorem xF_wk : Wk xFv (.agg xF.cs) := by
  refine Wk.agg rfl (by intro c hc; simp [xF] at hc; rcases hc with rfl | rfl | rfl | rfl | rfl | rfl | rfl | rfl <;> rfl) ?_
  intro j v u h1 h2
  rcases j with _ | _ | _ | _ | _ | _ | _ | _ | j <;> simp [xF] at h1 h2 <;> subst h1 h2 <;> first | exact .refl _ | exact .nil 4
set_option maxRecDepth 100000 in
theorem den_awake10 (L : LibC T) : Den Tryz.prog T 10 [] (vb true) := by
  have c0 : Den Tryz.prog T 15 [.slice 7 [xA.cs, xB.cs]] (.tup [vi (-1), vi 0]) := by
    have := den_CheckH (T := T) L [xA, xB] xH_fit
    rwa [show checkH [xA, xB] = (-1, 0) by decide +kernel] at this
  have cv : ∀ (h : Hld) (d : Int) (b : Bool), h.Fit → covers xL [] h xF d = b → Den Tryz.prog T 12 [xLv, .val (.slice none 0 0), .agg h.cs, xFv, vi d] (vb b) := fun h d b hh hb => by
    have := (den_Covers (T := T) L xL [] h xF d xL_fit nil_fits hh xF_fit).wk (.cons xL_wk (.cons (.nil 5) (.cons (.refl _) (.cons xF_wk (.cons (.refl _) .nil)))))
    rwa [hb] at this
  have c1 := cv xA 150 true xA_fit (by decide +kernel)
  have c2 := cv xB 100 true xB_fit (by decide +kernel)
  have c3 := cv xB 99 false xB_fit (by decide +kernel)
  have c4 : Den Tryz.prog T 18 [xLv, .val (.slice none 0 0), .slice 7 [xA.cs, xB.cs], xFv, vi 99] (.slice 1 [[vi 1]]) := by
    have := ((den_Holding (T := T) L xL [] [xA, xB] xF 99 xL_fit nil_fits xH_fit xF_fit).wk (.cons xL_wk (.cons (.nil 5) (.cons (.refl _) (.cons xF_wk (.cons (.refl _) .nil)))))).den
    rwa [show holding xL [] [xA, xB] xF 99 = [1] by decide +kernel] at this
  have c5 : Den Tryz.prog T 19 [.slice 1 [[vi 1]], .slice 1 [[vi 1]]] (vb true) := den_eqInts (T := T) [1] [1] (by decide)
  simp only [xA, xB] at c0 c1 c2 c3 c4
  refine den_of_body follows (fun args w => Tryz.call10 args w) Tryz.func10 rfl 61 rfl ?_
  refine run ?_
  refine call c0 ?_
  refine run ?_
  refine call c1 ?_
  refine run ?_
  refine call c2 ?_
  refine run ?_
  refine call c3 ?_
  refine run ?_
  refine call c4 ?_
  refine run ?_
  refine call c5 ?_
  refine run ?_
  exact fin rfl

theorem den_HoldCovers (L : LibC T) (os : List Ofc) (ps : List Plan) (h : Hld) (f : Fil) (d : Int) (ho : FitsO os) (hp : Fits ps) (hh : h.Fit) (hf : f.Fit) :
    Den Tryz.prog T 3 [ofcs os, plans ps, .agg h.cs, .agg f.cs, vi d] (vb true) := by
  have c1 := den_Covers (T := T) L os ps h f d ho hp hh hf
  have c2 := den_CoversRef (T := T) os ps h f d ho hp hh hf
  refine den_of_body follows (fun args w => Tryz.call3 args w) Tryz.func3 rfl 36 rfl ?_
  refine run ?_
  refine call (den_awake10 L) ?_
  refine run ?_
  refine call (den_few10 os ps [h] [f] ho hp (fitH1 hh) (fit1 hf)) ?_
  cases few10 os ps [h] [f]
  · refine run ?_
    exact fin rfl
  generalize covers os ps h f d = b at c1 c2
  refine run ?_
  refine call c1 ?_
  refine run ?_
  refine call c2 ?_
  cases b <;>
  · refine run ?_
    exact fin rfl

theorem wider {os : List Ofc} {ps : List Plan} {h : Hld} {f : Fil} {d : Int} {u : Str} (hk : h.kind = 3) (hp : parent h.cls = some u) (hc : covers os ps h f d = true) : covers os ps { h with cls := u } f d = true := by
  unfold covers at hc ⊢
  rw [kindB_3 hk] at hc
  rw [kindB_3 (h := { h with cls := u }) hk]
  simp only [Bool.and_eq_true] at hc ⊢
  exact ⟨hc.1, hc.2.1, within_parent hc.2.2 hp⟩
theorem parent_fit {s u : Str} (h : parent s = some u) : u.length ≤ 1048576 := by
  obtain ⟨l, h1, h2, rfl, -⟩ := parent_some h
  obtain ⟨-, h6, -⟩ := parse_some h1
  have := fmt_len_le (l.take (l.length - 1))
  rw [List.length_take] at this
  omega
theorem in_span {os : List Ofc} {ps : List Plan} {h : Hld} {f : Fil} {d : Int} (hc : covers os ps h f d = true) : h.frm ≤ d ∧ d < h.til := by
  unfold covers at hc
  rw [inS_two] at hc
  simp only [Bool.and_eq_true, decide_eq_true_eq] at hc
  exact ⟨hc.1.1, hc.1.2⟩
set_option maxRecDepth 100000 in
theorem den_HoldWider (L : LibC T) (os : List Ofc) (ps : List Plan) (h : Hld) (f : Fil) (d : Int) (ho : FitsO os) (hp : Fits ps) (hh : h.Fit) (hf : f.Fit) :
    Den Tryz.prog T 4 [ofcs os, plans ps, .agg h.cs, .agg f.cs, vi d] (vb true) := by
  have c1 := den_Covers (T := T) L os ps h f d ho hp hh hf
  refine den_of_body follows (fun args w => Tryz.call4 args w) Tryz.func4 rfl 72 rfl ?_
  refine run ?_
  refine call (den_awake10 L) ?_
  refine run ?_
  refine call (den_few10 os ps [h] [f] ho hp (fitH1 hh) (fit1 hf)) ?_
  cases few10 os ps [h] [f]
  · refine run ?_
    exact fin rfl
  refine run ?_
  cases hc : covers os ps h f d
  · rw [hc] at c1
    refine call c1 ?_
    refine run ?_
    refine call (den_Parent L h.cls hh.1) ?_
    cases hpa : parent h.cls with
    | none =>
      rw [parentV_n hpa]
      by_cases hk : h.kind = 3
      · refine run ?_
        exact fin rfl
      · refine run ?_
        exact fin rfl
    | some u =>
      rw [parentV_s hpa]
      by_cases hk : h.kind = 3
      · refine run ?_
        exact fin rfl
      · refine run ?_
        exact fin rfl
  · rw [hc] at c1
    obtain ⟨s1, s2⟩ := in_span hc
    refine call c1 ?_
    refine run ?_
    refine call (den_Parent L h.cls hh.1) ?_
    cases hpa : parent h.cls with
    | none =>
      rw [parentV_n hpa]
      by_cases hk : h.kind = 3
      · refine run ?_
        exact fin rfl
      · refine run ?_
        exact fin rfl
    | some u =>
      rw [parentV_s hpa]
      by_cases hk : h.kind = 3
      · have c2 := den_Covers (T := T) L os ps { h with cls := u } f d ho hp ⟨parent_fit hpa, hh.2⟩ hf
        rw [wider hk hpa hc] at c2
        refine run ?_
        refine call c2 ?_
        refine run ?_
        exact fin rfl
      · refine run ?_
        exact fin rfl

set_option maxRecDepth 100000 in
theorem den_HoldEach (L : LibC T) (os : List Ofc) (ps : List Plan) (l : List Hld) (fs : List Fil) (d : Int) (ho : FitsO os) (hp : Fits ps) (hl : FitsH l) (hf : FitsF fs) :
    Den Tryz.prog T 5 [ofcs os, plans ps, hlds l, fils fs, vi d] (vb true) := by
  have hl0 := hl.1
  have hf0 := hf.1
  refine den_of_body follows (fun args w => Tryz.call5 args w) Tryz.func5 rfl 84 rfl ?_
  refine run ?_
  refine call (den_awake10 L) ?_
  refine run ?_
  refine call (den_CheckH L l hl) ?_
  refine run ?_
  refine call (den_few10 os ps l fs ho hp hl hf) ?_
  cases few10 os ps l fs
  · refine run ?_
    exact fin rfl
  by_cases hg0 : ¬ (checkH l).2 = 0
  · refine run ?_
    exact fin rfl
  have hg : (checkH l).2 = 0 := Decidable.not_not.1 hg0
  have hgood : goodH l = true := by simp [goodH, hg]
  refine run ?_
  refine loop ⟨[0, 1, 2, 3, 4, 37, 38, 39], [], [], []⟩ (fun k : Nat => k ≤ l.length) (fun k => l.length - k)
    (fun k => ⟨84, [(0, .v (ofcs os)), (1, .v (plans ps)), (2, .v (hlds l)), (3, .v (fils fs)), (4, .v (vi d)), (37, .v (hlds l)), (38, .v (vi l.length)), (39, .v (vi k))], [], []⟩) 0 (by omega) ?_
  intro k hk
  by_cases hlt : k < l.length
  · obtain ⟨h, hh, -, hm⟩ := drop_at hlt
    have hhf := hl.2 h hm
    have hcl := cov_len os ps h fs d
    refine runW hh ?_
    refine call (den_Covered L os ps h fs d ho hp hhf hf).den ?_
    refine run ?_
    refine loop ⟨[0, 1, 2, 3, 4, 14, 15, 16, 37, 38, 39, 49, 50, 51], [14], [16], [(16, 3, 1)]⟩ (fun y : Nat × List Int => y.1 ≤ fs.length ∧ y.2.length ≤ y.1 ∧ y.2 = covered os ps h (fs.take y.1) d) (fun y => fs.length - y.1)
      (fun y => ⟨84, [(0, .v (ofcs os)), (1, .v (plans ps)), (2, .v (hlds l)), (3, .v (fils fs)), (4, .v (vi d)), (14, .p 14 0), (15, .v (ints (covered os ps h fs d))), (16, .v (ints y.2)), (37, .v (hlds l)), (38, .v (vi l.length)), (39, .v (vi k)), (49, .v (fils fs)), (50, .v (vi fs.length)), (51, .v (vi y.1))], [(14, .var h.cs)], [(3, [16])]⟩) (0, []) ⟨by omega, by simp, by simp [covered]⟩ ?_
    rintro ⟨j, out⟩ ⟨hj, hlen, ho'⟩
    simp only at hj hlen ho'
    by_cases hjt : j < fs.length
    · obtain ⟨f, hff, -, hmf⟩ := drop_at hjt
      have hfit := hf.2 f hmf
      have hsn := cov_snoc os ps h d hff
      rw [← ho'] at hsn
      have hhas := holding_has (os := os) (ps := ps) (f := f) (d := d) hgood hm
      have hhl := hold_len os ps l f d
      have c1 := den_Covers (T := T) L os ps h f d ho hp hhf hfit
      refine runW hff ?_
      cases hc : covers os ps h f d
      · rw [hc] at hsn c1 hhas
        refine call c1 ?_
        refine run ?_
        refine call (den_Holding L os ps l f d ho hp hl hfit).den ?_
        refine run ?_
        refine call (den_hasInt2 _ h.id (by omega)) ?_
        rw [hhas]
        refine run ?_
        exact round (j + 1, out) ⟨by simp only; omega, by simp only; omega, by simp only; rw [hsn]; simp⟩ (by simp only; omega)
      · rw [hc] at hsn c1 hhas
        have hap : out.map Cint ++ [[V.val (.int .i64 f.id)]] = (out ++ [f.id]).map Cint := by simp
        refine call c1 ?_
        refine runW hap ?_
        refine call (den_Holding L os ps l f d ho hp hl hfit).den ?_
        refine run ?_
        refine call (den_hasInt2 _ h.id (by omega)) ?_
        rw [hhas]
        refine run ?_
        exact round (j + 1, out ++ [f.id]) ⟨by simp only; omega, by simp; omega, by simp only; rw [hsn]; simp⟩ (by simp only; omega)
    · have he : out = covered os ps h fs d := by rw [ho', List.take_of_length_le (by omega)]
      subst he
      refine run ?_
      refine call (den_eqInts (covered os ps h fs d) (covered os ps h fs d) (by omega)) ?_
      rw [decide_eq_true rfl]
      refine run ?_
      exact round (k + 1) (by omega) (by omega)
  · refine run ?_
    exact fin rfl
end Go.Arc


namespace Go.Arc
open Go.Ab Go.RowKit Go.Proofs
variable {T : Lay}

/-! ending a hold -/
theorem flatH : ∀ (l : List Hld), ∀ e ∈ l.map Hld.cs, ∀ c ∈ e, c.flat = true := by
  intro l e he c hc
  obtain ⟨n, -, rfl⟩ := List.mem_map.1 he
  simp only [Hld.cs, List.mem_cons, List.mem_nil_iff, or_false] at hc
  rcases hc with rfl | rfl | rfl | rfl | rfl | rfl | rfl <;> rfl
theorem lenH7 (l : List Hld) : ∀ e ∈ l.map Hld.cs, e.length = 7 := by
  intro e he
  obtain ⟨n, -, rfl⟩ := List.mem_map.1 he
  rfl
theorem den_cloneHld (l : List Hld) (hl : l.length ≤ 1048576) : DenO Tryz.prog T 20 [hlds l] 27 (hlds l) := by
  refine denO_of_body follows (fun args w => Tryz.call20 args w) Tryz.func20 rfl 8 rfl ?_
  cases l with
  | nil =>
    refine run ?_
    intro b
    cases b
    · refine run ?_
      exact finO (.refl _)
    · refine run ?_
      exact finO (.nil 7)
  | cons x r =>
    have h : r.length + 1 ≤ 1048576 := hl
    have e : hlds (x :: r) = .slice 7 (x.cs :: r.map Hld.cs) := rfl
    rw [e]
    refine run ?_
    exact finO (.refl _)
theorem denN_cloneHld (l : List Hld) (hl : l.length ≤ 1048576) : DenN Tryz.prog T 20 [hlds l] 7 (l.map Hld.cs) :=
  (den_cloneHld l hl).new (by kernel_rfl) (by decide) (flatH l)

/-- the cells of holds, one after the other -/
def cellsH (l : List Hld) : List V := (l.map Hld.cs).flatten
theorem cellsH_cons (x : Hld) (l : List Hld) : cellsH (x :: l) = x.cs ++ cellsH l := rfl
theorem cellsH_len : ∀ (l : List Hld), (cellsH l).length = l.length * 7
  | [] => rfl
  | x :: l => by rw [cellsH_cons, List.length_append, cellsH_len l, List.length_cons]; simp only [List.length_cons, List.length_nil]; omega
theorem cellsH_chunk : ∀ (l : List Hld), chunk 0 l.length 7 (cellsH l) = l.map Hld.cs := by
  intro l
  have key : ∀ (l : List Hld) (i : Nat) (x : Hld), l[i]? = some x → ((cellsH l).drop (i * 7)).take 7 = x.cs := by
    intro l
    induction l with
    | nil => intro i x h; simp at h
    | cons y r ih =>
      intro i x h
      rw [cellsH_cons]
      cases i with
      | zero =>
        simp only [List.getElem?_cons_zero, Option.some.injEq] at h
        subst h
        simp
      | succ i =>
        simp only [List.getElem?_cons_succ] at h
        have : (i + 1) * 7 = y.cs.length + i * 7 := by simp only [Hld.cs, List.length_cons, List.length_nil]; omega
        rw [this, List.drop_length_add_append]
        exact ih i x h
  refine List.ext_getElem? fun i => ?_
  simp only [chunk, List.getElem?_map]
  by_cases h : i < l.length
  · rw [List.getElem?_range h, List.getElem?_eq_getElem h]
    simp only [Option.map_some, Nat.zero_add, Option.some.injEq]
    exact key l i _ (List.getElem?_eq_getElem h)
  · rw [List.getElem?_eq_none (l := List.range l.length) (by simp; omega), List.getElem?_eq_none (l := l) (by omega)]
    rfl
/-- the day on which the hold at i ends is written -/
theorem cellsH_cut : ∀ (l : List Hld) (i : Nat) (x : Hld) (d : Int), l[i]? = some x → (cellsH l).take (i * 7 + 6) ++ [vi d] ++ (cellsH l).drop (i * 7 + 6 + 1) = cellsH (cutH l i d)
  | [], i, x, d, h => by simp at h
  | y :: r, 0, x, d, h => by
    simp only [List.getElem?_cons_zero, Option.some.injEq] at h
    subst h
    rfl
  | y :: r, i + 1, x, d, h => by
    simp only [List.getElem?_cons_succ] at h
    have ih := cellsH_cut r i x d h
    have e : cutH (y :: r) (i + 1) d = y :: cutH r i d := by simp [cutH, h]
    rw [e, cellsH_cons, cellsH_cons, ← ih]
    have e1 : (i + 1) * 7 + 6 = y.cs.length + (i * 7 + 6) := by simp only [Hld.cs, List.length_cons, List.length_nil]; omega
    have e2 : (i + 1) * 7 + 6 + 1 = y.cs.length + (i * 7 + 6 + 1) := by simp only [Hld.cs, List.length_cons, List.length_nil]; omega
    rw [e2, e1, List.take_length_add_append, List.drop_length_add_append]
    simp only [List.append_assoc]

theorem den_ixHld (l : List Hld) (f : FuncId) (cap : List V) (p : Hld → Bool) (hl : l.length ≤ 1048576) (hp : ∀ e ∈ l, Den Tryz.prog T f (.agg e.cs :: cap) (vb (p e))) :
   Den Tryz.prog T 56 [hlds l, .func f cap] (vi (ix p l)) := by
  refine den_of_body follows (fun args w => Tryz.call56 args w) Tryz.func56 rfl 19 rfl ?_
  refine run ?_
  refine loop ⟨[0, 1, 7, 8], [], [], []⟩ (fun k : Nat => k ≤ l.length ∧ ∀ e ∈ l.take k, p e = false) (fun k => l.length - k)
    (fun k => ⟨19, [(0, .v (hlds l)), (1, .v (.func f cap)), (7, .v (vi l.length)), (8, .v (vi k))], [], []⟩) 0 ⟨by omega, by simp⟩ ?_
  rintro k ⟨hk, hall⟩
  by_cases hlt : k < l.length
  · obtain ⟨x, hx, -, hm⟩ := drop_at hlt
    refine runW hx ?_
    refine call (hp x hm) ?_
    cases hpc : p x
    · refine run ?_
      exact round (k + 1) ⟨by omega, take_snoc hall hx hpc⟩ (by omega)
    · refine run ?_
      exact fin (vi_eq (ix_at hall hx hpc))
  · refine run ?_
    exact fin (vi_eq (ix_none hall hlt))
theorem den_Rel1 (h : Hld) (n : Int) : Den Tryz.prog T 57 [.agg h.cs, .row [vi n]] (vb (isIdH n h)) := by
  refine den_of_body follows (fun args w => Tryz.call57 args w) Tryz.func57 rfl 8 rfl ?_
  refine run ?_
  exact fin rfl
theorem den_FindHRef (l : List Hld) (n : Int) (hl : l.length ≤ 1048576) : Den Tryz.prog T 59 [hlds l, vi n] (vi (findH l n)) := by
  refine den_of_body follows (fun args w => Tryz.call59 args w) Tryz.func59 rfl 20 rfl ?_
  refine run ?_
  refine loop ⟨[0, 1, 5], [], [], []⟩ (fun k : Nat => k ≤ l.length ∧ ∀ o ∈ l.take k, isIdH n o = false) (fun k => l.length - k)
    (fun k => ⟨20, [(0, .v (hlds l)), (1, .v (vi n)), (5, .v (vi k))], [], []⟩) 0 ⟨by omega, by simp⟩ ?_
  rintro k ⟨hk, hall⟩
  by_cases hlt : k < l.length
  · obtain ⟨x, hx, -, -⟩ := drop_at hlt
    by_cases hxn : x.id = n
    · refine runW hx ?_
      exact fin (vi_eq (ix_at (p := isIdH n) hall hx (by simp [isIdH, hxn])))
    · refine runW hx ?_
      exact round (k + 1) ⟨by omega, take_snoc (q := fun o : Hld => isIdH n o = false) hall hx (by simp [isIdH, hxn])⟩ (by omega)
  · refine run ?_
    exact fin (vi_eq (ix_none (p := isIdH n) hall hlt))

theorem wk_two {a b c : V} (h : Wk a b) : Wk (.tup [a, c]) (.tup [b, c]) := by
  refine .tup rfl fun j v u h1 h2 => ?_
  rcases j with _ | _ | j
  · cases h1; cases h2; exact h
  · cases h1; cases h2; exact .refl _
  · simp at h1
abbrev relV (l : List Hld) (n d : Int) : V := .tup [hlds (relL l n d), vi (relE l n d)]
theorem relE_1 {l : List Hld} {n d : Int} (h : goodH l = false) : relE l n d = 1 := by unfold relE; rw [if_pos h]
theorem relE_7 {l : List Hld} {n d : Int} (h : goodH l = true) (h7 : findH l n < 0) : relE l n d = 7 := by unfold relE; rw [if_neg (by simp [h]), if_pos h7]
theorem relE_2 {l : List Hld} {n d : Int} {i : Nat} {x : Hld} (h : goodH l = true) (hi : findH l n = i) (hx : l[i]? = some x) (h2 : d ≤ x.frm ∨ x.til < d) : relE l n d = 2 := by
  unfold relE; rw [if_neg (by simp [h]), if_neg (by omega), hi, Int.toNat_natCast, hx]; simp only; rw [if_pos h2]
theorem relE_0 {l : List Hld} {n d : Int} {i : Nat} {x : Hld} (h : goodH l = true) (hi : findH l n = i) (hx : l[i]? = some x) (h2 : ¬ (d ≤ x.frm ∨ x.til < d)) : relE l n d = 0 := by
  unfold relE; rw [if_neg (by simp [h]), if_neg (by omega), hi, Int.toNat_natCast, hx]; simp only; rw [if_neg h2]
theorem relV_e {l : List Hld} {n d e : Int} (h : relE l n d = e) (hne : e ≠ 0) : relV l n d = .tup [hlds [], vi e] := by
  unfold relV relL; rw [if_neg (by rw [h]; exact hne), h]
theorem relV_0 {l : List Hld} {n d : Int} {i : Nat} (h : relE l n d = 0) (hi : findH l n = i) : relV l n d = .tup [hlds (cutH l i d), vi 0] := by
  unfold relV relL; rw [if_pos h, h, hi, Int.toNat_natCast]
theorem findH_cases (l : List Hld) (n : Int) : findH l n < 0 ∨ ∃ (i : Nat) (x : Hld), findH l n = i ∧ i < l.length ∧ l[i]? = some x ∧ x.id = n := by
  rcases ix_find (isIdH n) l with ⟨h, -⟩ | ⟨k, x, h1, h2, h3, -, h4⟩
  · left; show ix (isIdH n) l < 0; rw [h]; decide
  · right; exact ⟨k, x, h1, h2, h3, by simpa [isIdH] using h4⟩
set_option maxRecDepth 100000 in
theorem den_Release (L : LibC T) (l : List Hld) (n d : Int) (hl : FitsH l) : Den Tryz.prog T 27 [hlds l, vi n, vi d] (relV l n d) := by
  have hl0 := hl.1
  refine den_of_body follows (fun args w => Tryz.call27 args w) Tryz.func27 rfl 51 rfl ?_
  refine run ?_
  refine call (den_CheckH L l hl) ?_
  by_cases hg0 : ¬ (checkH l).2 = 0
  · rw [relV_e (e := 1) (relE_1 (by simp [goodH, hg0])) (by decide)]
    refine run ?_
    exact finW (wk_two (.nil 7))
  have hz : (checkH l).2 = 0 := Decidable.not_not.1 hg0
  have hg : goodH l = true := by simp [goodH, hz]
  refine run ?_
  refine call (den_ixHld l _ _ (isIdH n) hl0 fun h _ => den_Rel1 h n) ?_
  rcases findH_cases l n with h7 | ⟨i, x, hi, hlt, hx, -⟩
  · rw [relV_e (relE_7 hg h7) (by decide)]
    have h7' : ix (isIdH n) l < 0 := h7
    refine run ?_
    exact finW (wk_two (.nil 7))
  · rw [show ix (isIdH n) l = (i : Int) from hi]
    by_cases a1 : d ≤ x.frm
    · rw [relV_e (relE_2 hg hi hx (.inl a1)) (by decide)]
      refine runW hx ?_
      exact finW (wk_two (.nil 7))
    by_cases a2 : x.til < d
    · rw [relV_e (relE_2 hg hi hx (.inr a2)) (by decide)]
      refine runW hx ?_
      exact finW (wk_two (.nil 7))
    rw [relV_0 (relE_0 hg hi hx (by omega)) hi]
    refine runW hx ?_
    refine callN (denN_cloneHld l hl0) ?_ ?_
    · intro hz
      have : l = [] := by simpa using hz
      subst this
      simp at hlt
    · intro _
      have hcl := cellsH_len l
      have hcut := cellsH_cut l i x d hx
      have hcc := cellsH_chunk (cutH l i d)
      rw [cutH_len] at hcc
      rw [show (l.map Hld.cs).flatten = cellsH l from rfl]
      generalize cellsH l = C at hcl hcut
      refine run ?_
      refine finF2 (Wk.of ?_) ?_
      · rw [show hlds (cutH l i d) = .slice 7 ((cutH l i d).map Hld.cs) from rfl, ← hcc, ← hcut]
      · rw [hcut, cellsH_len, cutH_len]; omega
set_option maxRecDepth 100000 in
theorem den_ReleaseRef (l : List Hld) (n d : Int) (hl : FitsH l) : Den Tryz.prog T 28 [hlds l, vi n, vi d] (relV l n d) := by
  have hl0 := hl.1
  refine den_of_body follows (fun args w => Tryz.call28 args w) Tryz.func28 rfl 46 rfl ?_
  refine run ?_
  refine call (den_GoodHRef l hl) ?_
  cases hg : goodH l
  · rw [relV_e (e := 1) (relE_1 hg) (by decide)]
    refine run ?_
    exact finW (wk_two (.nil 7))
  refine run ?_
  refine call (den_FindHRef l n hl0) ?_
  rcases findH_cases l n with h7 | ⟨i, x, hi, hlt, hx, -⟩
  · rw [relV_e (relE_7 hg h7) (by decide)]
    refine run ?_
    exact finW (wk_two (.nil 7))
  · rw [hi]
    by_cases a1 : d ≤ x.frm
    · rw [relV_e (relE_2 hg hi hx (.inl a1)) (by decide)]
      refine runW hx ?_
      exact finW (wk_two (.nil 7))
    by_cases a2 : x.til < d
    · rw [relV_e (relE_2 hg hi hx (.inr a2)) (by decide)]
      refine runW hx ?_
      exact finW (wk_two (.nil 7))
    rw [relV_0 (relE_0 hg hi hx (by omega)) hi]
    refine runB hx ?_
    refine appO_l ?_
    have hcl := cellsH_len l
    have hcut := cellsH_cut l i x d hx
    have hcc := cellsH_chunk (cutH l i d)
    rw [cutH_len] at hcc
    have hfl : (l.map Hld.cs).flatten = cellsH l := rfl
    have hap : (l.map Hld.cs).length * 56 ≤ 140737488355328 := by simp; omega
    refine runB hfl ?_
    generalize cellsH l = C at hcl hcut
    refine run ?_
    refine finF2 (Wk.of ?_) ?_
    · rw [show hlds (cutH l i d) = .slice 7 ((cutH l i d).map Hld.cs) from rfl, ← hcc, ← hcut]
    · rw [hcut, cellsH_len, cutH_len]; omega

theorem hld_ne {x y : Hld} (h : x ≠ y) : ¬ (x.id = y.id ∧ x.kind = y.kind ∧ x.obj = y.obj ∧ x.cls = y.cls ∧ x.why = y.why ∧ x.frm = y.frm ∧ x.til = y.til) := by
  rintro ⟨h1, h2, h3, h4, h5, h6, h7⟩
  cases x; cases y
  simp only at h1 h2 h3 h4 h5 h6 h7
  subst h1 h2 h3 h4 h5 h6 h7
  exact h rfl
theorem den_SameH (a : List Hld) (ha : a.length ≤ 1048576) : Den Tryz.prog T 29 [hlds a, hlds a] (vb true) := by
  refine den_of_body follows (fun args w => Tryz.call29 args w) Tryz.func29 rfl 26 rfl ?_
  refine run ?_
  refine loop ⟨[0, 1, 5], [], [], []⟩ (fun k : Nat => k ≤ a.length) (fun k => a.length - k)
    (fun k => ⟨26, [(0, .v (hlds a)), (1, .v (hlds a)), (5, .v (vi k))], [], []⟩) 0 (by omega) ?_
  intro k hk
  by_cases hlt : k < a.length
  · obtain ⟨x, hx, hd, -⟩ := drop_at hlt
    refine runW hx ?_
    exact round (k + 1) (by omega) (by omega)
  · refine run ?_
    exact fin rfl

theorem relL_len (l : List Hld) (n d : Int) : (relL l n d).length ≤ l.length := by
  unfold relL
  split
  · rw [cutH_len]; exact Nat.le_refl _
  · simp
set_option maxRecDepth 100000 in
theorem den_HoldChecks (L : LibC T) (l : List Hld) (n d : Int) (hl : FitsH l) : Den Tryz.prog T 7 [hlds l, vi n, vi d] (vb true) := by
  have hrl := relL_len l n d
  have hl0 := hl.1
  refine den_of_body follows (fun args w => Tryz.call7 args w) Tryz.func7 rfl 62 rfl ?_
  refine run ?_
  refine call (den_awake10 L) ?_
  refine run ?_
  refine call (den_FewH l hl) ?_
  cases fewH l
  · refine run ?_
    exact fin rfl
  refine run ?_
  refine call (den_CheckH L l hl) ?_
  refine run ?_
  refine call (den_CheckHRef l hl) ?_
  refine run ?_
  refine call (den_Release L l n d hl) ?_
  refine run ?_
  refine call (den_ReleaseRef l n d hl) ?_
  refine run ?_
  refine call (den_SameH (relL l n d) (by omega)) ?_
  refine run ?_
  exact fin rfl
end Go.Arc


namespace Go.Arc
open Go.Ab Go.RowKit Go.Proofs
variable {T : Lay}

/-! lists of numbers: deleting, comparing -/
def vint (x : Int) : V := vi x
theorem flat_ints : ∀ l : List Int, (l.map Cint).flatten = l.map vint
  | [] => rfl
  | x :: l => by rw [List.map_cons, List.flatten_cons, flat_ints l]; rfl
/-- the same on a local row: nothing is written -/
theorem denM_ixInt (l : List Int) (f : FuncId) (cap : List V) (p : Int → Bool) (hl : l.length ≤ 1048576) (hp : ∀ e ∈ l, Den Tryz.prog T f (vi e :: cap) (vb (p e))) :
   DenM Tryz.prog T 60 (l.map vint) [.s 999999 0 l.length 1, .v (.func f cap)] (l.map vint) (.v (vi (ix p l))) := by
  refine denM_of_body follows (fun args w => Tryz.call60 args w) Tryz.func60 rfl 19 rfl rfl ?_
  refine run ?_
  refine loop ⟨[0, 1, 7, 8], [999999], [], []⟩ (fun k : Nat => k ≤ l.length ∧ ∀ e ∈ l.take k, p e = false) (fun k => l.length - k)
    (fun k => ⟨19, [(0, .s 999999 0 l.length 1), (1, .v (.func f cap)), (7, .v (vi l.length)), (8, .v (vi k))], [(999999, .var (l.map vint))], []⟩) 0 ⟨by omega, by simp⟩ ?_
  rintro k ⟨hk, hall⟩
  by_cases hlt : k < l.length
  · obtain ⟨x, hx, hd, hm⟩ := drop_at hlt
    have hd' : (l.map vint).drop k = vi x :: (l.drop (k + 1)).map vint := by rw [← List.map_drop, hd]; rfl
    refine runW hd' ?_
    refine call (hp x hm) ?_
    cases hpc : p x
    · refine run ?_
      exact round (k + 1) ⟨by omega, take_snoc hall hx hpc⟩ (by omega)
    · refine run ?_
      exact finM0 (.v (.of (vi_eq (ix_at hall hx hpc))))
  · refine run ?_
    exact finM0 (.v (.of (vi_eq (ix_none hall hlt))))
theorem denM_delInt (l : List Int) (f : FuncId) (cap : List V) (p : Int → Bool) (hl : l.length ≤ 1048576) (h0 : l ≠ []) (hp : ∀ e ∈ l, Den Tryz.prog T f (vi e :: cap) (vb (p e))) :
   DenM Tryz.prog T 30 (l.map vint) [.s 999999 0 l.length 1, .v (.func f cap)] ((l.filter fun e => !p e).map vint)
     (if l.filter (fun e => !p e) = [] then .v (.slice 1 []) else .s 999999 0 (l.filter fun e => !p e).length 1) := by
  have hlen : 0 < l.length := List.length_pos_iff.2 h0
  refine denM_of_body follows (fun args w => Tryz.call30 args w) Tryz.func30 rfl 42 rfl rfl ?_
  refine run ?_
  refine callM 999999 (denM_ixInt l f cap p hl hp) ?_
  rcases hix : l.findIdx? p with _ | i
  · have hi : ix p l = -1 := by simp [ix, hix]
    have hf : l.filter (fun e => !p e) = l := by
      rw [List.filter_eq_self]
      intro e he
      simp [List.findIdx?_eq_none_iff.1 hix e he]
    rw [hi, hf, if_neg h0]
    refine run ?_
    exact finM0 (.refl _)
  · obtain ⟨hlt, hpi, hbef⟩ := List.findIdx?_eq_some_iff_getElem.1 hix
    have hi : ix p l = i := by simp [ix, hix]
    rw [hi]
    refine run ?_
    have hfi : ((l.take (i + 1)).filter fun e => !p e) = l.take i := by
      rw [filter_take (List.getElem?_eq_getElem hlt), if_neg (by simp [hpi]), List.filter_eq_self]
      intro e he
      obtain ⟨j, hj, rfl⟩ := List.mem_iff_getElem.1 he
      simp only [List.length_take] at hj
      simp [hbef j (by omega)]
    have hkl : ((l.take (i + 1)).filter fun e => !p e).length = i := by rw [hfi]; simp; omega
    refine loop ⟨[0, 1, 5, 6], [999999], [], []⟩ (fun y : Nat × List V => i + 1 ≤ y.1 ∧ y.1 ≤ l.length ∧ y.2.length = l.length ∧ ((l.take y.1).filter fun e => !p e).length < y.1 ∧
        y.2.take ((l.take y.1).filter fun e => !p e).length = ((l.take y.1).filter fun e => !p e).map vint ∧ y.2.drop y.1 = (l.drop y.1).map vint) (fun y => l.length - y.1)
      (fun y => ⟨42, [(0, .s 999999 0 l.length 1), (1, .v (.func f cap)), (5, .v (vi ((l.take y.1).filter fun e => !p e).length)), (6, .v (vi y.1))], [(999999, .var y.2)], []⟩) (i + 1, l.map vint) ?_ ?_ ?_
    · refine ⟨by simp, by simp; omega, by simp, ?_, ?_, by simp⟩
      · simp only; rw [hfi]; simp; omega
      · simp only; rw [hfi]; simp [Nat.min_eq_left (Nat.le_of_lt hlt)]
    · rintro ⟨j, cs⟩ ⟨h1, h2, h3, h4, h5, h6⟩
      simp only at h1 h2 h3 h4 h5 h6
      by_cases hj : j < l.length
      · obtain ⟨x, hx, hd, hm⟩ := drop_at hj
        have hd' : cs.drop j = vi x :: (l.drop (j + 1)).map vint := by rw [h6, hd]; rfl
        refine runW hd' ?_
        refine call (hp x hm) ?_
        have hdn : cs.drop (j + 1) = (l.drop (j + 1)).map vint := by
          have := congrArg List.tail hd'
          simpa using this
        cases hpc : p x
        · have hf := filter_take (q := fun e => !p e) hx
          simp only [hpc, Bool.not_false, if_true] at hf
          refine run ?_
          have hl1 : (cs.take ((l.take j).filter fun e => !p e).length).length = ((l.take j).filter fun e => !p e).length := by rw [List.length_take]; omega
          refine round (j + 1, cs.take ((l.take j).filter fun e => !p e).length ++ [vi x] ++ cs.drop (((l.take j).filter fun e => !p e).length + 1)) ⟨by simp only; omega, by simp only; omega, ?_, ?_, ?_, ?_⟩ (by simp only; omega) ?_
          · simp only [List.length_append, hl1, List.length_drop, List.length_cons, List.length_nil]; omega
          · simp only; rw [hf]; simp only [List.length_append, List.length_cons, List.length_nil]; omega
          · simp only; rw [hf]
            rw [List.take_append_of_le_length (by simp only [List.length_append, hl1, List.length_cons, List.length_nil]; omega), List.take_of_length_le (by simp only [List.length_append, hl1, List.length_cons, List.length_nil]; omega), h5]
            simp [vint]
          · simp only
            rw [List.drop_append, List.drop_eq_nil_of_le (by simp only [List.length_append, hl1, List.length_cons, List.length_nil]; omega), List.nil_append, List.drop_drop, ← hdn]
            congr 1
            simp only [List.length_append, hl1, List.length_cons, List.length_nil]; omega
          · simp only [hf, List.length_append, List.length_cons, List.length_nil]; rfl
        · have hf := filter_take (q := fun e => !p e) hx
          simp only [hpc, Bool.not_true, Bool.false_eq_true, if_false] at hf
          refine run ?_
          refine round (j + 1, cs) ⟨by omega, by omega, h3, ?_, ?_, hdn⟩ (by simp only; omega) ?_
          · simp only; rw [hf]; omega
          · simp only; rw [hf]; exact h5
          · simp only [hf]; rfl
      · have hj' : j = l.length := by omega
        subst hj'
        simp only [List.take_length] at h4 h5
        have htl : l.take l.length = l := List.take_length
        refine runW htl ?_
        by_cases hz : l.filter (fun e => !p e) = []
        · rw [if_pos hz]
          have hz' : (l.filter (fun e => !p e)).length = 0 := by rw [hz]; rfl
          refine runW hz' ?_
          rw [hz]
          exact finM0 (.refl _)
        · rw [if_neg hz]
          have hz' : 0 < (l.filter (fun e => !p e)).length := List.length_pos_iff.2 hz
          refine runW h5 ?_
          exact finM0 (.refl _)
    · simp only [hkl]; rfl
theorem den_delInt0 (f : FuncId) (cap : List V) : Den Tryz.prog T 30 [ints [], .func f cap] (ints []) := by
  refine den_of_body follows (fun args w => Tryz.call30 args w) Tryz.func30 rfl 42 rfl ?_
  refine run ?_
  refine call (den_ixInt [] f cap (fun _ => false) (by simp) (by simp)) ?_
  have h : ix (fun _ => false) ([] : List Int) = -1 := rfl
  refine runW h ?_
  exact fin rfl
/-- comparing a local row -/
theorem denM_eqInts (a b : List Int) (ha : a.length ≤ 1048576) (h0 : a ≠ []) : DenM Tryz.prog T 19 (a.map vint) [.s 999999 0 a.length 1, .v (ints b)] (a.map vint) (.v (vb (decide (a = b)))) := by
  have hlen : 0 < a.length := List.length_pos_iff.2 h0
  refine denM_of_body follows (fun args w => Tryz.call19 args w) Tryz.func19 rfl 26 rfl rfl ?_
  by_cases hl : a.length = b.length
  · refine run ?_
    refine loop ⟨[0, 1, 12, 13], [999999], [], []⟩ (fun k : Nat => k ≤ a.length ∧ (a = b ↔ a.drop k = b.drop k)) (fun k => a.length - k)
      (fun k => ⟨26, [(0, .s 999999 0 a.length 1), (1, .v (ints b)), (12, .v (vi a.length)), (13, .v (vi k))], [(999999, .var (a.map vint))], []⟩) 0 ⟨by omega, by simp⟩ ?_
    rintro k ⟨hk, hall⟩
    by_cases hlt : k < a.length
    · obtain ⟨x, hx, hd, -⟩ := drop_at hlt
      obtain ⟨y, hy, he, -⟩ := drop_at (l := b) (k := k) (by omega)
      have hd' : (a.map vint).drop k = vi x :: (a.drop (k + 1)).map vint := by rw [← List.map_drop, hd]; rfl
      by_cases hxy : x = y
      · subst hxy
        refine runW (And.intro hd' hy) ?_
        exact round (k + 1) ⟨by omega, by rw [hall, eq_drop hd he]; simp⟩ (by omega)
      · refine runW (And.intro hd' hy) ?_
        refine finM0 (.v (.of (vb_eq ?_)))
        symm
        rw [decide_eq_false_iff_not, hall, eq_drop hd he]
        simp [hxy]
    · refine run ?_
      refine finM0 (.v (.of (vb_eq ?_)))
      symm; rw [decide_eq_true_iff, hall, drop_end hlt, drop_end (l := b) (by omega)]
  · refine run ?_
    refine finM0 (.v (.of (vb_eq ?_)))
    symm
    rw [decide_eq_false_iff_not]
    intro h
    exact hl (by rw [h])
theorem den_cloneFil (l : List Fil) (hl : l.length ≤ 1048576) : DenO Tryz.prog T 21 [fils l] 30 (fils l) := by
  refine denO_of_body follows (fun args w => Tryz.call21 args w) Tryz.func21 rfl 8 rfl ?_
  cases l with
  | nil =>
    refine run ?_
    intro b
    cases b
    · refine run ?_
      exact finO (.refl _)
    · refine run ?_
      exact finO (.nil 8)
  | cons x r =>
    have h : r.length + 1 ≤ 1048576 := hl
    have e : fils (x :: r) = .slice 8 (x.cs :: r.map Fil.cs) := rfl
    rw [e]
    refine run ?_
    exact finO (.refl _)

theorem fitSnocH {l : List Hld} {h : Hld} (hl : FitsH l) (hh : h.Fit) : ∀ x ∈ l ++ [h], x.Fit := fun x hx => by
  rcases List.mem_append.1 hx with hx | hx
  · exact hl.2 x hx
  · simp at hx; subst hx; exact hh
theorem fitSnocF {l : List Fil} {f : Fil} (hl : FitsF l) (hh : f.Fit) : ∀ x ∈ l ++ [f], x.Fit := fun x hx => by
  rcases List.mem_append.1 hx with hx | hx
  · exact hl.2 x hx
  · simp at hx; subst hx; exact hh
set_option maxRecDepth 100000 in
theorem den_HoldLists (L : LibC T) (os : List Ofc) (ps : List Plan) (l : List Hld) (h : Hld) (fs : List Fil) (f : Fil) (d : Int) (ho : FitsO os) (hp : Fits ps) (hl : FitsH l) (hh : h.Fit) (hfs : FitsF fs) (hf : f.Fit) :
    Den Tryz.prog T 6 [ofcs os, plans ps, hlds l, .agg h.cs, fils fs, .agg f.cs, vi d] (vb true) := by
  have hl0 := hl.1
  have hf0 := hfs.1
  have hal : l.map Hld.cs ++ [h.cs] = (l ++ [h]).map Hld.cs := by simp
  have haf : fs.map Fil.cs ++ [f.cs] = (fs ++ [f]).map Fil.cs := by simp
  have hln := hold_len os ps l f d
  have hcn := cov_len os ps h fs d
  refine den_of_body follows (fun args w => Tryz.call6 args w) Tryz.func6 rfl 59 rfl ?_
  refine run ?_
  refine call (den_awake10 L) ?_
  refine runD True.intro ?_
  refine aw_chn [20, 23, 25, 28] 14 ?_
  refine run ?_
  refine callO (den_cloneHld l hl0) ?_
  refine runW hal ?_
  refine callO (den_cloneFil fs hf0) ?_
  refine runW haf ?_
  refine call (den_few102 os ps (l ++ [h]) (fs ++ [f]) ho hp (by simp; omega) (fitSnocH hl hh) (by simp; omega) (fitSnocF hfs hf)) ?_
  cases few10 os ps (l ++ [h]) (fs ++ [f])
  · refine run ?_
    exact fin rfl
  refine run ?_
  refine call (den_Holding L os ps l f d ho hp hl hf).den ?_
  refine run ?_
  refine call (den_HoldingRef os ps l f d ho hp hl hf).den ?_
  refine run ?_
  refine call (den_sameInts (holding os ps l f d) (holding os ps l f d) (by omega)) ?_
  rw [decide_eq_true rfl]
  refine run ?_
  refine call (den_Covered L os ps h fs d ho hp hh hfs).den ?_
  refine run ?_
  refine call (den_CoveredRef os ps h fs d ho hp hh hfs).den ?_
  refine run ?_
  refine call (den_sameInts (covered os ps h fs d) (covered os ps h fs d) (by omega)) ?_
  rw [decide_eq_true rfl]
  refine run ?_
  exact fin rfl

theorem den_rel1 (y n : Int) : Den Tryz.prog T 31 [vi y, .row [vi n]] (vb (decide (y = n))) := by
  refine den_of_body follows (fun args w => Tryz.call31 args w) Tryz.func31 rfl 7 rfl ?_
  refine run ?_
  exact fin rfl
theorem flatI : ∀ (l : List Int), ∀ e ∈ l.map Cint, ∀ c ∈ e, c.flat = true := by
  intro l e he c hc
  obtain ⟨n, -, rfl⟩ := List.mem_map.1 he
  simp only [Cint, List.mem_cons, List.mem_nil_iff, or_false] at hc
  subst hc; rfl
theorem denN_Holding (L : LibC T) (os : List Ofc) (ps : List Plan) (l : List Hld) (f : Fil) (d : Int) (ho : FitsO os) (hp : Fits ps) (hl : FitsH l) (hf : f.Fit) :
    DenN Tryz.prog T 18 [ofcs os, plans ps, hlds l, .agg f.cs, vi d] 1 ((holding os ps l f d).map Cint) :=
  (den_Holding L os ps l f d ho hp hl hf).new (by kernel_rfl) (by decide) (flatI _)
theorem cutH_fit {l : List Hld} (hl : FitsH l) (i : Nat) (d : Int) : FitsH (cutH l i d) := by
  refine ⟨by rw [cutH_len]; exact hl.1, fun x hx => ?_⟩
  unfold cutH at hx
  split at hx
  · rename_i h hi
    rcases List.mem_or_eq_of_mem_set hx with hx | rfl
    · exact hl.2 x hx
    · exact hl.2 h (List.mem_of_getElem? hi)
  · exact hl.2 x hx
set_option maxRecDepth 100000 in
theorem den_HoldReleased (L : LibC T) (os : List Ofc) (ps : List Plan) (l : List Hld) (n e : Int) (f : Fil) (d : Int) (ho : FitsO os) (hp : Fits ps) (hl : FitsH l) (hf : f.Fit) :
    Den Tryz.prog T 8 [ofcs os, plans ps, hlds l, vi n, vi e, .agg f.cs, vi d] (vb true) := by
  have hl0 := hl.1
  refine den_of_body follows (fun args w => Tryz.call8 args w) Tryz.func8 rfl 79 rfl ?_
  refine run ?_
  refine call (den_awake10 L) ?_
  refine run ?_
  refine call (den_few10 os ps l [f] ho hp hl (fit1 hf)) ?_
  cases few10 os ps l [f]
  · refine run ?_
    exact fin rfl
  refine run ?_
  refine call (den_Release L l n e hl) ?_
  by_cases hg0 : ¬ goodH l = true
  · rw [relV_e (e := 1) (relE_1 (by simpa using hg0)) (by decide)]
    refine run ?_
    exact fin rfl
  have hg : goodH l = true := Decidable.not_not.1 hg0
  rcases findH_cases l n with h7 | ⟨i, x, hi, hlt, hx, hid⟩
  · rw [relV_e (relE_7 hg h7) (by decide)]
    refine run ?_
    exact fin rfl
  by_cases a1 : e ≤ x.frm ∨ x.til < e
  · rw [relV_e (relE_2 hg hi hx a1) (by decide)]
    refine run ?_
    exact fin rfl
  rw [relV_0 (relE_0 hg hi hx a1) hi]
  have hc := cutH_good hg hx (d := e) (by omega) (by omega)
  have hfc := cutH_fit hl i e
  have hlc := cutH_len l i e
  have hcut := holding_cut (os := os) (ps := ps) (f := f) (d := d) hg hx (e := e) (by omega) (by omega)
  have hcc := den_CheckH (T := T) L (cutH l i e) hfc
  rw [hc] at hcc
  have hlm := hold_len os ps l f d
  by_cases hde : d < e
  · rw [if_pos hde] at hcut
    refine run ?_
    refine call hcc ?_
    refine runW hlc ?_
    refine call (den_Holding L os ps l f d ho hp hl hf).den ?_
    refine run ?_
    refine call (den_Holding L os ps (cutH l i e) f d ho hp hfc hf).den ?_
    refine run ?_
    refine call (den_eqInts (holding os ps l f d) (holding os ps (cutH l i e) f d) (by omega)) ?_
    rw [hcut, decide_eq_true rfl]
    refine run ?_
    exact fin rfl
  · rw [if_neg hde] at hcut
    refine run ?_
    refine call hcc ?_
    refine runD hlc ?_
    refine aw_chn [61, 67] 14 ?_
    refine run ?_
    have hcut' : holding os ps (cutH l i e) f d = (holding os ps l f d).filter fun y => !decide (y = n) := by rw [hcut, hid]
    refine callN (denN_Holding L os ps l f d ho hp hl hf) (fun hz => ?_) (fun hz => ?_)
    · have hz' : holding os ps l f d = [] := by simpa using hz
      rw [hz'] at hcut'
      refine run ?_
      refine call (den_Holding L os ps (cutH l i e) f d ho hp hfc hf).den ?_
      rw [hcut']
      refine run ?_
      refine call (den_delInt0 _ _) ?_
      refine run ?_
      refine call (den_eqInts [] [] (by decide)) ?_
      refine run ?_
      exact fin rfl
    · have hz' : holding os ps l f d ≠ [] := fun e => hz (by rw [e]; rfl)
      rw [flat_ints]
      refine run ?_
      refine call (den_Holding L os ps (cutH l i e) f d ho hp hfc hf).den ?_
      rw [hcut']
      generalize holding os ps l f d = A at hz' hlm
      have hlen : (A.map Cint).length = A.length := by simp
      refine runW hlen ?_
      refine callM 61 (denM_delInt A _ _ (fun y => decide (y = n)) (by omega) hz' fun y _ => den_rel1 y n) ?_
      by_cases hne : (A.filter fun y => !decide (y = n)) = []
      · rw [if_pos hne, hne]
        refine run ?_
        refine call (den_eqInts [] [] (by decide)) ?_
        refine run ?_
        exact fin rfl
      · rw [if_neg hne]
        have hll : (A.filter fun y => !decide (y = n)).length ≤ A.length := List.length_filter_le _ _
        refine run ?_
        refine callM 61 (denM_eqInts (A.filter fun y => !decide (y = n)) (A.filter fun y => !decide (y = n)) (by omega) hne) ?_
        rw [decide_eq_true rfl]
        refine run ?_
        exact fin rfl
end Go.Arc


namespace Go.Arc
open Go.Ab Go.RowKit Go.Proofs
variable {T : Lay}

/-! what an office reaches -/
abbrev Kk := Option (TypeId × Nat × Nat)
theorem denS_ixIs (l : List Int) (x : Int) (kk : Kk) (hl : l.length ≤ 1048576) (h0 : 0 < l.length) :
    DenS Tryz.prog T 53 [(999000, .var (l.map vint) none kk)] [] [.s 999000 0 l.length 1, .v (vi x)] [(999000, .var (l.map vint) none kk)] [] (.v (vi (ix (fun y => decide (x = y)) l))) := by
  refine denS_of_body follows (fun args w => Tryz.call53 args w) Tryz.func53 rfl 19 rfl rfl ?_
  refine run ?_
  refine loop ⟨[0, 1, 7, 8], [999000], [], []⟩ (fun k : Nat => k ≤ l.length ∧ ∀ n ∈ l.take k, decide (x = n) = false) (fun k => l.length - k)
    (fun k => ⟨19, [(0, .s 999000 0 l.length 1), (1, .v (vi x)), (7, .v (vi l.length)), (8, .v (vi k))], [(999000, .var (l.map vint) none kk)], []⟩) 0 ⟨by omega, by simp⟩ ?_
  rintro k ⟨hk, hall⟩
  by_cases hlt : k < l.length
  · obtain ⟨y, hy, hd, -⟩ := drop_at hlt
    have hd' : (l.map vint).drop k = vi y :: (l.drop (k + 1)).map vint := by rw [← List.map_drop, hd]; rfl
    by_cases hxy : x = y
    · refine runW hd' ?_
      exact finS1 (.v (.of (vi_eq (ix_at (p := fun n => decide (x = n)) hall hy (by simp [hxy])))))
    · refine runW hd' ?_
      exact round (k + 1) ⟨by omega, take_snoc (q := fun n : Int => decide (x = n) = false) hall hy (by simp [hxy])⟩ (by omega)
  · refine run ?_
    exact finS1 (.v (.of (vi_eq (ix_none (p := fun n => decide (x = n)) hall hlt))))
theorem denS_hasIs (l : List Int) (x : Int) (kk : Kk) (hl : l.length ≤ 1048576) (h0 : 0 < l.length) :
    DenS Tryz.prog T 17 [(999000, .var (l.map vint) none kk)] [] [.s 999000 0 l.length 1, .v (vi x)] [(999000, .var (l.map vint) none kk)] [] (.v (vb (l.any fun y => decide (x = y)))) := by
  refine denS_of_body follows (fun args w => Tryz.call17 args w) Tryz.func17 rfl 9 rfl rfl ?_
  refine run ?_
  refine callS [(999000, 999000)] (denS_ixIs l x kk hl h0) (.cons (.s rfl) (.cons (.v _) .nil)) ?_ ?_
  · intro x hx
    simp only [List.mem_singleton] at hx
    subst hx
    exact ⟨999000, _, rfl, rfl, rfl, .inl rfl, rfl⟩
  refine run ?_
  exact finS1 (.v (.of (vb_eq (ix_ge _ l))))
end Go.Arc


namespace Go.Arc
open Go.Ab Go.RowKit Go.Proofs
variable {T : Lay}

/-- the slice in the cell of what has been come to -/
def outV (out : List Int) (r cap : Nat) : V := if out = [] then .val (.slice none 0 0) else .val (.slice (some ⟨r, 0, none⟩) out.length cap)
def visV (a b c : Nat) : V := .func 69 [.val (.pointer (some ⟨a, 0, none⟩)), .val (.pointer (some ⟨b, 0, none⟩)), .val (.pointer (some ⟨c, 0, none⟩))]
def visH (l : List Ofc) (a b c : Nat) (v : V) : List (Nat × Blk) := [(999000, .var [v] (some a)), (999001, .var [mapO (idxO l)] (some b)), (999002, .var [visV a b c] (some c))]
def rowB (out : List Int) (r cap : Nat) : Blk := .var (out.map vint) (some r) (some (3, 1, cap))
def rowO (out : List Int) (r cap : Nat) : Option Blk := if out = [] then none else some (rowB out r cap)
structure okN (a b c : Nat) (out : List Int) (r cap : Nat) : Prop where
  a : r ≠ a
  b : r ≠ b
  c : r ≠ c
  l : out.length ≤ cap
  m : cap ≤ maxLen
def PostR (l : List Ofc) (a b c : Nat) (out : List Int) (ks : List (Nat × Blk)) (k : Blk) (v : V) : Prop :=
  out ≠ [] ∧ ∃ r cap, okN a b c out r cap ∧ ks = visH l a b c (outV out r cap) ∧ k = rowB out r cap ∧ v = .tup []

theorem take_succ_foldl {α β : Type} {g : α → β → α} {l : List β} {k : Nat} {x : β} {a : α} (h : l[k]? = some x) : (l.take (k + 1)).foldl g a = g ((l.take k).foldl g a) x := by
  obtain ⟨hlt, rfl⟩ := List.getElem?_eq_some_iff.1 h
  rw [List.take_succ_eq_append_getElem hlt, List.foldl_append]; rfl
theorem outV_nil (r cap : Nat) : outV [] r cap = .val (.slice none 0 0) := rfl
theorem outV_ne {out : List Int} (h : out ≠ []) (r cap : Nat) : outV out r cap = .val (.slice (some ⟨r, 0, none⟩) out.length cap) := if_neg h

set_option maxRecDepth 100000 in
set_option maxHeartbeats 1000000 in
theorem den_visit (l : List Ofc) (hl : FitsO l) (hg : goodO l = true) (a b c : Nat) : ∀ (f : Nat) (out : List Int) (n : Int) (r cap : Nat), deepO l f n → okR l out → (out ≠ [] → okN a b c out r cap) →
    DenV Tryz.prog T 69 (visH l a b c (outV out r cap)) 999050 (rowO out r cap) [.v (vi n), .p 999000 0, .p 999001 0, .p 999002 0] (PostR l a b c (vis l f out n)) := by
  intro f
  induction f with
  | zero => intro out n r cap hd; exact absurd (deepO_pos hg hd) (Nat.lt_irrefl _)
  | succ f ih =>
    intro out n r cap hd hok hn
    have hlen := okR_len hok
    have hl0 := hl.1
    by_cases h0 : out = []
    · subst h0
      refine denV_of_body follows (fun args w => Tryz.call69 args w) Tryz.func69 rfl 27 rfl rfl ?_ ?_
      · simp only [outV_nil, visH, rowO, rowL, if_true, List.append_nil]
        refine run ?_
        refine callW (den_hasInt [] n (by simp)) (.cons (.nil 1) (.cons (.refl _) .nil)) ?_
        have e0 : (([] : List Int).any fun y => decide (n = y)) = false := rfl
        refine runB e0 ?_
        refine appO_r ?_
        unfold appR
        refine run ?_
        intro r' cap' hnm h1 h2
        simp only [Nat.zero_add, List.length_cons, List.length_nil] at h1
        have ha : r' ≠ a := fun he => hnm 999000 _ a rfl rfl he.symm
        have hb : r' ≠ b := fun he => hnm 999001 _ b rfl rfl he.symm
        have hc : r' ≠ c := fun he => hnm 999002 _ c rfl rfl he.symm
        obtain ⟨o0, ho0, -⟩ := id hd
        have hd0 := hd
        have hfx : o0.nxt.length ≤ 1048576 := (hl.2 o0 (List.mem_of_find?_eq_some ho0)).2
        have hz := zip_fst_snd (entsO (idxO l))
        have hf0 := find_entsO n (idxO l)
        rw [look_idx, ho0] at hf0
        refine run ?_
        refine And.intro rfl ?_
        refine runW (And.intro hz (And.intro hf0 (And.intro okVal_O ofVal_O))) ?_
        refine loop ⟨[3, 17, 18, 19], [999000, 999001, 999002, 13], [], []⟩ (fun y : Nat × List Int × Nat × Nat => y.1 ≤ o0.nxt.length ∧ y.2.1 = (o0.nxt.take y.1).foldl (vis l f) [n] ∧ okR l y.2.1 ∧ y.2.1 ≠ [] ∧ okN a b c y.2.1 y.2.2.1 y.2.2.2) (fun y => o0.nxt.length - y.1)
          (fun y => ⟨27, [(3, .p 999002 0), (17, .v (ints o0.nxt)), (18, .v (vi o0.nxt.length)), (19, .v (vi y.1))], [(999000, .var [.val (.slice (some ⟨y.2.2.1, 0, none⟩) y.2.1.length y.2.2.2)] (some a)), (999001, .var [mapO (idxO l)] (some b)), (999002, .var [visV a b c] (some c)), (13, rowB y.2.1 y.2.2.1 y.2.2.2)], []⟩) (0, [n], r', cap') ?_ ?_
        · exact ⟨Nat.zero_le _, rfl, okR_snoc (okR_nil l) rfl (by rw [ho0]; rfl), by simp, ⟨ha, hb, hc, h1, h2⟩⟩
        rintro ⟨k, out, r2, cap2⟩ ⟨hk, hout, hok2, hne, hN⟩
        simp only at hk hout hok2 hne hN
        by_cases hlt : k < o0.nxt.length
        · obtain ⟨m, hm, hd, hmm⟩ := drop_at hlt
          have hv : visV a b c = .func 69 [.val (.pointer (some ⟨a, 0, none⟩)), .val (.pointer (some ⟨b, 0, none⟩)), .val (.pointer (some ⟨c, 0, none⟩))] := rfl
          refine runW (And.intro hm hv) ?_
          have hdm : deepO l f m := deepO_next hg hd0 m (by unfold nxtO; rw [ho0]; exact hmm)
          have hih := ih out m r2 cap2 hdm hok2 (fun _ => hN)
          rw [outV_ne hne, show rowO out r2 cap2 = some (rowB out r2 cap2) from if_neg hne] at hih
          refine callX (callV ⟨[(999000, 999000), (999001, 999001), (999002, 999002)], 999050, 13, _, _, _, _, hih, .cons (.v _) (.cons (.pn rfl rfl) (.cons (.pn rfl rfl) (.cons (.pn rfl rfl) .nil))), rfl, rfl, ?_, (fun h => nomatch h), (by show (13 : Nat) < 27; decide), ?_⟩)
          · intro x hx
            simp only [visH, rowL, List.cons_append, List.nil_append, List.mem_cons, List.not_mem_nil, or_false] at hx
            rcases hx with rfl | rfl | rfl | rfl
            · exact ⟨999000, _, rfl, rfl, rfl, .inr rfl, rfl⟩
            · exact ⟨999001, _, rfl, rfl, rfl, .inr rfl, rfl⟩
            · exact ⟨999002, _, rfl, rfl, rfl, .inr rfl, rfl⟩
            · exact ⟨13, _, rfl, rfl, rfl, .inr rfl, rfl⟩
          rintro ks bb v ⟨hne', r3, cap3, hN3, rfl, rfl, rfl⟩
          refine ⟨rfl, fun hnm2 => ?_⟩
          rw [outV_ne hne']
          simp only [visH, setbs, setb, lk, look_cons', unH_cons, unH_nil, unT_v, unT_p, unT_nil, Nat.reduceEqDiff, ↓reduceIte, Blk.wn, Blk.nm, remK, remBs, hasC_nil, cond_false]
          refine run ?_
          refine round (k + 1, vis l f out m, r3, cap3) ⟨by simp only; omega, ?_, ?_, hne', hN3⟩ (by simp only; omega)
          · simp only
            rw [hout, take_succ_foldl hm]
          · exact (vis_ok hg f out m hdm hok2).1
        · refine run ?_
          have hkl : k = o0.nxt.length := by omega
          have hvis : vis l (f + 1) [] n = out := by
            have hnx : nxtO l n = o0.nxt := by unfold nxtO; rw [ho0]
            rw [hout, hkl, List.take_length, ← hnx]
            rfl
          rw [hvis]
          refine finVr (ks := visH l a b c (outV out r2 cap2)) (i := 13) (cs := out.map vint) (nm := some r2) (kk := some (3, 1, cap2)) (r := .tup []) (r' := .tup []) ⟨hne, r2, cap2, hN, rfl, rfl, rfl⟩ ?_ rfl (by simp [visH]) (.refl _) rfl (fun _ h => nomatch h)
          intro x hx
          rw [outV_ne hne] at hx
          simp only [visH, List.mem_cons, List.not_mem_nil, or_false] at hx
          rcases hx with rfl | rfl | rfl
          · exact ⟨_, _, _, rfl, rfl⟩
          · exact ⟨_, _, _, rfl, rfl⟩
          · exact ⟨_, _, _, rfl, rfl⟩
      · rintro ks k v ⟨_, r', cap', _, rfl, _, _⟩
        exact ⟨rfl, rfl⟩
    · have hN := hn h0
      have hp := List.length_pos_iff.2 h0
      rw [show rowO out r cap = some (rowB out r cap) from if_neg h0, outV_ne h0]
      refine denV_of_body follows (fun args w => Tryz.call69 args w) Tryz.func69 rfl 27 rfl rfl ?_ ?_
      · simp only [visH, rowL, rowB, List.cons_append, List.nil_append]
        refine run ?_
        refine callX (callS [(999000, 999050)] (denS_hasIs out n (some (3, 1, cap)) (by omega) hp) (.cons (.sn rfl rfl hN.l hN.m hp) (.cons (.v _) .nil)) ?_ ?_)
        · intro x hx
          simp only [List.mem_singleton] at hx
          subst hx
          exact ⟨999050, _, rfl, rfl, rfl, .inl rfl, rfl⟩
        cases hh : out.any fun y => decide (n = y)
        · refine runB hh ?_
          refine appO_r ?_
          unfold appR
          refine runB (And.intro (eq_false hN.a) (And.intro (eq_false hN.b) (eq_false hN.c))) ?_
          refine ⟨hN.l, ⟨by omega, by omega⟩, .inr trivial, ?_⟩
          intro r' cap' hnm h1 h2
          have e1 : out.map vint ++ [[vi n]].flatten = (out ++ [n]).map vint := by simp [vint]
          have e2 : out.length + [[vi n]].length = (out ++ [n]).length := by simp
          rw [e1, e2]
          rw [e2] at h1
          obtain ⟨out1, ho1⟩ : ∃ o1, out ++ [n] = o1 := ⟨_, rfl⟩
          have ha : r' ≠ a := fun he => hnm 999000 _ a rfl rfl he.symm
          have hb : r' ≠ b := fun he => hnm 999001 _ b rfl rfl he.symm
          have hc : r' ≠ c := fun he => hnm 999002 _ c rfl rfl he.symm
          obtain ⟨o0, ho0, -⟩ := id hd
          have hok1 : okR l out1 := by rw [← ho1]; exact okR_snoc hok hh (by rw [ho0]; rfl)
          have hne1 : out1 ≠ [] := by rw [← ho1]; simp
          rw [ho1] at h1
          rw [ho1]
          have hz := zip_fst_snd (entsO (idxO l))
          have hf0 := find_entsO n (idxO l)
          rw [look_idx, ho0] at hf0
          have hd0 := hd
          have hfx : o0.nxt.length ≤ 1048576 := (hl.2 o0 (List.mem_of_find?_eq_some ho0)).2
          refine run ?_
          refine And.intro rfl ?_
          refine runW (And.intro hz (And.intro hf0 (And.intro okVal_O ofVal_O))) ?_
          refine loop ⟨[3, 17, 18, 19], [999000, 999001, 999002, 13], [], []⟩ (fun y : Nat × List Int × Nat × Nat => y.1 ≤ o0.nxt.length ∧ y.2.1 = (o0.nxt.take y.1).foldl (vis l f) out1 ∧ okR l y.2.1 ∧ y.2.1 ≠ [] ∧ okN a b c y.2.1 y.2.2.1 y.2.2.2) (fun y => o0.nxt.length - y.1)
            (fun y => ⟨27, [(3, .p 999002 0), (17, .v (ints o0.nxt)), (18, .v (vi o0.nxt.length)), (19, .v (vi y.1))], [(999000, .var [.val (.slice (some ⟨y.2.2.1, 0, none⟩) y.2.1.length y.2.2.2)] (some a)), (999001, .var [mapO (idxO l)] (some b)), (999002, .var [visV a b c] (some c)), (13, rowB y.2.1 y.2.2.1 y.2.2.2)], []⟩) (0, out1, r', cap') ?_ ?_
          · exact ⟨Nat.zero_le _, rfl, hok1, hne1, ⟨ha, hb, hc, h1, h2⟩⟩
          rintro ⟨k, out2, r2, cap2⟩ ⟨hk, hout, hok2, hne, hN2⟩
          simp only at hk hout hok2 hne hN2
          by_cases hlt : k < o0.nxt.length
          · obtain ⟨m, hm, hd, hmm⟩ := drop_at hlt
            have hv : visV a b c = .func 69 [.val (.pointer (some ⟨a, 0, none⟩)), .val (.pointer (some ⟨b, 0, none⟩)), .val (.pointer (some ⟨c, 0, none⟩))] := rfl
            refine runW (And.intro hm hv) ?_
            have hdm : deepO l f m := deepO_next hg hd0 m (by unfold nxtO; rw [ho0]; exact hmm)
            have hih := ih out2 m r2 cap2 hdm hok2 (fun _ => hN2)
            rw [outV_ne hne, show rowO out2 r2 cap2 = some (rowB out2 r2 cap2) from if_neg hne] at hih
            refine callX (callV ⟨[(999000, 999000), (999001, 999001), (999002, 999002)], 999050, 13, _, _, _, _, hih, .cons (.v _) (.cons (.pn rfl rfl) (.cons (.pn rfl rfl) (.cons (.pn rfl rfl) .nil))), rfl, rfl, ?_, (fun h => nomatch h), (by show (13 : Nat) < 27; decide), ?_⟩)
            · intro x hx
              simp only [visH, rowL, List.cons_append, List.nil_append, List.mem_cons, List.not_mem_nil, or_false] at hx
              rcases hx with rfl | rfl | rfl | rfl
              · exact ⟨999000, _, rfl, rfl, rfl, .inr rfl, rfl⟩
              · exact ⟨999001, _, rfl, rfl, rfl, .inr rfl, rfl⟩
              · exact ⟨999002, _, rfl, rfl, rfl, .inr rfl, rfl⟩
              · exact ⟨13, _, rfl, rfl, rfl, .inr rfl, rfl⟩
            rintro ks bb v ⟨hne', r3, cap3, hN3, rfl, rfl, rfl⟩
            refine ⟨rfl, fun hnm2 => ?_⟩
            rw [outV_ne hne']
            simp only [visH, setbs, setb, lk, look_cons', unH_cons, unH_nil, unT_v, unT_p, unT_nil, Nat.reduceEqDiff, ↓reduceIte, Blk.wn, Blk.nm, remK, remBs, hasC_nil, cond_false]
            refine run ?_
            refine round (k + 1, vis l f out2 m, r3, cap3) ⟨by simp only; omega, ?_, ?_, hne', hN3⟩ (by simp only; omega)
            · simp only
              rw [hout, take_succ_foldl hm]
            · exact (vis_ok hg f out2 m hdm hok2).1
          · refine run ?_
            have hkl : k = o0.nxt.length := by omega
            have hvis : vis l (f + 1) out n = out2 := by
              have hnx : nxtO l n = o0.nxt := by unfold nxtO; rw [ho0]
              rw [hout, hkl, List.take_length, ← hnx, ← ho1]
              unfold vis
              exact if_neg (by rw [show hasI out n = _ from hh]; simp)
            rw [hvis]
            refine finVr (ks := visH l a b c (outV out2 r2 cap2)) (i := 13) (cs := out2.map vint) (nm := some r2) (kk := some (3, 1, cap2)) (r := .tup []) (r' := .tup []) ⟨hne, r2, cap2, hN2, rfl, rfl, rfl⟩ ?_ rfl (by simp [visH]) (.refl _) rfl (fun _ h => nomatch h)
            intro x hx
            rw [outV_ne hne] at hx
            simp only [visH, List.mem_cons, List.not_mem_nil, or_false] at hx
            rcases hx with rfl | rfl | rfl
            · exact ⟨_, _, _, rfl, rfl⟩
            · exact ⟨_, _, _, rfl, rfl⟩
            · exact ⟨_, _, _, rfl, rfl⟩
        · refine runB hh ?_
          have hvis : vis l (f + 1) out n = out := by
            unfold vis
            exact if_pos hh
          rw [hvis]
          refine finVr (ks := visH l a b c (outV out r cap)) (i := 999050) (cs := out.map vint) (nm := some r) (kk := some (3, 1, cap)) (r := .tup []) (r' := .tup []) ⟨h0, r, cap, hN, rfl, rfl, rfl⟩ ?_ rfl (by simp [visH]) (.refl _) rfl (fun _ h => nomatch h)
          intro x hx
          rw [outV_ne h0] at hx
          simp only [visH, List.mem_cons, List.not_mem_nil, or_false] at hx
          rcases hx with rfl | rfl | rfl
          · exact ⟨_, _, _, rfl, rfl⟩
          · exact ⟨_, _, _, rfl, rfl⟩
          · exact ⟨_, _, _, rfl, rfl⟩
      · rintro ks k v ⟨_, r', cap', _, rfl, _, _⟩
        exact ⟨rfl, rfl⟩
end Go.Arc


namespace Go.Arc
open Go.Ab Go.RowKit Go.Proofs
variable {T : Lay}

theorem denS_sortI (zs : List Int) (kk : Kk) (hl : zs.length ≤ 1048576) :
    DenS Tryz.prog T 70 [(999000, .var (zs.map vint) none kk)] [] [.s 999000 0 zs.length 1] [(999000, .var ((sortI zs).map vint) none kk)] [] (.v (.tup [])) :=
  denS_sort (fun args w => Tryz.call70 args w) (fun blk cap zs w hH hb hz => Any.slices_Sort_int Tryz.lays189 blk 0 cap zs w hH hb hz) zs kk hl
theorem ints_chunk (l : List Int) : chunk 0 l.length 1 (l.map vint) = l.map Cint := chunk_one vint l

set_option maxRecDepth 100000 in
set_option maxHeartbeats 1000000 in
theorem den_Reach (L : LibC T) (l : List Ofc) (n : Int) (hl : FitsO l) : Den Tryz.prog T 35 [ofcs l, vi n] (ints (reach l n)) := by
  have hl0 := hl.1
  refine den_of_body follows (fun args w => Tryz.call35 args w) Tryz.func35 rfl 24 rfl ?_
  refine run ?_
  refine call (den_known L l n hl) ?_
  by_cases hk : goodO l = true ∧ (lookO l n).isSome = true
  · obtain ⟨hg, hs⟩ := hk
    rw [knownV, if_pos ⟨hg, hs⟩]
    obtain ⟨o0, ho0⟩ := Option.isSome_iff_exists.1 hs
    rw [reach_some hg ho0]
    have hd := deepO_top hg ho0
    have hok := (vis_ok hg _ _ _ hd (okR_nil l)).1
    have hlen := okR_len hok
    refine runMk trivial ?_
    refine aw_name 5 ?_
    intro b hb5
    clear hb5
    refine aw_name 7 ?_
    intro a ha7
    have hba : b ≠ a := ha7 5 _ b rfl rfl (by decide) (Option.some_ne_none _)
    clear ha7
    refine aw_name 8 ?_
    intro c hc8
    have hbc : b ≠ c := hc8 5 _ b rfl rfl (by decide) (Option.some_ne_none _)
    have hac : a ≠ c := hc8 7 _ a rfl rfl (by decide) (Option.some_ne_none _)
    clear hc8
    have hv : visV a b c = .func 69 [.val (.pointer (some ⟨a, 0, none⟩)), .val (.pointer (some ⟨b, 0, none⟩)), .val (.pointer (some ⟨c, 0, none⟩))] := rfl
    refine run ?_
    have hih := den_visit (T := T) l hl hg a b c 1048577 [] n 0 0 hd (okR_nil l) (fun h => absurd rfl h)
    refine callX (callV ⟨[(999000, 7), (999001, 5), (999002, 8)], 999050, 23, _, _, _, _, hih, .cons (.v _) (.cons (.pn rfl rfl) (.cons (.pn rfl rfl) (.cons (.pn rfl rfl) .nil))), rfl, rfl, ?_, (fun _ => rfl), (by show (23 : Nat) < 24; decide), ?_⟩)
    · intro x hx
      simp only [visH, rowL, rowO, if_true, List.append_nil, List.mem_cons, List.not_mem_nil, or_false] at hx
      rcases hx with rfl | rfl | rfl
      · exact ⟨7, _, rfl, rfl, rfl, .inr rfl, rfl⟩
      · exact ⟨5, _, rfl, rfl, rfl, .inr rfl, rfl⟩
      · exact ⟨8, _, rfl, rfl, rfl, .inr rfl, rfl⟩
    rintro ks bb v ⟨hne, r, cap, hN, rfl, rfl, rfl⟩
    refine ⟨rfl, fun hnm2 => ?_⟩
    obtain ⟨out, hout⟩ : ∃ o, vis l 1048577 [] n = o := ⟨_, rfl⟩
    rw [hout] at hne hN hlen
    rw [hout, outV_ne hne]
    have hp := List.length_pos_iff.2 hne
    simp only [visH, rowB, setbs, setb, lk, look_cons', unH_cons, unH_nil, unT_v, unT_p, unT_nil, Nat.reduceEqDiff, ↓reduceIte, Blk.wn, Blk.nm, remK, remBs, hasC_nil, cond_false]
    refine run ?_
    refine callX (callS [(999000, 23)] (denS_sortI out (some (3, 1, cap)) (by omega)) (.cons (.sn rfl rfl hN.l hN.m hp) .nil) ?_ ?_)
    · intro x hx
      simp only [List.mem_singleton] at hx
      subst hx
      exact ⟨23, _, rfl, rfl, rfl, .inl rfl, rfl⟩
    refine run ?_
    refine finFr (id := 23) (r := r) (n := out.length) (cap := cap) (e := 3) (size := 1) (cs := (sortI out).map vint) ?_ hN.l ?_ ?_ 
    · rw [← sortI_len out, ints_chunk]
      exact .refl _
    · rw [List.length_map, sortI_len]; omega
    · simp [findN, findK, Blk.nm, nmOf, look_cons']
  · rw [knownV, if_neg hk]
    have hc : reach l n = [] := by
      cases hg : goodO l
      · exact reach_bad hg
      · cases hs : lookO l n with
        | none => exact reach_none hs
        | some q => exact absurd ⟨hg, by simp [hs]⟩ hk
    rw [hc]
    refine run ?_
    refine And.intro rfl ?_
    refine run ?_
    exact .inl ⟨.val (.slice none 0 0), rfl, Wk.nil 1⟩
end Go.Arc


namespace Go.Arc
open Go.Ab Go.RowKit Go.Proofs
variable {T : Lay}

abbrev heirV (l : List Ofc) (n d : Int) : V := match heirO l n d with
  | some x => .tup [vi x, vb true]
  | none => .tup [vi 0, vb false]
set_option maxRecDepth 100000 in
theorem den_Heir (L : LibC T) (l : List Ofc) (n d : Int) (hl : FitsO l) : Den Tryz.prog T 34 [ofcs l, vi n, vi d] (heirV l n d) := by
  have hl0 := hl.1
  have hcl := chain_len l n d
  refine den_of_body follows (fun args w => Tryz.call34 args w) Tryz.func34 rfl 33 rfl ?_
  refine run ?_
  refine call (den_Chain L l n d hl).den ?_
  unfold heirV
  by_cases h0 : chain l n d = []
  · rw [heir_nil h0, h0]
    refine run ?_
    exact fin rfl
  · obtain ⟨hg, hs⟩ := chain_good h0
    have hp := List.length_pos_iff.2 h0
    obtain ⟨x, hx, -, hmem⟩ := drop_at (l := chain l n d) (k := (chain l n d).length - 1) (by omega)
    obtain ⟨o, ho⟩ := Option.isSome_iff_exists.1 (chain_known hg hs x hmem)
    rw [heir_cons hx ho]
    obtain ⟨c, hc⟩ : ∃ c, chain l n d = c := ⟨_, rfl⟩
    rw [hc] at hx hp hcl
    rw [hc]
    refine runW hx ?_
    refine call (den_FindO l x hl0) ?_
    rcases findO_look l x with ⟨h1, h2⟩ | ⟨i, o', h1, h2, h3⟩
    · rw [ho] at h2; cases h2
    · rw [ho] at h3; cases h3
      have hi := (List.getElem?_eq_some_iff.1 h2).1
      rw [h1]
      refine runW h2 ?_
      refine call (den_inO o d) ?_
      cases hin : inS o.frm o.til d
      · refine run ?_
        exact fin rfl
      · refine run ?_
        exact fin rfl

/-! the law -/
theorem own_any {l : List Int} {x : Int} (h : x ∈ l) : (l.any fun y => decide (x = y)) = true := by simp [h]
theorem covers_own {os : List Ofc} {ps : List Plan} {h : Hld} {f : Fil} {d x : Int} (hx : x ∈ chain os f.ofc d) : covers os ps { h with kind := 2, obj := x } f d = inS h.frm h.til d := by
  unfold covers
  rw [kindB_2 (h := { h with kind := 2, obj := x }) rfl]
  simp only [own_any hx, Bool.and_true]
theorem covers_reach {os : List Ofc} (hg : goodO os = true) {ps : List Plan} {h : Hld} {f : Fil} {d : Int} (hc : covers os ps { h with kind := 2 } f d = true) : ((reach os f.ofc).any fun y => decide (h.obj = y)) = true := by
  unfold covers at hc
  rw [kindB_2 (h := { h with kind := 2 }) rfl] at hc
  simp only [Bool.and_eq_true, List.any_eq_true, decide_eq_true_eq] at hc
  obtain ⟨-, y, hy, e⟩ := hc
  exact own_any (chain_reach hg _ (by rw [e]; exact hy))
set_option maxRecDepth 100000 in
set_option maxHeartbeats 1000000 in
theorem den_HoldHeirs (L : LibC T) (os : List Ofc) (ps : List Plan) (h : Hld) (f : Fil) (d : Int) (ho : FitsO os) (hp : Fits ps) (hh : h.Fit) (hf : f.Fit) :
    Den Tryz.prog T 9 [ofcs os, plans ps, .agg h.cs, .agg f.cs, vi d] (vb true) := by
  refine den_of_body follows (fun args w => Tryz.call9 args w) Tryz.func9 rfl 104 rfl ?_
  refine run ?_
  refine call (den_awake10 L) ?_
  refine run ?_
  refine call (den_few10 os ps [h] [f] ho hp (fitH1 hh) (fit1 hf)) ?_
  cases few10 os ps [h] [f]
  · refine run ?_
    exact fin rfl
  refine run ?_
  refine call (den_FindO os f.ofc ho.1) ?_
  rcases findO_look os f.ofc with ⟨h1, h2⟩ | ⟨i, o, h1, h2, h3⟩
  · refine run ?_
    exact fin rfl
  rw [h1]
  refine run ?_
  refine call (den_CheckO L os ho) ?_
  by_cases g1 : (checkO os).2 = 0
  · have hg : goodO os = true := by simp [goodO, g1]
    have hs : (lookO os f.ofc).isSome = true := by rw [h3]; rfl
    have c1 := den_Covers (T := T) L os ps { h with kind := 2, obj := f.ofc } f d ho hp hh hf
    rw [covers_own (chain_own hg hs)] at c1
    have c3 := den_Covers (T := T) L os ps { h with kind := 2 } f d ho hp hh hf
    have hcf : ((reach os f.ofc).any fun y => decide (h.obj = y)) = false → covers os ps { h with kind := 2 } f d = false := fun hr => by
      cases hc : covers os ps { h with kind := 2 } f d
      · rfl
      · rw [covers_reach hg hc] at hr; cases hr
    have hrl : (reach os f.ofc).length ≤ 1048576 := Nat.le_trans (reach_len os f.ofc) (by decide)
    have e1 : inS h.frm h.til d = (decide (h.frm ≤ d) && decide (d < h.til)) := by simp [inS]
    by_cases h4 : h.frm ≤ d
    · by_cases h5 : d < h.til
      · have hB : inS h.frm h.til d = true := by rw [e1]; simp [h4, h5]
        rw [hB] at c1
        refine runD h4 ?_
        refine aw_tree (.one 0 (.one 2 (.alt 1 (.alt 3 (.one 4 (.alt 5 .done .nil)) .nil) (.alt 3 (.alt 1 (.one 4 (.alt 5 .done .nil)) .nil) .nil)))) ?_
        refine runTree h4 ?_
        refine run ?_
        refine call c1 ?_
        refine run ?_
        refine call (den_Heir L os f.ofc d ho) ?_
        unfold heirV
        cases he : heirO os f.ofc d with
        | none =>
          refine run ?_
          refine call (den_Reach L os f.ofc ho) ?_
          refine run ?_
          refine call (den_hasInt _ h.obj hrl) ?_
          cases hr : (reach os f.ofc).any fun y => decide (h.obj = y)
          · rw [hcf hr] at c3
            refine run ?_
            refine call c3 ?_
            refine run ?_
            exact fin rfl
          · refine run ?_
            exact fin rfl
        | some x =>
          have c2 := den_Covers (T := T) L os ps { h with kind := 2, obj := x } f d ho hp hh hf
          rw [covers_own (heir_chain he), hB] at c2
          refine run ?_
          refine call c2 ?_
          refine run ?_
          refine call (den_Reach L os f.ofc ho) ?_
          refine run ?_
          refine call (den_hasInt _ h.obj hrl) ?_
          cases hr : (reach os f.ofc).any fun y => decide (h.obj = y)
          · rw [hcf hr] at c3
            refine run ?_
            refine call c3 ?_
            refine run ?_
            exact fin rfl
          · refine run ?_
            exact fin rfl
      · have hB : inS h.frm h.til d = false := by rw [e1]; simp [h4, h5]
        rw [hB] at c1
        refine runD h4 ?_
        refine aw_tree (.one 0 (.one 2 (.alt 1 (.alt 3 (.one 4 (.alt 5 .done .nil)) .nil) (.alt 3 (.alt 1 (.one 4 (.alt 5 .done .nil)) .nil) .nil)))) ?_
        refine runTree h4 ?_
        refine run ?_
        refine call c1 ?_
        refine run ?_
        refine call (den_Heir L os f.ofc d ho) ?_
        unfold heirV
        cases he : heirO os f.ofc d with
        | none =>
          refine run ?_
          refine call (den_Reach L os f.ofc ho) ?_
          refine run ?_
          refine call (den_hasInt _ h.obj hrl) ?_
          cases hr : (reach os f.ofc).any fun y => decide (h.obj = y)
          · rw [hcf hr] at c3
            refine run ?_
            refine call c3 ?_
            refine run ?_
            exact fin rfl
          · refine run ?_
            exact fin rfl
        | some x =>
          have c2 := den_Covers (T := T) L os ps { h with kind := 2, obj := x } f d ho hp hh hf
          rw [covers_own (heir_chain he), hB] at c2
          refine run ?_
          refine call c2 ?_
          refine run ?_
          refine call (den_Reach L os f.ofc ho) ?_
          refine run ?_
          refine call (den_hasInt _ h.obj hrl) ?_
          cases hr : (reach os f.ofc).any fun y => decide (h.obj = y)
          · rw [hcf hr] at c3
            refine run ?_
            refine call c3 ?_
            refine run ?_
            exact fin rfl
          · refine run ?_
            exact fin rfl
    · have hB : inS h.frm h.til d = false := by rw [e1]; simp [h4]
      rw [hB] at c1
      refine runD h4 ?_
      refine aw_tree (.one 0 (.one 2 (.alt 1 (.alt 3 (.one 4 (.alt 5 .done .nil)) .nil) (.alt 3 (.alt 1 (.one 4 (.alt 5 .done .nil)) .nil) .nil)))) ?_
      refine runTree h4 ?_
      refine run ?_
      refine call c1 ?_
      refine run ?_
      refine call (den_Heir L os f.ofc d ho) ?_
      unfold heirV
      cases he : heirO os f.ofc d with
      | none =>
        refine run ?_
        refine call (den_Reach L os f.ofc ho) ?_
        refine run ?_
        refine call (den_hasInt _ h.obj hrl) ?_
        cases hr : (reach os f.ofc).any fun y => decide (h.obj = y)
        · rw [hcf hr] at c3
          refine run ?_
          refine call c3 ?_
          refine run ?_
          exact fin rfl
        · refine run ?_
          exact fin rfl
      | some x =>
        have c2 := den_Covers (T := T) L os ps { h with kind := 2, obj := x } f d ho hp hh hf
        rw [covers_own (heir_chain he), hB] at c2
        refine run ?_
        refine call c2 ?_
        refine run ?_
        refine call (den_Reach L os f.ofc ho) ?_
        refine run ?_
        refine call (den_hasInt _ h.obj hrl) ?_
        cases hr : (reach os f.ofc).any fun y => decide (h.obj = y)
        · rw [hcf hr] at c3
          refine run ?_
          refine call c3 ?_
          refine run ?_
          exact fin rfl
        · refine run ?_
          exact fin rfl
  · refine run ?_
    exact fin rfl
end Go.Arc
