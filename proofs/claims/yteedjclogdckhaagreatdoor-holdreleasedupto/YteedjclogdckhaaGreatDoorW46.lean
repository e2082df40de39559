/-
  Contracts of functions of the program, each by a walk through its code, for all arguments within the bounds that the statements name.
-/
import Derived.Test.YteedjclogdckhaaGreatDoorW45
namespace Go.Arc
open Go.Ab Go.RowKit Go.Proofs
variable {T : Lay}

/-! lists of numbers: deleting, comparing -/
def vint (x : Int) : V := vi x
theorem flat_ints : ∀ l : List Int, (l.map Cint).flatten = l.map vint
  | [] => rfl
  | x :: l => by rw [List.map_cons, List.flatten_cons, flat_ints l]; rfl
/-- the same on a local row: nothing is written -/
theorem denM_ixInt (l : List Int) (f : FuncId) (cap : List V) (p : Int → Bool) (hl : l.length ≤ 1048576) (hp : ∀ e ∈ l, Den Tryz.prog T f (vi e :: cap) (vb (p e))) :
   DenM Tryz.prog T 60 (l.map vint) [.s 999999 0 l.length 1, .v (.func f cap)] (l.map vint) (.v (vi (ix p l))) := by
  refine denM_of_body follows (fun args w => Tryz.call60 args w) Tryz.func60 rfl 19 rfl rfl ?_
  refine run ?_
  refine loop ⟨[0, 1, 7, 8], [999999], [], []⟩ (fun k : Nat => k ≤ l.length ∧ ∀ e ∈ l.take k, p e = false) (fun k => l.length - k)
    (fun k => ⟨19, [(0, .s 999999 0 l.length 1), (1, .v (.func f cap)), (7, .v (vi l.length)), (8, .v (vi k))], [(999999, .var (l.map vint))], []⟩) 0 ⟨by omega, by simp⟩ ?_
  rintro k ⟨hk, hall⟩
  by_cases hlt : k < l.length
  · obtain ⟨x, hx, hd, hm⟩ := drop_at hlt
    have hd' : (l.map vint).drop k = vi x :: (l.drop (k + 1)).map vint := by rw [← List.map_drop, hd]; rfl
    refine runW hd' ?_
    refine call (hp x hm) ?_
    cases hpc : p x
    · refine run ?_
      exact round (k + 1) ⟨by omega, take_snoc hall hx hpc⟩ (by omega)
    · refine run ?_
      exact finM0 (.v (.of (vi_eq (ix_at hall hx hpc))))
  · refine run ?_
    exact finM0 (.v (.of (vi_eq (ix_none hall hlt))))
theorem denM_delInt (l : List Int) (f : FuncId) (cap : List V) (p : Int → Bool) (hl : l.length ≤ 1048576) (h0 : l ≠ []) (hp : ∀ e ∈ l, Den Tryz.prog T f (vi e :: cap) (vb (p e))) :
   DenM Tryz.prog T 30 (l.map vint) [.s 999999 0 l.length 1, .v (.func f cap)] ((l.filter fun e => !p e).map vint)
     (if l.filter (fun e => !p e) = [] then .v (.slice 1 []) else .s 999999 0 (l.filter fun e => !p e).length 1) := by
  have hlen : 0 < l.length := List.length_pos_iff.2 h0
  refine denM_of_body follows (fun args w => Tryz.call30 args w) Tryz.func30 rfl 42 rfl rfl ?_
  refine run ?_
  refine callM 999999 (denM_ixInt l f cap p hl hp) ?_
  rcases hix : l.findIdx? p with _ | i
  · have hi : ix p l = -1 := by simp [ix, hix]
    have hf : l.filter (fun e => !p e) = l := by
      rw [List.filter_eq_self]
      intro e he
      simp [List.findIdx?_eq_none_iff.1 hix e he]
    rw [hi, hf, if_neg h0]
    refine run ?_
    exact finM0 (.refl _)
  · obtain ⟨hlt, hpi, hbef⟩ := List.findIdx?_eq_some_iff_getElem.1 hix
    have hi : ix p l = i := by simp [ix, hix]
    rw [hi]
    refine run ?_
    have hfi : ((l.take (i + 1)).filter fun e => !p e) = l.take i := by
      rw [filter_take (List.getElem?_eq_getElem hlt), if_neg (by simp [hpi]), List.filter_eq_self]
      intro e he
      obtain ⟨j, hj, rfl⟩ := List.mem_iff_getElem.1 he
      simp only [List.length_take] at hj
      simp [hbef j (by omega)]
    have hkl : ((l.take (i + 1)).filter fun e => !p e).length = i := by rw [hfi]; simp; omega
    refine loop ⟨[0, 1, 5, 6], [999999], [], []⟩ (fun y : Nat × List V => i + 1 ≤ y.1 ∧ y.1 ≤ l.length ∧ y.2.length = l.length ∧ ((l.take y.1).filter fun e => !p e).length < y.1 ∧
        y.2.take ((l.take y.1).filter fun e => !p e).length = ((l.take y.1).filter fun e => !p e).map vint ∧ y.2.drop y.1 = (l.drop y.1).map vint) (fun y => l.length - y.1)
      (fun y => ⟨42, [(0, .s 999999 0 l.length 1), (1, .v (.func f cap)), (5, .v (vi ((l.take y.1).filter fun e => !p e).length)), (6, .v (vi y.1))], [(999999, .var y.2)], []⟩) (i + 1, l.map vint) ?_ ?_ ?_
    · refine ⟨by simp, by simp; omega, by simp, ?_, ?_, by simp⟩
      · simp only; rw [hfi]; simp; omega
      · simp only; rw [hfi]; simp [Nat.min_eq_left (Nat.le_of_lt hlt)]
    · rintro ⟨j, cs⟩ ⟨h1, h2, h3, h4, h5, h6⟩
      simp only at h1 h2 h3 h4 h5 h6
      by_cases hj : j < l.length
      · obtain ⟨x, hx, hd, hm⟩ := drop_at hj
        have hd' : cs.drop j = vi x :: (l.drop (j + 1)).map vint := by rw [h6, hd]; rfl
        refine runW hd' ?_
        refine call (hp x hm) ?_
        have hdn : cs.drop (j + 1) = (l.drop (j + 1)).map vint := by
          have := congrArg List.tail hd'
          simpa using this
        cases hpc : p x
        · have hf := filter_take (q := fun e => !p e) hx
          simp only [hpc, Bool.not_false, if_true] at hf
          refine run ?_
          have hl1 : (cs.take ((l.take j).filter fun e => !p e).length).length = ((l.take j).filter fun e => !p e).length := by rw [List.length_take]; omega
          refine round (j + 1, cs.take ((l.take j).filter fun e => !p e).length ++ [vi x] ++ cs.drop (((l.take j).filter fun e => !p e).length + 1)) ⟨by simp only; omega, by simp only; omega, ?_, ?_, ?_, ?_⟩ (by simp only; omega) ?_
          · simp only [List.length_append, hl1, List.length_drop, List.length_cons, List.length_nil]; omega
          · simp only; rw [hf]; simp only [List.length_append, List.length_cons, List.length_nil]; omega
          · simp only; rw [hf]
            rw [List.take_append_of_le_length (by simp only [List.length_append, hl1, List.length_cons, List.length_nil]; omega), List.take_of_length_le (by simp only [List.length_append, hl1, List.length_cons, List.length_nil]; omega), h5]
            simp [vint]
          · simp only
            rw [List.drop_append, List.drop_eq_nil_of_le (by simp only [List.length_append, hl1, List.length_cons, List.length_nil]; omega), List.nil_append, List.drop_drop, ← hdn]
            congr 1
            simp only [List.length_append, hl1, List.length_cons, List.length_nil]; omega
          · simp only [hf, List.length_append, List.length_cons, List.length_nil]; rfl
        · have hf := filter_take (q := fun e => !p e) hx
          simp only [hpc, Bool.not_true, Bool.false_eq_true, if_false] at hf
          refine run ?_
          refine round (j + 1, cs) ⟨by omega, by omega, h3, ?_, ?_, hdn⟩ (by simp only; omega) ?_
          · simp only; rw [hf]; omega
          · simp only; rw [hf]; exact h5
          · simp only [hf]; rfl
      · have hj' : j = l.length := by omega
        subst hj'
        simp only [List.take_length] at h4 h5
        have htl : l.take l.length = l := List.take_length
        refine runW htl ?_
        by_cases hz : l.filter (fun e => !p e) = []
        · rw [if_pos hz]
          have hz' : (l.filter (fun e => !p e)).length = 0 := by rw [hz]; rfl
          refine runW hz' ?_
          rw [hz]
          exact finM0 (.refl _)
        · rw [if_neg hz]
          have hz' : 0 < (l.filter (fun e => !p e)).length := List.length_pos_iff.2 hz
          refine runW h5 ?_
          exact finM0 (.refl _)
    · simp only [hkl]; rfl
theorem den_delInt0 (f : FuncId) (cap : List V) : Den Tryz.prog T 30 [ints [], .func f cap] (ints []) := by
  refine den_of_body follows (fun args w => Tryz.call30 args w) Tryz.func30 rfl 42 rfl ?_
  refine run ?_
  refine call (den_ixInt [] f cap (fun _ => false) (by simp) (by simp)) ?_
  have h : ix (fun _ => false) ([] : List Int) = -1 := rfl
  refine runW h ?_
  exact fin rfl
/-- comparing a local row -/
theorem denM_eqInts (a b : List Int) (ha : a.length ≤ 1048576) (h0 : a ≠ []) : DenM Tryz.prog T 19 (a.map vint) [.s 999999 0 a.length 1, .v (ints b)] (a.map vint) (.v (vb (decide (a = b)))) := by
  have hlen : 0 < a.length := List.length_pos_iff.2 h0
  refine denM_of_body follows (fun args w => Tryz.call19 args w) Tryz.func19 rfl 26 rfl rfl ?_
  by_cases hl : a.length = b.length
  · refine run ?_
    refine loop ⟨[0, 1, 12, 13], [999999], [], []⟩ (fun k : Nat => k ≤ a.length ∧ (a = b ↔ a.drop k = b.drop k)) (fun k => a.length - k)
      (fun k => ⟨26, [(0, .s 999999 0 a.length 1), (1, .v (ints b)), (12, .v (vi a.length)), (13, .v (vi k))], [(999999, .var (a.map vint))], []⟩) 0 ⟨by omega, by simp⟩ ?_
    rintro k ⟨hk, hall⟩
    by_cases hlt : k < a.length
    · obtain ⟨x, hx, hd, -⟩ := drop_at hlt
      obtain ⟨y, hy, he, -⟩ := drop_at (l := b) (k := k) (by omega)
      have hd' : (a.map vint).drop k = vi x :: (a.drop (k + 1)).map vint := by rw [← List.map_drop, hd]; rfl
      by_cases hxy : x = y
      · subst hxy
        refine runW (And.intro hd' hy) ?_
        exact round (k + 1) ⟨by omega, by rw [hall, eq_drop hd he]; simp⟩ (by omega)
      · refine runW (And.intro hd' hy) ?_
        refine finM0 (.v (.of (vb_eq ?_)))
        symm
        rw [decide_eq_false_iff_not, hall, eq_drop hd he]
        simp [hxy]
    · refine run ?_
      refine finM0 (.v (.of (vb_eq ?_)))
      symm; rw [decide_eq_true_iff, hall, drop_end hlt, drop_end (l := b) (by omega)]
  · refine run ?_
    refine finM0 (.v (.of (vb_eq ?_)))
    symm
    rw [decide_eq_false_iff_not]
    intro h
    exact hl (by rw [h])
theorem den_cloneFil (l : List Fil) (hl : l.length ≤ 1048576) : DenO Tryz.prog T 21 [fils l] 30 (fils l) := by
  refine denO_of_body follows (fun args w => Tryz.call21 args w) Tryz.func21 rfl 8 rfl ?_
  cases l with
  | nil =>
    refine run ?_
    intro b
    cases b
    · refine run ?_
      exact finO (.refl _)
    · refine run ?_
      exact finO (.nil 8)
  | cons x r =>
    have h : r.length + 1 ≤ 1048576 := hl
    have e : fils (x :: r) = .slice 8 (x.cs :: r.map Fil.cs) := rfl
    rw [e]
    refine run ?_
    exact finO (.refl _)

theorem fitSnocH {l : List Hld} {h : Hld} (hl : FitsH l) (hh : h.Fit) : ∀ x ∈ l ++ [h], x.Fit := fun x hx => by
  rcases List.mem_append.1 hx with hx | hx
  · exact hl.2 x hx
  · simp at hx; subst hx; exact hh
theorem fitSnocF {l : List Fil} {f : Fil} (hl : FitsF l) (hh : f.Fit) : ∀ x ∈ l ++ [f], x.Fit := fun x hx => by
  rcases List.mem_append.1 hx with hx | hx
  · exact hl.2 x hx
  · simp at hx; subst hx; exact hh
set_option maxRecDepth 100000 in
theorem den_HoldLists (L : LibC T) (os : List Ofc) (ps : List Plan) (l : List Hld) (h : Hld) (fs : List Fil) (f : Fil) (d : Int) (ho : FitsO os) (hp : Fits ps) (hl : FitsH l) (hh : h.Fit) (hfs : FitsF fs) (hf : f.Fit) :
    Den Tryz.prog T 6 [ofcs os, plans ps, hlds l, .agg h.cs, fils fs, .agg f.cs, vi d] (vb true) := by
  have hl0 := hl.1
  have hf0 := hfs.1
  have hal : l.map Hld.cs ++ [h.cs] = (l ++ [h]).map Hld.cs := by simp
  have haf : fs.map Fil.cs ++ [f.cs] = (fs ++ [f]).map Fil.cs := by simp
  have hln := hold_len os ps l f d
  have hcn := cov_len os ps h fs d
  refine den_of_body follows (fun args w => Tryz.call6 args w) Tryz.func6 rfl 59 rfl ?_
  refine run ?_
  refine call (den_awake10 L) ?_
  refine runD True.intro ?_
  refine aw_chn [20, 23, 25, 28] 14 ?_
  refine run ?_
  refine callO (den_cloneHld l hl0) ?_
  refine runW hal ?_
  refine callO (den_cloneFil fs hf0) ?_
  refine runW haf ?_
  refine call (den_few102 os ps (l ++ [h]) (fs ++ [f]) ho hp (by simp; omega) (fitSnocH hl hh) (by simp; omega) (fitSnocF hfs hf)) ?_
  cases few10 os ps (l ++ [h]) (fs ++ [f])
  · refine run ?_
    exact fin rfl
  refine run ?_
  refine call (den_Holding L os ps l f d ho hp hl hf).den ?_
  refine run ?_
  refine call (den_HoldingRef os ps l f d ho hp hl hf).den ?_
  refine run ?_
  refine call (den_sameInts (holding os ps l f d) (holding os ps l f d) (by omega)) ?_
  rw [decide_eq_true rfl]
  refine run ?_
  refine call (den_Covered L os ps h fs d ho hp hh hfs).den ?_
  refine run ?_
  refine call (den_CoveredRef os ps h fs d ho hp hh hfs).den ?_
  refine run ?_
  refine call (den_sameInts (covered os ps h fs d) (covered os ps h fs d) (by omega)) ?_
  rw [decide_eq_true rfl]
  refine run ?_
  exact fin rfl

theorem den_rel1 (y n : Int) : Den Tryz.prog T 31 [vi y, .row [vi n]] (vb (decide (y = n))) := by
  refine den_of_body follows (fun args w => Tryz.call31 args w) Tryz.func31 rfl 7 rfl ?_
  refine run ?_
  exact fin rfl
theorem flatI : ∀ (l : List Int), ∀ e ∈ l.map Cint, ∀ c ∈ e, c.flat = true := by
  intro l e he c hc
  obtain ⟨n, -, rfl⟩ := List.mem_map.1 he
  simp only [Cint, List.mem_cons, List.mem_nil_iff, or_false] at hc
  subst hc; rfl
theorem denN_Holding (L : LibC T) (os : List Ofc) (ps : List Plan) (l : List Hld) (f : Fil) (d : Int) (ho : FitsO os) (hp : Fits ps) (hl : FitsH l) (hf : f.Fit) :
    DenN Tryz.prog T 18 [ofcs os, plans ps, hlds l, .agg f.cs, vi d] 1 ((holding os ps l f d).map Cint) :=
  (den_Holding L os ps l f d ho hp hl hf).new (by kernel_rfl) (by decide) (flatI _)
theorem cutH_fit {l : List Hld} (hl : FitsH l) (i : Nat) (d : Int) : FitsH (cutH l i d) := by
  refine ⟨by rw [cutH_len]; exact hl.1, fun x hx => ?_⟩
  unfold cutH at hx
  split at hx
  · rename_i h hi
    rcases List.mem_or_eq_of_mem_set hx with hx | rfl
    · exact hl.2 x hx
    · exact hl.2 h (List.mem_of_getElem? hi)
  · exact hl.2 x hx
set_option maxRecDepth 100000 in
theorem den_HoldReleased (L : LibC T) (os : List Ofc) (ps : List Plan) (l : List Hld) (n e : Int) (f : Fil) (d : Int) (ho : FitsO os) (hp : Fits ps) (hl : FitsH l) (hf : f.Fit) :
    Den Tryz.prog T 8 [ofcs os, plans ps, hlds l, vi n, vi e, .agg f.cs, vi d] (vb true) := by
  have hl0 := hl.1
  refine den_of_body follows (fun args w => Tryz.call8 args w) Tryz.func8 rfl 79 rfl ?_
  refine run ?_
  refine call (den_awake10 L) ?_
  refine run ?_
  refine call (den_few10 os ps l [f] ho hp hl (fit1 hf)) ?_
  cases few10 os ps l [f]
  · refine run ?_
    exact fin rfl
  refine run ?_
  refine call (den_Release L l n e hl) ?_
  by_cases hg0 : ¬ goodH l = true
  · rw [relV_e (e := 1) (relE_1 (by simpa using hg0)) (by decide)]
    refine run ?_
    exact fin rfl
  have hg : goodH l = true := Decidable.not_not.1 hg0
  rcases findH_cases l n with h7 | ⟨i, x, hi, hlt, hx, hid⟩
  · rw [relV_e (relE_7 hg h7) (by decide)]
    refine run ?_
    exact fin rfl
  by_cases a1 : e ≤ x.frm ∨ x.til < e
  · rw [relV_e (relE_2 hg hi hx a1) (by decide)]
    refine run ?_
    exact fin rfl
  rw [relV_0 (relE_0 hg hi hx a1) hi]
  have hc := cutH_good hg hx (d := e) (by omega) (by omega)
  have hfc := cutH_fit hl i e
  have hlc := cutH_len l i e
  have hcut := holding_cut (os := os) (ps := ps) (f := f) (d := d) hg hx (e := e) (by omega) (by omega)
  have hcc := den_CheckH (T := T) L (cutH l i e) hfc
  rw [hc] at hcc
  have hlm := hold_len os ps l f d
  by_cases hde : d < e
  · rw [if_pos hde] at hcut
    refine run ?_
    refine call hcc ?_
    refine runW hlc ?_
    refine call (den_Holding L os ps l f d ho hp hl hf).den ?_
    refine run ?_
    refine call (den_Holding L os ps (cutH l i e) f d ho hp hfc hf).den ?_
    refine run ?_
    refine call (den_eqInts (holding os ps l f d) (holding os ps (cutH l i e) f d) (by omega)) ?_
    rw [hcut, decide_eq_true rfl]
    refine run ?_
    exact fin rfl
  · rw [if_neg hde] at hcut
    refine run ?_
    refine call hcc ?_
    refine runD hlc ?_
    refine aw_chn [61, 67] 14 ?_
    refine run ?_
    have hcut' : holding os ps (cutH l i e) f d = (holding os ps l f d).filter fun y => !decide (y = n) := by rw [hcut, hid]
    refine callN (denN_Holding L os ps l f d ho hp hl hf) (fun hz => ?_) (fun hz => ?_)
    · have hz' : holding os ps l f d = [] := by simpa using hz
      rw [hz'] at hcut'
      refine run ?_
      refine call (den_Holding L os ps (cutH l i e) f d ho hp hfc hf).den ?_
      rw [hcut']
      refine run ?_
      refine call (den_delInt0 _ _) ?_
      refine run ?_
      refine call (den_eqInts [] [] (by decide)) ?_
      refine run ?_
      exact fin rfl
    · have hz' : holding os ps l f d ≠ [] := fun e => hz (by rw [e]; rfl)
      rw [flat_ints]
      refine run ?_
      refine call (den_Holding L os ps (cutH l i e) f d ho hp hfc hf).den ?_
      rw [hcut']
      generalize holding os ps l f d = A at hz' hlm
      have hlen : (A.map Cint).length = A.length := by simp
      refine runW hlen ?_
      refine callM 61 (denM_delInt A _ _ (fun y => decide (y = n)) (by omega) hz' fun y _ => den_rel1 y n) ?_
      by_cases hne : (A.filter fun y => !decide (y = n)) = []
      · rw [if_pos hne, hne]
        refine run ?_
        refine call (den_eqInts [] [] (by decide)) ?_
        refine run ?_
        exact fin rfl
      · rw [if_neg hne]
        have hll : (A.filter fun y => !decide (y = n)).length ≤ A.length := List.length_filter_le _ _
        refine run ?_
        refine callM 61 (denM_eqInts (A.filter fun y => !decide (y = n)) (A.filter fun y => !decide (y = n)) (by omega) hne) ?_
        rw [decide_eq_true rfl]
        refine run ?_
        exact fin rfl
end Go.Arc
