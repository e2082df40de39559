/-
  Contracts of functions of the program, each by a walk through its code, for all arguments within the bounds that the statements name.
-/
import Derived.Test.YtlhogcdjgimfpaaGreatDoorW13
namespace Go.Arc
open Go.Ab Go.RowKit Go.Proofs
variable {T : Lay}

theorem walkN_len {l : List Plan} (hl : Fits l) : ∀ (n i : Nat) (s : Str), s.length ≤ 1048576 → (walkN l i n s).length ≤ 1048576
  | 0, _, _, hs => hs
  | n + 1, i, _, hs => walkN_len hl n (i + 1) _ (nxt_len (pl_fit hl _) hs)
theorem follow_cases (l : List Plan) (f t : Int) (s : Str) : (∃ e, e ≠ 0 ∧ followV l f t s = .tup [.str [], vi e]) ∨ (versErr l f t = 0 ∧ has (pl l (f - 1).toNat) s = true ∧ followV l f t s = .tup [.str (walkI l f t s), vi 0]) := by
  by_cases hv : versErr l f t = 0
  · cases hh : has (pl l (f - 1).toNat) s
    · exact .inl ⟨7, by decide, by simp only [followV, followR_7 hv hh]⟩
    · exact .inr ⟨hv, rfl, by simp only [followV, followR_0 hv hh]⟩
  · exact .inl ⟨_, hv, by simp only [followV, followR_e hv]⟩

theorem den_PlanThrough (L : LibC T) (l : List Plan) (f m t : Int) (s : Str) (hl : Fits l) (hs : s.length ≤ 1048576) : Den Tryz.prog T 5 [plans l, vi f, vi m, vi t, .str s] (vb true) := by
  have hl0 := hl.1
  refine den_of_body follows (fun args w => Tryz.call5 args w) Tryz.func5 rfl 100 rfl ?_
  refine run ?_
  refine call (den_awake L) ?_
  refine run ?_
  refine call (den_Few l hl) ?_
  cases few l
  · refine run ?_
    exact fin rfl
  by_cases h100 : 100 < s.length
  · refine run ?_
    exact fin rfl
  refine run ?_
  refine call (den_FollowL L l f m s hl hs) ?_
  rcases follow_cases l f m s with ⟨e, he, hfv⟩ | ⟨v1, h1, hfv⟩
  · rw [hfv]
    refine run ?_
    exact fin rfl
  · rw [hfv]
    have ha : (walkI l f m s).length ≤ 1048576 := walkN_len hl _ _ _ hs
    obtain ⟨hg, a1, a2, a3⟩ := versErr_z v1
    refine run ?_
    refine call (den_FollowL L l m t (walkI l f m s) hl ha) ?_
    have hha := walkI_has v1 h1
    by_cases v2 : versErr l m t = 0
    · obtain ⟨-, b1, b2, b3⟩ := versErr_z v2
      have v3 : versErr l f t = 0 := versErr_0 hg (by omega)
      have e2 : followV l m t (walkI l f m s) = .tup [.str (walkI l f t s), vi 0] := by
        simp only [followV, followR_0 v2 hha, walkI_through v1 v2]
      have e3 : followV l f t s = .tup [.str (walkI l f t s), vi 0] := by
        simp only [followV, followR_0 v3 h1]
      rw [e2]
      refine run ?_
      refine call (den_FollowL L l f t s hl hs) ?_
      rw [e3]
      have hhc := walkI_has v3 h1
      obtain ⟨t, rfl⟩ := nat_of (show 1 ≤ t by omega)
      obtain ⟨p, hp, -, hm⟩ := drop_at (l := l) (k := t) (by omega)
      have et : (t : Int) + 1 - 1 = t := Int.add_sub_cancel _ _
      rw [et, Int.toNat_natCast, pl_at hp] at hhc
      refine runW (And.intro hp et) ?_
      refine call (den_Has p _ (hl.2 p hm).1) ?_
      rw [hhc]
      refine run ?_
      exact fin rfl
    · have hno : t < m ∨ l.length < t := by
        rcases Decidable.em (t < m ∨ l.length < t) with h | h
        · exact h
        · exact absurd (versErr_0 hg (show ¬(m < 1 ∨ t < m ∨ (l.length : Int) < t) by omega)) v2
      have e2 : followV l m t (walkI l f m s) = .tup [.str [], vi 7] := by
        simp only [followV, followR_e v2, versErr_7 hg (show m < 1 ∨ t < m ∨ (l.length : Int) < t by omega)]
      rw [e2]
      refine run ?_
      refine call (den_FollowL L l f t s hl hs) ?_
      by_cases h2 : t < m
      · refine run ?_
        exact fin rfl
      · have h3 : (l.length : Int) < t := by omega
        refine run ?_
        exact fin rfl

theorem den_Keeps1 (c : Mov) (s : Str) : Den Tryz.prog T 25 [.agg c.cs, .row [.str s]] (vb (c.frm == s)) := by
  refine den_of_body follows (fun args w => Tryz.call25 args w) Tryz.func25 rfl 8 rfl ?_
  refine run ?_
  exact fin rfl
theorem den_Keeps2 (c : Cls) (x s : Str) (hc : c.code.length ≤ 1048576) (hx : x.length ≤ 1048576) (hs : s.length ≤ 1048576) :
    Den Tryz.prog T 28 [.agg c.cs, .row [.str x], .row [.str s]] (vb (!(c.code == x) && within s c.code && within c.code x)) := by
  refine den_of_body follows (fun args w => Tryz.call28 args w) Tryz.func28 rfl 21 rfl ?_
  cases e : c.code == x
  · refine runW e ?_
    refine call (den_WithinRef s c.code hs hc) ?_
    cases within s c.code
    · refine run ?_
      exact fin rfl
    · refine run ?_
      refine call (den_WithinRef c.code x hc hx) ?_
      refine run ?_
      refine fin (vb_eq ?_)
      simp
  · refine runW e ?_
    exact fin rfl

theorem den_PlanKeeps (L : LibC T) (old new : Plan) (s : Str) (ho : old.Fit) (hn : new.Fit) (hs : s.length ≤ 1048576) : Den Tryz.prog T 7 [.agg old.cs, .agg new.cs, .str s] (vb true) := by
  refine den_of_body follows (fun args w => Tryz.call7 args w) Tryz.func7 rfl 88 rfl ?_
  refine run ?_
  refine call (den_awake L) ?_
  refine run ?_
  refine call (den_FewPlan old ho) ?_
  cases fewP old
  · refine run ?_
    exact fin rfl
  refine run ?_
  refine call (den_FewPlan new hn) ?_
  cases fewP new
  · refine run ?_
    exact fin rfl
  by_cases h100 : 100 < s.length
  · refine run ?_
    exact fin rfl
  refine run ?_
  refine call (den_Next L old new s ho hn hs) ?_
  cases hnx : next old new s with
  | none =>
    rw [nextV_n hnx]
    refine run ?_
    refine call (den_Has old s ho.1) ?_
    cases has old s
    · refine run ?_
      exact fin rfl
    · refine run ?_
      exact fin rfl
  | some x =>
    rw [nextV_s hnx]
    have hxl := next_len hn hs hnx
    have hh : has old s = true := by
      cases h : has old s
      · simp [next, h] at hnx
      · rfl
    refine run ?_
    refine call (den_Has old s ho.1) ?_
    rw [hh]
    refine run ?_
    refine call (den_ixMov new.mov _ _ (fun m => m.frm == s) hn.2.1 fun e _ => den_Keeps1 e s) ?_
    rcases ix_find (fun m : Mov => m.frm == s) new.mov with ⟨hi, hf⟩ | ⟨k, y, hi, hlt, hy, hf, -⟩
    · rw [hi]
      have hup : up new s = some x := by rw [← hnx]; simp [next, hh, hf]
      refine run ?_
      refine call (den_Has new s hn.1) ?_
      cases h2 : has new s
      · refine run ?_
        refine call (den_Has new x hn.1) ?_
        rw [up_has hup]
        obtain ⟨w1, w2, w3⟩ := up_within hup h2
        refine run ?_
        refine call (den_WithinRef s x hs hxl) ?_
        rw [w1]
        have w2' := beq_f w2
        refine runW w2' ?_
        refine call (den_anyCls new.cls _ _ (fun c => !(c.code == x) && within s c.code && within c.code x) hn.1 fun c hc => den_Keeps2 c x s (hn.2.2.1 c hc).1 hxl hs) ?_
        have hany : (new.cls.any fun c => !(c.code == x) && within s c.code && within c.code x) = false := by
          rw [List.any_eq_false]
          intro c hc
          have := w3 c hc
          simp only [Bool.and_eq_true, Bool.not_eq_true', beq_eq_false_iff_ne, ne_eq] at this ⊢
          rintro ⟨⟨q1, q2⟩, q3⟩
          exact this ⟨q1, q2, q3⟩
        rw [hany]
        refine run ?_
        exact fin rfl
      · have hx : x = s := by
          unfold up at hup
          rw [if_pos h2] at hup
          exact (Option.some.inj hup).symm
        subst hx
        refine run ?_
        exact fin rfl
    · rw [hi]
      have hx : x = y.to := by
        have : next old new s = some y.to := by simp [next, hh, hf]
        rw [this] at hnx
        exact (Option.some.inj hnx).symm
      subst hx
      refine runW hy ?_
      exact fin rfl

theorem atL_good {l : List Plan} (h : goodL l = true) (d : Int) : atL l d = idx l d := by simp [atL, h]
set_option maxRecDepth 100000 in
set_option maxHeartbeats 4000000 in
theorem den_PlanTime (L : LibC T) (l : List Plan) (a b : Int) (hl : Fits l) : Den Tryz.prog T 8 [plans l, vi a, vi b] (vb true) := by
  have hl0 := hl.1
  refine den_of_body follows (fun args w => Tryz.call8 args w) Tryz.func8 rfl 117 rfl ?_
  refine run ?_
  refine call (den_awake L) ?_
  refine run ?_
  refine call (den_CheckL L l hl) ?_
  refine run ?_
  refine call (den_Few l hl) ?_
  cases hfew : few l
  · refine run ?_
    refine call (den_AtL L l a hl) ?_
    by_cases h1 : atL l a = -1
    · refine run ?_
      exact fin rfl
    · refine run ?_
      refine call (den_Few l hl) ?_
      rw [hfew]
      refine run ?_
      exact fin rfl
  by_cases hc : (check l).2 = 0
  · have hg := (goodL_iff l).2 hc
    refine run ?_
    refine call (den_AtL L l a hl) ?_
    refine run ?_
    refine call (den_AtL L l b hl) ?_
    rw [atL_good hg, atL_good hg]
    have hb0 : ∃ k : Int, idx l b = k ∧ (k = -1 ∨ ∃ j : Nat, k = j ∧ j < l.length ∧ inS (pl l j).frm (pl l j).til b = true) := by
      rcases idx_cases l b with ⟨h, -⟩ | ⟨j, h, h2, h3⟩
      · exact ⟨_, h, .inl rfl⟩
      · exact ⟨_, h, .inr ⟨j, rfl, h2, h3⟩⟩
    obtain ⟨k, hk, hk2⟩ := hb0
    rw [hk]
    by_cases hlen : 0 < l.length
    · obtain ⟨p0, hp0, -, -⟩ := drop_at hlen
      obtain ⟨pn, hpn, -, -⟩ := drop_at (l := l) (k := l.length - 1) (by omega)
      have hin := idx_inside hg hlen a
      rw [pl_at hp0, pl_at hpn] at hin
      have z0 : ((0 : Int)).toNat = 0 := rfl
      rcases idx_cases l a with ⟨hi, -⟩ | ⟨i, hi, hil, hia⟩
      · rw [hi] at hin ⊢
        have hno : ¬(p0.frm ≤ a ∧ a < pn.til) := fun h => by have := hin.2 h; omega
        by_cases g1 : p0.frm ≤ a
        · have g2 : pn.til ≤ a := by omega
          by_cases hab : a ≤ b
          · refine runW (And.intro hp0 hpn) ?_
            exact fin rfl
          · refine runW (And.intro hp0 hpn) ?_
            exact fin rfl
        · by_cases hab : a ≤ b
          · refine runW (And.intro hp0 hpn) ?_
            exact fin rfl
          · refine runW (And.intro hp0 hpn) ?_
            exact fin rfl
      · rw [hi] at hin ⊢
        obtain ⟨g1, g2⟩ := hin.1 (by omega)
        have hpi := pl_some hil
        obtain ⟨s1, s2⟩ := inS_iff.1 hia
        by_cases hab : a ≤ b
        · rcases hk2 with rfl | ⟨j, rfl, hj, hjb⟩
          · refine runW (And.intro hp0 (And.intro hpn hpi)) ?_
            exact fin rfl
          · have hij := idx_mono hg hab hil hj hia hjb
            refine runW (And.intro hp0 (And.intro hpn hpi)) ?_
            exact fin rfl
        · refine runW (And.intro hp0 (And.intro hpn hpi)) ?_
          exact fin rfl
    · have hi : idx l a = -1 := by
        rcases idx_cases l a with ⟨h, -⟩ | ⟨i, -, h, -⟩
        · exact h
        · omega
      rw [hi]
      have hz : l.length = 0 := by omega
      by_cases hab : a ≤ b
      · refine runW hz ?_
        exact fin rfl
      · refine runW hz ?_
        exact fin rfl
  · have hg : goodL l = false := by simp [goodL, hc]
    have ha : atL l a = -1 := by simp [atL, hg]
    refine run ?_
    refine call (den_AtL L l a hl) ?_
    rw [ha]
    refine run ?_
    exact fin rfl
end Go.Arc
