/-
  Contracts of functions of the program, each by a walk through its code, for all arguments within the bounds that the statements name.
-/
import Derived.Test.YteedjclogdckhaaGreatDoorW43
namespace Go.Arc
open Go.Ab Go.RowKit Go.Proofs
variable {T : Lay}

/-! the example of the chapter -/
def xL : List Ofc := [⟨1, [65], 0, 100, [2]⟩, ⟨2, [66], 100, 1048576, []⟩]
def xF : Fil := ⟨9, 1, 0, 0, [], [], 0, []⟩
def xA : Hld := ⟨1, 2, 1, [], [82], 50, 200⟩
def xB : Hld := ⟨2, 2, 2, [], [82], 50, 200⟩
abbrev xLv : V := .slice 5 [[vi 1, .str [65], vi 0, vi 100, .slice 1 [[vi 2]]], [vi 2, .str [66], vi 100, vi 1048576, .val (.slice none 0 0)]]
abbrev xFv : V := .agg [vi 9, vi 1, vi 0, vi 0, .str [], .str [], vi 0, .val (.slice none 0 0)]
theorem xL_fit : FitsO xL := by
  refine ⟨by decide, fun o ho => ?_⟩
  simp only [xL, List.mem_cons, List.mem_nil_iff, or_false] at ho
  rcases ho with rfl | rfl <;> exact ⟨by decide, by decide⟩
theorem xF_fit : xF.Fit := ⟨by decide, by decide, by decide, fun n hn => by simp [xF] at hn⟩
theorem xA_fit : xA.Fit := ⟨by decide, by decide⟩
theorem xB_fit : xB.Fit := ⟨by decide, by decide⟩
theorem xH_fit : FitsH [xA, xB] := by
  refine ⟨by decide, fun h hh => ?_⟩
  simp only [List.mem_cons, List.mem_nil_iff, or_false] at hh
  rcases hh with rfl | rfl
  · exact xA_fit
  · exact xB_fit
theorem nil_fits : Fits [] := ⟨by simp, fun p hp => by cases hp⟩
theorem xL_wk : Wk xLv (ofcs xL) := by
  refine Wk.slice rfl (by intro e he; simp [xL] at he; rcases he with rfl | rfl <;> rfl) (by intro e he c hc; simp [xL] at he; rcases he with rfl | rfl <;> (simp at hc; rcases hc with rfl | rfl | rfl | rfl | rfl <;> rfl)) ?_
  intro i j e u v c h1 h2 h3 h4
  rcases i with _ | _ | i
  · simp only [xL, List.map_cons, List.getElem?_cons_zero, Option.some.injEq] at h1 h2
    subst h1 h2
    rcases j with _ | _ | _ | _ | _ | j <;> simp at h3 h4 <;> subst h3 h4 <;> exact .refl _
  · simp only [xL, List.map_cons, List.getElem?_cons_succ, List.getElem?_cons_zero, Option.some.injEq] at h1 h2
    subst h1 h2
    rcases j with _ | _ | _ | _ | _ | j <;> simp at h3 h4 <;> subst h3 h4 <;> first | exact .refl _ | exact .nil 1
  · simp [xL] at h2
theorem xF_wk : Wk xFv (.agg xF.cs) := by
  refine Wk.agg rfl (by intro c hc; simp [xF] at hc; rcases hc with rfl | rfl | rfl | rfl | rfl | rfl | rfl | rfl <;> rfl) ?_
  intro j v u h1 h2
  rcases j with _ | _ | _ | _ | _ | _ | _ | _ | j <;> simp [xF] at h1 h2 <;> subst h1 h2 <;> first | exact .refl _ | exact .nil 4
set_option maxRecDepth 100000 in
theorem den_awake10 (L : LibC T) : Den Tryz.prog T 10 [] (vb true) := by
  have c0 : Den Tryz.prog T 15 [.slice 7 [xA.cs, xB.cs]] (.tup [vi (-1), vi 0]) := by
    have := den_CheckH (T := T) L [xA, xB] xH_fit
    rwa [show checkH [xA, xB] = (-1, 0) by decide +kernel] at this
  have cv : ∀ (h : Hld) (d : Int) (b : Bool), h.Fit → covers xL [] h xF d = b → Den Tryz.prog T 12 [xLv, .val (.slice none 0 0), .agg h.cs, xFv, vi d] (vb b) := fun h d b hh hb => by
    have := (den_Covers (T := T) L xL [] h xF d xL_fit nil_fits hh xF_fit).wk (.cons xL_wk (.cons (.nil 5) (.cons (.refl _) (.cons xF_wk (.cons (.refl _) .nil)))))
    rwa [hb] at this
  have c1 := cv xA 150 true xA_fit (by decide +kernel)
  have c2 := cv xB 100 true xB_fit (by decide +kernel)
  have c3 := cv xB 99 false xB_fit (by decide +kernel)
  have c4 : Den Tryz.prog T 18 [xLv, .val (.slice none 0 0), .slice 7 [xA.cs, xB.cs], xFv, vi 99] (.slice 1 [[vi 1]]) := by
    have := ((den_Holding (T := T) L xL [] [xA, xB] xF 99 xL_fit nil_fits xH_fit xF_fit).wk (.cons xL_wk (.cons (.nil 5) (.cons (.refl _) (.cons xF_wk (.cons (.refl _) .nil)))))).den
    rwa [show holding xL [] [xA, xB] xF 99 = [1] by decide +kernel] at this
  have c5 : Den Tryz.prog T 19 [.slice 1 [[vi 1]], .slice 1 [[vi 1]]] (vb true) := den_eqInts (T := T) [1] [1] (by decide)
  simp only [xA, xB] at c0 c1 c2 c3 c4
  refine den_of_body follows (fun args w => Tryz.call10 args w) Tryz.func10 rfl 61 rfl ?_
  refine run ?_
  refine call c0 ?_
  refine run ?_
  refine call c1 ?_
  refine run ?_
  refine call c2 ?_
  refine run ?_
  refine call c3 ?_
  refine run ?_
  refine call c4 ?_
  refine run ?_
  refine call c5 ?_
  refine run ?_
  exact fin rfl

theorem den_HoldCovers (L : LibC T) (os : List Ofc) (ps : List Plan) (h : Hld) (f : Fil) (d : Int) (ho : FitsO os) (hp : Fits ps) (hh : h.Fit) (hf : f.Fit) :
    Den Tryz.prog T 3 [ofcs os, plans ps, .agg h.cs, .agg f.cs, vi d] (vb true) := by
  have c1 := den_Covers (T := T) L os ps h f d ho hp hh hf
  have c2 := den_CoversRef (T := T) os ps h f d ho hp hh hf
  refine den_of_body follows (fun args w => Tryz.call3 args w) Tryz.func3 rfl 36 rfl ?_
  refine run ?_
  refine call (den_awake10 L) ?_
  refine run ?_
  refine call (den_few10 os ps [h] [f] ho hp (fitH1 hh) (fit1 hf)) ?_
  cases few10 os ps [h] [f]
  · refine run ?_
    exact fin rfl
  generalize covers os ps h f d = b at c1 c2
  refine run ?_
  refine call c1 ?_
  refine run ?_
  refine call c2 ?_
  cases b <;>
  · refine run ?_
    exact fin rfl

theorem wider {os : List Ofc} {ps : List Plan} {h : Hld} {f : Fil} {d : Int} {u : Str} (hk : h.kind = 3) (hp : parent h.cls = some u) (hc : covers os ps h f d = true) : covers os ps { h with cls := u } f d = true := by
  unfold covers at hc ⊢
  rw [kindB_3 hk] at hc
  rw [kindB_3 (h := { h with cls := u }) hk]
  simp only [Bool.and_eq_true] at hc ⊢
  exact ⟨hc.1, hc.2.1, within_parent hc.2.2 hp⟩
theorem parent_fit {s u : Str} (h : parent s = some u) : u.length ≤ 1048576 := by
  obtain ⟨l, h1, h2, rfl, -⟩ := parent_some h
  obtain ⟨-, h6, -⟩ := parse_some h1
  have := fmt_len_le (l.take (l.length - 1))
  rw [List.length_take] at this
  omega
theorem in_span {os : List Ofc} {ps : List Plan} {h : Hld} {f : Fil} {d : Int} (hc : covers os ps h f d = true) : h.frm ≤ d ∧ d < h.til := by
  unfold covers at hc
  rw [inS_two] at hc
  simp only [Bool.and_eq_true, decide_eq_true_eq] at hc
  exact ⟨hc.1.1, hc.1.2⟩
set_option maxRecDepth 100000 in
theorem den_HoldWider (L : LibC T) (os : List Ofc) (ps : List Plan) (h : Hld) (f : Fil) (d : Int) (ho : FitsO os) (hp : Fits ps) (hh : h.Fit) (hf : f.Fit) :
    Den Tryz.prog T 4 [ofcs os, plans ps, .agg h.cs, .agg f.cs, vi d] (vb true) := by
  have c1 := den_Covers (T := T) L os ps h f d ho hp hh hf
  refine den_of_body follows (fun args w => Tryz.call4 args w) Tryz.func4 rfl 72 rfl ?_
  refine run ?_
  refine call (den_awake10 L) ?_
  refine run ?_
  refine call (den_few10 os ps [h] [f] ho hp (fitH1 hh) (fit1 hf)) ?_
  cases few10 os ps [h] [f]
  · refine run ?_
    exact fin rfl
  refine run ?_
  cases hc : covers os ps h f d
  · rw [hc] at c1
    refine call c1 ?_
    refine run ?_
    refine call (den_Parent L h.cls hh.1) ?_
    cases hpa : parent h.cls with
    | none =>
      rw [parentV_n hpa]
      by_cases hk : h.kind = 3
      · refine run ?_
        exact fin rfl
      · refine run ?_
        exact fin rfl
    | some u =>
      rw [parentV_s hpa]
      by_cases hk : h.kind = 3
      · refine run ?_
        exact fin rfl
      · refine run ?_
        exact fin rfl
  · rw [hc] at c1
    obtain ⟨s1, s2⟩ := in_span hc
    refine call c1 ?_
    refine run ?_
    refine call (den_Parent L h.cls hh.1) ?_
    cases hpa : parent h.cls with
    | none =>
      rw [parentV_n hpa]
      by_cases hk : h.kind = 3
      · refine run ?_
        exact fin rfl
      · refine run ?_
        exact fin rfl
    | some u =>
      rw [parentV_s hpa]
      by_cases hk : h.kind = 3
      · have c2 := den_Covers (T := T) L os ps { h with cls := u } f d ho hp ⟨parent_fit hpa, hh.2⟩ hf
        rw [wider hk hpa hc] at c2
        refine run ?_
        refine call c2 ?_
        refine run ?_
        exact fin rfl
      · refine run ?_
        exact fin rfl

set_option maxRecDepth 100000 in
theorem den_HoldEach (L : LibC T) (os : List Ofc) (ps : List Plan) (l : List Hld) (fs : List Fil) (d : Int) (ho : FitsO os) (hp : Fits ps) (hl : FitsH l) (hf : FitsF fs) :
    Den Tryz.prog T 5 [ofcs os, plans ps, hlds l, fils fs, vi d] (vb true) := by
  have hl0 := hl.1
  have hf0 := hf.1
  refine den_of_body follows (fun args w => Tryz.call5 args w) Tryz.func5 rfl 84 rfl ?_
  refine run ?_
  refine call (den_awake10 L) ?_
  refine run ?_
  refine call (den_CheckH L l hl) ?_
  refine run ?_
  refine call (den_few10 os ps l fs ho hp hl hf) ?_
  cases few10 os ps l fs
  · refine run ?_
    exact fin rfl
  by_cases hg0 : ¬ (checkH l).2 = 0
  · refine run ?_
    exact fin rfl
  have hg : (checkH l).2 = 0 := Decidable.not_not.1 hg0
  have hgood : goodH l = true := by simp [goodH, hg]
  refine run ?_
  refine loop ⟨[0, 1, 2, 3, 4, 37, 38, 39], [], [], []⟩ (fun k : Nat => k ≤ l.length) (fun k => l.length - k)
    (fun k => ⟨84, [(0, .v (ofcs os)), (1, .v (plans ps)), (2, .v (hlds l)), (3, .v (fils fs)), (4, .v (vi d)), (37, .v (hlds l)), (38, .v (vi l.length)), (39, .v (vi k))], [], []⟩) 0 (by omega) ?_
  intro k hk
  by_cases hlt : k < l.length
  · obtain ⟨h, hh, -, hm⟩ := drop_at hlt
    have hhf := hl.2 h hm
    have hcl := cov_len os ps h fs d
    refine runW hh ?_
    refine call (den_Covered L os ps h fs d ho hp hhf hf).den ?_
    refine run ?_
    refine loop ⟨[0, 1, 2, 3, 4, 14, 15, 16, 37, 38, 39, 49, 50, 51], [14], [16], [(16, 3, 1)]⟩ (fun y : Nat × List Int => y.1 ≤ fs.length ∧ y.2.length ≤ y.1 ∧ y.2 = covered os ps h (fs.take y.1) d) (fun y => fs.length - y.1)
      (fun y => ⟨84, [(0, .v (ofcs os)), (1, .v (plans ps)), (2, .v (hlds l)), (3, .v (fils fs)), (4, .v (vi d)), (14, .p 14 0), (15, .v (ints (covered os ps h fs d))), (16, .v (ints y.2)), (37, .v (hlds l)), (38, .v (vi l.length)), (39, .v (vi k)), (49, .v (fils fs)), (50, .v (vi fs.length)), (51, .v (vi y.1))], [(14, .var h.cs)], [(3, [16])]⟩) (0, []) ⟨by omega, by simp, by simp [covered]⟩ ?_
    rintro ⟨j, out⟩ ⟨hj, hlen, ho'⟩
    simp only at hj hlen ho'
    by_cases hjt : j < fs.length
    · obtain ⟨f, hff, -, hmf⟩ := drop_at hjt
      have hfit := hf.2 f hmf
      have hsn := cov_snoc os ps h d hff
      rw [← ho'] at hsn
      have hhas := holding_has (os := os) (ps := ps) (f := f) (d := d) hgood hm
      have hhl := hold_len os ps l f d
      have c1 := den_Covers (T := T) L os ps h f d ho hp hhf hfit
      refine runW hff ?_
      cases hc : covers os ps h f d
      · rw [hc] at hsn c1 hhas
        refine call c1 ?_
        refine run ?_
        refine call (den_Holding L os ps l f d ho hp hl hfit).den ?_
        refine run ?_
        refine call (den_hasInt2 _ h.id (by omega)) ?_
        rw [hhas]
        refine run ?_
        exact round (j + 1, out) ⟨by simp only; omega, by simp only; omega, by simp only; rw [hsn]; simp⟩ (by simp only; omega)
      · rw [hc] at hsn c1 hhas
        have hap : out.map Cint ++ [[V.val (.int .i64 f.id)]] = (out ++ [f.id]).map Cint := by simp
        refine call c1 ?_
        refine runW hap ?_
        refine call (den_Holding L os ps l f d ho hp hl hfit).den ?_
        refine run ?_
        refine call (den_hasInt2 _ h.id (by omega)) ?_
        rw [hhas]
        refine run ?_
        exact round (j + 1, out ++ [f.id]) ⟨by simp only; omega, by simp; omega, by simp only; rw [hsn]; simp⟩ (by simp only; omega)
    · have he : out = covered os ps h fs d := by rw [ho', List.take_of_length_le (by omega)]
      subst he
      refine run ?_
      refine call (den_eqInts (covered os ps h fs d) (covered os ps h fs d) (by omega)) ?_
      rw [decide_eq_true rfl]
      refine run ?_
      exact round (k + 1) (by omega) (by omega)
  · refine run ?_
    exact fin rfl
end Go.Arc
