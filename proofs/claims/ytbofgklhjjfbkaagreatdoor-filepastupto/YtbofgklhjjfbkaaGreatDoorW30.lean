/-
  Contracts of functions of the program, each by a walk through its code, for all arguments within the bounds that the statements name.
-/
import Derived.Test.YtbofgklhjjfbkaaGreatDoorSp6
import Derived.Test.YtbofgklhjjfbkaaGreatDoorW8
import Derived.Test.YtbofgklhjjfbkaaGreatDoorBaC
namespace Go.Arc
open Go.Ab Go.RowKit Go.Proofs
variable {T : Lay}

/-! lists of numbers -/
theorem den_ixIsInt (l : List Int) (x : Int) (hl : l.length ≤ 1048576) : Den Tryz.prog T 130 [ints l, vi x] (vi (ix (fun y => decide (x = y)) l)) := by
  refine den_of_body follows (fun args w => Tryz.call130 args w) Tryz.func130 rfl 19 rfl ?_
  refine run ?_
  refine loop ⟨[0, 1, 7, 8], [], [], []⟩ (fun k : Nat => k ≤ l.length ∧ ∀ n ∈ l.take k, decide (x = n) = false) (fun k => l.length - k)
    (fun k => ⟨19, [(0, .v (ints l)), (1, .v (vi x)), (7, .v (vi l.length)), (8, .v (vi k))], [], []⟩) 0 ⟨by omega, by simp⟩ ?_
  rintro k ⟨hk, hall⟩
  by_cases hlt : k < l.length
  · obtain ⟨y, hy, -, -⟩ := drop_at hlt
    by_cases hxy : x = y
    · refine runW hy ?_
      exact fin (vi_eq (ix_at (p := fun n => decide (x = n)) hall hy (by simp [hxy])))
    · refine runW hy ?_
      exact round (k + 1) ⟨by omega, take_snoc (q := fun n : Int => decide (x = n) = false) hall hy (by simp [hxy])⟩ (by omega)
  · refine run ?_
    exact fin (vi_eq (ix_none (p := fun n => decide (x = n)) hall hlt))
theorem den_hasInt (l : List Int) (x : Int) (hl : l.length ≤ 1048576) : Den Tryz.prog T 101 [ints l, vi x] (vb (l.any fun y => decide (x = y))) := by
  refine den_of_body follows (fun args w => Tryz.call101 args w) Tryz.func101 rfl 9 rfl ?_
  refine run ?_
  refine call (den_ixIsInt l x hl) ?_
  refine run ?_
  exact fin (vb_eq (ix_ge _ l))
theorem den_ixInt (l : List Int) (f : FuncId) (cap : List V) (p : Int → Bool) (hl : l.length ≤ 1048576) (hp : ∀ e ∈ l, Den Tryz.prog T f (vi e :: cap) (vb (p e))) :
   Den Tryz.prog T 131 [ints l, .func f cap] (vi (ix p l)) := by
  refine den_of_body follows (fun args w => Tryz.call131 args w) Tryz.func131 rfl 19 rfl ?_
  refine run ?_
  refine loop ⟨[0, 1, 7, 8], [], [], []⟩ (fun k : Nat => k ≤ l.length ∧ ∀ e ∈ l.take k, p e = false) (fun k => l.length - k)
    (fun k => ⟨19, [(0, .v (ints l)), (1, .v (.func f cap)), (7, .v (vi l.length)), (8, .v (vi k))], [], []⟩) 0 ⟨by omega, by simp⟩ ?_
  rintro k ⟨hk, hall⟩
  by_cases hlt : k < l.length
  · obtain ⟨x, hx, -, hm⟩ := drop_at hlt
    refine runW hx ?_
    refine call (hp x hm) ?_
    cases hpc : p x
    · refine run ?_
      exact round (k + 1) ⟨by omega, take_snoc hall hx hpc⟩ (by omega)
    · refine run ?_
      exact fin (vi_eq (ix_at hall hx hpc))
  · refine run ?_
    exact fin (vi_eq (ix_none hall hlt))
theorem den_anyInt (l : List Int) (f : FuncId) (cap : List V) (p : Int → Bool) (hl : l.length ≤ 1048576) (hp : ∀ e ∈ l, Den Tryz.prog T f (vi e :: cap) (vb (p e))) :
   Den Tryz.prog T 102 [ints l, .func f cap] (vb (l.any p)) := by
  refine den_of_body follows (fun args w => Tryz.call102 args w) Tryz.func102 rfl 9 rfl ?_
  refine run ?_
  refine call (den_ixInt l f cap p hl hp) ?_
  refine run ?_
  exact fin (vb_eq (ix_ge p l))

/-! offices -/
theorem den_ixOfc (l : List Ofc) (f : FuncId) (cap : List V) (p : Ofc → Bool) (hl : l.length ≤ 1048576) (hp : ∀ e ∈ l, Den Tryz.prog T f (.agg e.cs :: cap) (vb (p e))) :
   Den Tryz.prog T 132 [ofcs l, .func f cap] (vi (ix p l)) := by
  refine den_of_body follows (fun args w => Tryz.call132 args w) Tryz.func132 rfl 19 rfl ?_
  refine run ?_
  refine loop ⟨[0, 1, 7, 8], [], [], []⟩ (fun k : Nat => k ≤ l.length ∧ ∀ e ∈ l.take k, p e = false) (fun k => l.length - k)
    (fun k => ⟨19, [(0, .v (ofcs l)), (1, .v (.func f cap)), (7, .v (vi l.length)), (8, .v (vi k))], [], []⟩) 0 ⟨by omega, by simp⟩ ?_
  rintro k ⟨hk, hall⟩
  by_cases hlt : k < l.length
  · obtain ⟨x, hx, -, hm⟩ := drop_at hlt
    refine runW hx ?_
    refine call (hp x hm) ?_
    cases hpc : p x
    · refine run ?_
      exact round (k + 1) ⟨by omega, take_snoc hall hx hpc⟩ (by omega)
    · refine run ?_
      exact fin (vi_eq (ix_at hall hx hpc))
  · refine run ?_
    exact fin (vi_eq (ix_none hall hlt))
theorem den_FindO1 (o : Ofc) (n : Int) : Den Tryz.prog T 133 [.agg o.cs, .row [vi n]] (vb (isId n o)) := by
  refine den_of_body follows (fun args w => Tryz.call133 args w) Tryz.func133 rfl 8 rfl ?_
  refine run ?_
  exact fin rfl
theorem den_FindO (l : List Ofc) (n : Int) (hl : l.length ≤ 1048576) : Den Tryz.prog T 104 [ofcs l, vi n] (vi (findO l n)) := by
  refine den_of_body follows (fun args w => Tryz.call104 args w) Tryz.func104 rfl 8 rfl ?_
  refine run ?_
  refine call (den_ixOfc l _ _ (isId n) hl fun o _ => den_FindO1 o n) ?_
  refine run ?_
  exact fin rfl
theorem den_FindORef (l : List Ofc) (n : Int) (hl : l.length ≤ 1048576) : Den Tryz.prog T 85 [ofcs l, vi n] (vi (findO l n)) := by
  refine den_of_body follows (fun args w => Tryz.call85 args w) Tryz.func85 rfl 20 rfl ?_
  refine run ?_
  refine loop ⟨[0, 1, 5], [], [], []⟩ (fun k : Nat => k ≤ l.length ∧ ∀ o ∈ l.take k, isId n o = false) (fun k => l.length - k)
    (fun k => ⟨20, [(0, .v (ofcs l)), (1, .v (vi n)), (5, .v (vi k))], [], []⟩) 0 ⟨by omega, by simp⟩ ?_
  rintro k ⟨hk, hall⟩
  by_cases hlt : k < l.length
  · obtain ⟨x, hx, -, -⟩ := drop_at hlt
    by_cases hxn : x.id = n
    · refine runW hx ?_
      exact fin (vi_eq (ix_at (p := isId n) hall hx (by simp [isId, hxn])))
    · refine runW hx ?_
      exact round (k + 1) ⟨by omega, take_snoc (q := fun o : Ofc => isId n o = false) hall hx (by simp [isId, hxn])⟩ (by omega)
  · refine run ?_
    exact fin (vi_eq (ix_none (p := isId n) hall hlt))
theorem den_validO (f u : Int) : Den Tryz.prog T 77 [span f u] (vb (goodS f u)) := by
  refine den_of_body follows (fun args w => Tryz.call77 args w) Tryz.func77 rfl 18 rfl ?_
  unfold goodS
  by_cases h1 : 0 ≤ f <;> by_cases h2 : f < u <;> by_cases h3 : u ≤ 1048576 <;> (refine run ?_; refine fin (vb_eq ?_); simp; try omega)

instance : TZV Tryz.prog 91 (.agg #[.int .i64 0, .string ⟨#[]⟩, .int .i64 0, .int .i64 0, .slice none 0 0]) := ⟨by kernel_rfl⟩
instance : TMap Tryz.prog 107 3 91 (.agg #[.int .i64 0, .string ⟨#[]⟩, .int .i64 0, .int .i64 0, .slice none 0 0]) := ⟨by kernel_rfl, by kernel_rfl, by kernel_rfl⟩
theorem okVal_O : okVal (.agg #[.int .i64 0, .string ⟨#[]⟩, .int .i64 0, .int .i64 0, .slice none 0 0]) = true := rfl
theorem ofVal_O : ofVal (.agg #[.int .i64 0, .string ⟨#[]⟩, .int .i64 0, .int .i64 0, .slice none 0 0]) = .agg [vi 0, .str [], vi 0, vi 0, .val (.slice none 0 0)] := rfl

theorem opv_mapn (σ : Sto) : opv σ (.const (.map none)) = some (.v (.val (.map none))) := rfl
theorem den_index (l : List Ofc) (hl : l.length ≤ 1048576) : Den Tryz.prog T 76 [ofcs l] (mapO (idxO l)) := by
  refine den_of_body follows (fun args w => Tryz.call76 args w) Tryz.func76 rfl 30 rfl ?_
  refine runW opv_mapn ?_
  refine loop ⟨[3, 9, 10, 11], [8], [], []⟩ (fun k : Nat => k ≤ l.length) (fun k => l.length - k)
    (fun k => ⟨30, [(3, .m 8), (9, .v (ofcs l)), (10, .v (vi l.length)), (11, .v (vi k))], [(8, .map (entsO (idxO (l.take k))))], []⟩) 0 (by omega) ?_
  intro k hk
  by_cases hlt : k < l.length
  · obtain ⟨x, hx, -, -⟩ := drop_at hlt
    have hstep : idxO (l.take (k + 1)) = addO (idxO (l.take k)) x := by
      obtain ⟨hlt', rfl⟩ := List.getElem?_eq_some_iff.1 hx
      show (l.take (k + 1)).foldl addO [] = _
      rw [List.take_succ_eq_append_getElem hlt', List.foldl_append]; rfl
    have hf := find_entsO x.id (idxO (l.take k))
    cases hlk : lookO (idxO (l.take k)) x.id with
    | some y =>
      rw [hlk] at hf
      have ha : addO (idxO (l.take k)) x = idxO (l.take k) := by unfold addO; rw [hlk]; rfl
      rw [ha] at hstep
      refine runW (And.intro hx (And.intro hf (And.intro okVal_O ofVal_O))) ?_
      refine round (k + 1) (by omega) (by omega) ?_
      rw [hstep]; rfl
    | none =>
      rw [hlk] at hf
      have hu := upsert_entsO hlk
      have ha : addO (idxO (l.take k)) x = idxO (l.take k) ++ [x] := by unfold addO; rw [hlk]; rfl
      rw [ha] at hstep
      refine runW (And.intro hx (And.intro hf (And.intro hu (And.intro okVal_O ofVal_O)))) ?_
      refine round (k + 1) (by omega) (by omega) ?_
      rw [hstep]; rfl
  · have he : l.take k = l := List.take_of_length_le (by omega)
    rw [he]
    refine run ?_
    exact finFm (.refl _)
end Go.Arc
