/-
  Contracts of functions of the program, each by a walk through its code, for all arguments within the bounds that the statements name.
-/
import Derived.Test.YtbofgklhjjfbkaaGreatDoorW13
namespace Go.Arc
open Go.Ab Go.RowKit Go.Proofs
variable {T : Lay}

theorem walkN_len {l : List Plan} (hl : Fits l) : ∀ (n i : Nat) (s : Str), s.length ≤ 1048576 → (walkN l i n s).length ≤ 1048576
  | 0, _, _, hs => hs
  | n + 1, i, _, hs => walkN_len hl n (i + 1) _ (nxt_len (pl_fit hl _) hs)
theorem follow_cases (l : List Plan) (f t : Int) (s : Str) : (∃ e, e ≠ 0 ∧ followV l f t s = .tup [.str [], vi e]) ∨ (versErr l f t = 0 ∧ has (pl l (f - 1).toNat) s = true ∧ followV l f t s = .tup [.str (walkI l f t s), vi 0]) := by
  by_cases hv : versErr l f t = 0
  · cases hh : has (pl l (f - 1).toNat) s
    · exact .inl ⟨7, by decide, by simp only [followV, followR_7 hv hh]⟩
    · exact .inr ⟨hv, rfl, by simp only [followV, followR_0 hv hh]⟩
  · exact .inl ⟨_, hv, by simp only [followV, followR_e hv]⟩

theorem atL_good {l : List Plan} (h : goodL l = true) (d : Int) : atL l d = idx l d := by simp [atL, h]
end Go.Arc
