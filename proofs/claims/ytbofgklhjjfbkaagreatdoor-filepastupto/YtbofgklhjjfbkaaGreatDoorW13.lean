/-
  Contracts of functions of the program, each by a walk through its code, for all arguments within the bounds that the statements name.
-/
import Derived.Test.YtbofgklhjjfbkaaGreatDoorW12
import Derived.Test.YtbofgklhjjfbkaaGreatDoorPl1
namespace Go.Arc
open Go.Ab Go.RowKit Go.Proofs
variable {T : Lay}

/-! the example of the chapter -/
def exL : List Plan := [⟨1, 0, 100, [⟨[49], [84]⟩, ⟨[49, 46, 49], [84]⟩, ⟨[49, 46, 50], [84]⟩, ⟨[50], [84]⟩], []⟩,
  ⟨2, 100, 1048576, [⟨[49], [84]⟩, ⟨[49, 46, 50], [84]⟩, ⟨[50], [84]⟩, ⟨[51], [84]⟩], [⟨[50], [51]⟩]⟩]
theorem exFits : Fits exL := by
  refine ⟨by decide, ?_⟩
  intro p hp
  simp only [exL, List.mem_cons, List.mem_nil_iff, or_false] at hp
  rcases hp with rfl | rfl <;> (refine ⟨by decide, by decide, ?_, ?_⟩ <;> (intro c hc; simp only [List.mem_cons, List.mem_nil_iff, or_false] at hc))
  · rcases hc with rfl | rfl | rfl | rfl <;> exact ⟨by decide, by decide⟩
  · rcases hc with rfl | rfl | rfl | rfl <;> exact ⟨by decide, by decide⟩
  · subst hc; exact ⟨by decide, by decide⟩

theorem wk_movs (l : List Mov) (v : V) (h : v = movs l ∨ (v = .val (.slice none 0 0) ∧ l = [])) : Wk v (movs l) := by
  rcases h with rfl | ⟨rfl, rfl⟩
  · exact .refl _
  · exact .nil 2
theorem pl_fit {l : List Plan} (hl : Fits l) (i : Nat) : (pl l i).Fit := by
  unfold pl
  rw [List.getD_eq_getElem?_getD]
  cases h : l[i]? with
  | none => exact ⟨by decide, by decide, by simp [dflt], by simp [dflt]⟩
  | some p => exact hl.2 p (List.mem_of_getElem? h)
end Go.Arc
