/-
  Contracts of functions of the program, each by a walk through its code, for all arguments within the bounds that the statements name.
-/
import Derived.Test.YteedjclogdckhaaGreatDoorW33
namespace Go.Arc
open Go.Ab Go.RowKit Go.Proofs
variable {T : Lay}

theorem inS_and (f u d : Int) : inS f u d = (decide (f ≤ d) && decide (d < u)) := by simp [inS]
theorem badF_iff (f : Fil) : badF f ↔ (f.id < 1 ∨ 1073741824 < f.id ∨ dayB f.opn 0 = false ∨ (dayB f.cld f.opn = false ∧ f.cld ≠ 1048576) ∨ f.pts < 0 ∨ 100 < f.pts) := Iff.rfl
theorem noClass_n {ps : List Plan} {f : Fil} (h : idx ps f.opn < 0) : noClass ps f = true := by simp [noClass, h]
theorem noClass_s {ps : List Plan} {f : Fil} {v : Nat} {p : Plan} (h : idx ps f.opn = v) (hp : ps[v]? = some p) : noClass ps f = !has p f.cls := by
  unfold noClass
  have : decide ((v : Int) < 0) = false := decide_eq_false (by omega)
  rw [h, Int.toNat_natCast, pl_at hp, this]; rfl

end Go.Arc
