/-
  Contracts of functions of the program, each by a walk through its code, for all arguments within the bounds that the statements name.
-/
import Derived.Test.YteedjclogdckhaaGreatDoorW20
namespace Go.Arc
open Go.Ab Go.RowKit Go.Proofs
variable {T : Lay}

theorem fit1 {f : Fil} (hf : f.Fit) : FitsF [f] := ⟨by simp, fun g hg => by simp only [List.mem_cons, List.mem_nil_iff, or_false] at hg; subst hg; exact hf⟩

theorem own_iff {f : Fil} {s : Str} {d : Int} {n : Note} : n ∈ own f s d ↔ n ∈ f.nts ∧ isKnown d n = true ∧ named s n = true := by
  simp only [own, known, List.mem_filter, and_assoc]
def latest (s : Str) (d : Int) (m n : Note) : Bool := named s n && (isKnown d n && (decide (n.fst = m.fst) && decide (n.lst = m.lst)))

end Go.Arc
