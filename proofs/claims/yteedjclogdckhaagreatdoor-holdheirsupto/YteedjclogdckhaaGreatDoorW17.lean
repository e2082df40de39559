/-
  Contracts of functions of the program, each by a walk through its code, for all arguments within the bounds that the statements name.
-/
import Derived.Test.YteedjclogdckhaaGreatDoorW16
import Derived.Test.YteedjclogdckhaaGreatDoorBaC
namespace Go.Arc
open Go.Ab Go.RowKit Go.Proofs
variable {T : Lay}

def cN (a b : Note) : Int := if cmpI a.lst b.lst = 0 then cmpI a.fst b.fst else cmpI a.lst b.lst
theorem cN_gt (a b : Note) : decide (0 < cN a b) = gtN a b := by
  simp only [cN, cmpI, gtN]
  by_cases h1 : a.lst < b.lst
  · have : ¬ b.lst < a.lst := by omega
    have : ¬ a.lst = b.lst := by omega
    simp [*]
  · by_cases h2 : b.lst < a.lst
    · simp [*]
    · have h3 : a.lst = b.lst := by omega
      by_cases h4 : a.fst < b.fst
      · have : ¬ b.fst < a.fst := by omega
        simp [*]
      · by_cases h5 : b.fst < a.fst
        · simp [*]
        · simp [*]
def maxN : Note → List Note → Note
  | m, [] => m
  | m, n :: l => maxN (if gtN n m = true then n else m) l
theorem bestN_max : ∀ (l : List Note) (m : Note), bestN (some m) l = some (maxN m l)
  | [], _ => rfl
  | n :: l, m => by simp only [bestN, maxN]; exact bestN_max l _
end Go.Arc
