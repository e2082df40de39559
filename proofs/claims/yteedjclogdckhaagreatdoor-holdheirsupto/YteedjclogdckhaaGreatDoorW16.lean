/-
  Contracts of functions of the program, each by a walk through its code, for all arguments within the bounds that the statements name.
-/
import Derived.Test.YteedjclogdckhaaGreatDoorSp8
import Derived.Test.YteedjclogdckhaaGreatDoorW12
namespace Go.Arc
open Go.Ab Go.RowKit Go.Proofs
variable {T : Lay}

/-! lists of notes -/
theorem flatN : ∀ (l : List Note), ∀ e ∈ l.map Note.cs, ∀ c ∈ e, c.flat = true := by
  intro l e he c hc
  obtain ⟨n, -, rfl⟩ := List.mem_map.1 he
  simp only [Note.cs, List.mem_cons, List.mem_nil_iff, or_false] at hc
  rcases hc with rfl | rfl | rfl | rfl <;> rfl

def cellsN (l : List Note) : List V := (l.map Note.cs).flatten
theorem cellsN_cons (x : Note) (l : List Note) : cellsN (x :: l) = .str x.name :: vi x.fst :: vi x.lst :: vi x.rcd :: cellsN l := rfl
theorem cellsN_len : ∀ (l : List Note), (cellsN l).length = l.length * 4
  | [] => rfl
  | x :: l => by rw [cellsN_cons]; simp only [List.length_cons, cellsN_len l]; omega
theorem cellsN_app (l m : List Note) : cellsN (l ++ m) = cellsN l ++ cellsN m := by simp [cellsN]
theorem cellsN_drop : ∀ (l : List Note) (k : Nat), (cellsN l).drop (k * 4) = cellsN (l.drop k)
  | _, 0 => rfl
  | [], k + 1 => by simp [cellsN]
  | x :: l, k + 1 => by
    rw [cellsN_cons, show (k + 1) * 4 = k * 4 + 4 by omega]
    simp only [List.drop_succ_cons]
    exact cellsN_drop l k
theorem cellsN_take : ∀ (l : List Note) (k : Nat), (cellsN l).take (k * 4) = cellsN (l.take k)
  | _, 0 => by simp [cellsN]
  | [], k + 1 => by simp [cellsN]
  | x :: l, k + 1 => by
    rw [cellsN_cons, show (k + 1) * 4 = k * 4 + 4 by omega]
    simp only [List.take_succ_cons]
    rw [cellsN_take l k]; rfl

end Go.Arc
