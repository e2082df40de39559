/-
  Contracts of functions of the program, each by a walk through its code, for all arguments within the bounds that the statements name.
-/
import Derived.Test.YteedjclogdckhaaGreatDoorW18
import Derived.Test.YteedjclogdckhaaGreatDoorW14
namespace Go.Arc
open Go.Ab Go.RowKit Go.Proofs
variable {T : Lay}

theorem trig_opened (f : Fil) (d : Int) : trig f [111, 112, 101, 110, 101, 100] d = onD f.opn d := by unfold trig; exact if_pos rfl
theorem trig_closed (f : Fil) (d : Int) : trig f [99, 108, 111, 115, 101, 100] d = onD f.cld d := by
  unfold trig; rw [if_neg (by decide)]; exact if_pos rfl
theorem trig_note {f : Fil} {s : Str} {d : Int} (h1 : (s == [111, 112, 101, 110, 101, 100]) = false) (h2 : (s == [99, 108, 111, 115, 101, 100]) = false) : trig f s d = (best f s d).map fun n => (n.fst, n.lst) :=
  trig_own (fun e => by rw [e] at h1; exact absurd h1 (by decide)) (fun e => by rw [e] at h2; exact absurd h2 (by decide))
theorem onD_cases (a b : Int) : ∃ x y z, datgV (onD a b) = .tup [datg x y, vb z] := by
  unfold onD
  split
  · exact ⟨_, _, _, rfl⟩
  · exact ⟨_, _, _, rfl⟩
theorem trigV_cases (f : Fil) (s : Str) (d : Int) : ∃ x y z, trigV f s d = .tup [datg x y, vb z] := by
  show ∃ x y z, datgV (trig f s d) = _
  cases trig f s d with
  | none => exact ⟨_, _, _, rfl⟩
  | some p => exact ⟨_, _, _, rfl⟩
theorem own_ne {f : Fil} {s : Str} {d : Int} {x : Note} {r : List Note} (h : own f s d = x :: r) : best f s d = some (maxN x r) := by
  unfold best; rw [h]; exact bestN_max r x

/-- the best so far, as it lies -/
def bestC : Option Note → List V
  | some n => [vi n.fst, vi n.lst]
  | none => [vi 0, vi 0]
theorem bestN_skip {o : Option Note} {s : Str} {x : Note} {l : List Note} (h : named s x = false) : bestN o ((x :: l).filter (named s)) = bestN o (l.filter (named s)) := by
  rw [List.filter_cons, if_neg (by simp [h])]
theorem bestN_first {s : Str} {x : Note} {l : List Note} (h : named s x = true) : bestN none ((x :: l).filter (named s)) = bestN (some x) (l.filter (named s)) := by
  rw [List.filter_cons, if_pos h]; rfl
theorem bestN_next {m : Note} {s : Str} {x : Note} {l : List Note} (h : named s x = true) : bestN (some m) ((x :: l).filter (named s)) = bestN (some (if gtN x m = true then x else m)) (l.filter (named s)) := by
  rw [List.filter_cons, if_pos h]; rfl

end Go.Arc
