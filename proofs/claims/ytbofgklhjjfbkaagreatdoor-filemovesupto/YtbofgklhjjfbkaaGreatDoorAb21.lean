/-
  More ways for a function to end: results that lie in cells.
-/
import Derived.Test.YtbofgklhjjfbkaaGreatDoorAb20
namespace Go.Ab
open Go.RowKit
variable {P : Program} {T : Lay}
/-- the end of a function whose one result, or one of whose two results, lies in cells -/
theorem finC1 {x : ResultVar} {r r' : V} {st : St} (hr : Wk r' r) (h : resS P st [x] = some r' := by
      refine resS1 ?_; (first | (simp only [resV, σ_mk, look_cons', Nat.reduceEqDiff, ↓reduceIte, vOf_v, behind, memV, Option.bind_some, List.drop_zero, ld_agg, ld_cell, takeN, Option.map_some]; done) | (simp only [resV, σ_mk, look_cons', Nat.reduceEqDiff, ↓reduceIte, vOf_v, behind, memV, Option.bind_some, List.drop_zero, ld_agg, ld_cell, takeN, Option.map_some]; rfl))) : fpost P [x] r .rt st := .inl ⟨r', h, hr⟩
theorem finC2 {x y : ResultVar} {r a b : V} {st : St} (hr : Wk (.tup [a, b]) r) (h : resV P st x = some a := by (first | (simp only [resV, σ_mk, look_cons', Nat.reduceEqDiff, ↓reduceIte, vOf_v, behind, memV, Option.bind_some, List.drop_zero, ld_agg, ld_cell, takeN, Option.map_some]; done) | (simp only [resV, σ_mk, look_cons', Nat.reduceEqDiff, ↓reduceIte, vOf_v, behind, memV, Option.bind_some, List.drop_zero, ld_agg, ld_cell, takeN, Option.map_some]; rfl))) (h' : resV P st y = some b := by (first | (simp only [resV, σ_mk, look_cons', Nat.reduceEqDiff, ↓reduceIte, vOf_v, behind, memV, Option.bind_some, List.drop_zero, ld_agg, ld_cell, takeN, Option.map_some]; done) | (simp only [resV, σ_mk, look_cons', Nat.reduceEqDiff, ↓reduceIte, vOf_v, behind, memV, Option.bind_some, List.drop_zero, ld_agg, ld_cell, takeN, Option.map_some]; rfl))) :
    fpost P [x, y] r .rt st := .inl ⟨_, resS2 h h', hr⟩
theorem finMC {x : Tmp} {t : TypeId} {cs' : List V} {v r' : V} {st : St} (h3 : Wk r' v) (h : look 999999 st.h = some (.var cs') := by rfl) (h2 : resV P st (.cell x t) = some r' := by (first | (simp only [resV, σ_mk, look_cons', Nat.reduceEqDiff, ↓reduceIte, vOf_v, behind, memV, Option.bind_some, List.drop_zero, ld_agg, ld_cell, takeN, Option.map_some]; done) | (simp only [resV, σ_mk, look_cons', Nat.reduceEqDiff, ↓reduceIte, vOf_v, behind, memV, Option.bind_some, List.drop_zero, ld_agg, ld_cell, takeN, Option.map_some]; rfl))) :
    fpostM P [.cell x t] cs' (.v v) .rt st :=
  ⟨⟨[], by rw [List.append_nil]; exact h⟩, .v r', by show (resS P st [.cell x t]).map _ = _; rw [resS1 h2]; rfl, .v h3, rfl⟩
theorem frzt1_m {t id : Nat} {es : List (V × V)} {st : St} (h1 : look t st.t = some (.m id)) (h2 : look id st.h = some (.map es)) :
    frzt1 t st = { st with t := (t, .v (.map (es.map (·.1)) (es.map (·.2)))) :: st.t, h := seth id (.con []) st.h, o := remo t st.o } := by
  unfold frzt1; rw [h1]; simp only; rw [h2]
/-- the end of a function that freezes a local map and hands it over -/
theorem finFm {t id : Nat} {es : List (V × V)} {st : St} {r : V} (hr : Wk (.map (es.map (·.1)) (es.map (·.2))) r) (h1 : look t st.t = some (.m id) := by rfl) (h2 : look id st.h = some (.map es) := by rfl) : fpost P [.tmp t] r .rt st := by
  refine .inr ⟨_, ?_, hr⟩
  show resS P (frzt1 t st) _ = _
  rw [frzt1_m h1 h2]
  exact resS1 (by simp only [resV, σ_mk, look_cons', ↓reduceIte, vOf_v])
end Go.Ab
