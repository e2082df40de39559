/-
  What arguments of chapter 10 read as.
-/
import Derived.Test.YteedjclogdckhaaGreatDoorCl8
import Derived.Test.YteedjclogdckhaaGreatDoorSp10
namespace Go.Arc
open Go.Ab Go.RowKit Go.Proofs Go.ChangeShapes Go.WideShapes Go.ChangeAt
open Go.Proofs.YteedjclogdckhaaGreatDoor.Rows (uptoBulk uptoBulkAll)
variable {H : Type} {enc : TypeId × Value → H} {W : World}
theorem cells_hld : Tryz.prog.cellsOf 27 = 7 := by kernel_rfl
theorem typed_hld {m : Nat} {vs : List V} (h : typed Tryz.prog m 27 vs) : ∃ q : Hld, vs = q.cs ∧ q.Fit := by
  obtain ⟨m', h⟩ := typed_struct Tryz.underlying27 h
  obtain ⟨a0, b0, rfl, h0, a1, b1, rfl, h1, a2, b2, rfl, h2, a3, b3, rfl, h3, a4, b4, rfl, h4, a5, b5, rfl, h5, rfl⟩ := h
  obtain ⟨i0, rfl, -⟩ := typed_int Tryz.underlying3 h0
  obtain ⟨i1, rfl, -⟩ := typed_int Tryz.underlying3 h1
  obtain ⟨i2, rfl, -⟩ := typed_int Tryz.underlying3 h2
  obtain ⟨s3, rfl, hs3⟩ := typed_str Tryz.underlying9 h3
  obtain ⟨s4, rfl, hs4⟩ := typed_str Tryz.underlying9 h4
  obtain ⟨m'', h5⟩ := typed_struct Tryz.underlying25 h5
  obtain ⟨c0, d0, rfl, g0, c1, d1, rfl, g1, rfl⟩ := h5
  obtain ⟨frm, rfl, -⟩ := typed_int Tryz.underlying3 g0
  obtain ⟨til, rfl, -⟩ := typed_int Tryz.underlying3 g1
  exact ⟨⟨i0, i1, i2, s3, s4, frm, til⟩, rfl, hs3, hs4⟩
theorem okT_hld : okT Tryz.prog 8 27 = true := by kernel_rfl
set_option maxRecDepth 100000 in
theorem op_hld {b : Nat} {v : Value} {d : DataW H} {p : List MemPlace} (hv : Value.okWide Tryz.prog W .any b 27 v) (h : DataW.Trod enc Tryz.prog W 0 (fun _ => true) true 27 v d p) (hb : uptoBulk d ≤ 1048576) :
    ∃ q : Hld, Rep (fw W) (.agg q.cs) v ∧ q.Fit := by
  obtain ⟨cs, rfl, -⟩ := okWide_struct Tryz.underlying27 hv
  obtain ⟨fuel, h⟩ := h
  obtain ⟨vs, h1, h2⟩ := trod_typed 8 fuel _ _ (d, p) h okT_hld hb
  obtain ⟨q, rfl, hq⟩ := typed_hld h1
  exact ⟨q, .agg h2.len.symm h2.one fun j c x e1 e2 => h2.rep j c x e1 (by show cs.toList[j]? = some x; simpa using e2), hq⟩
theorem typed_hlds {m : Nat} {vs : List V} (h : typed Tryz.prog m 33 vs) : ∃ l : List Hld, vs = [hlds l] ∧ FitsH l := by
  obtain ⟨es, m3, rfl, hel, he⟩ := typed_slice Tryz.underlying33 h
  obtain ⟨l, rfl, hl⟩ := map_of (fun x hx => typed_hld hx) es he
  refine ⟨l, ?_, by simpa using hel, hl⟩
  rw [cells_hld]
theorem okT_hlds : okT Tryz.prog 8 33 = true := by kernel_rfl
set_option maxRecDepth 100000 in
theorem op_hlds {v : Value} {d : DataW H} {p : List MemPlace} {b : Nat} (hv : Value.okWide Tryz.prog W .any b 33 v) (h : DataW.Trod enc Tryz.prog W 0 (fun _ => true) true 33 v d p) (hb : uptoBulk d ≤ 1048576) :
    ∃ l, Rep (fw W) (hlds l) v ∧ FitsH l := by
  obtain ⟨a, len, cap, rfl⟩ := okWide_slice Tryz.underlying33 hv
  obtain ⟨fuel, h⟩ := h
  obtain ⟨vs, h1, h2⟩ := trod_typed 8 fuel _ _ (d, p) h okT_hlds hb
  obtain ⟨l, rfl, hl⟩ := typed_hlds h1
  exact ⟨l, h2.rep 0 _ _ rfl rfl, hl⟩
end Go.Arc
