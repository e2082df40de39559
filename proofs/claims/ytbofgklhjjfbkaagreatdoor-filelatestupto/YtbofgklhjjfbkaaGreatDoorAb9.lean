/-
  Literals; what one quiet operation yields; what it is to denote.
-/
import Derived.Test.YtbofgklhjjfbkaaGreatDoorAb8
import Derived.Laws.Tables
namespace Go.Ab
open Go.RowKit
variable {P : Program} {F : Frz} {w : World} {ρ : Nat → Nat} {h : List (Nat × Blk)} {ρa : Operand → Option TV} {ρc : Operand → Value}

def placesV (P : Program) (t : TypeId) : Option (List (Nat × Nat)) :=
  match P.underlying t with
  | some (.struct fs) => fs.toList.mapM fun f => (P.info? f.type).map fun i => (f.offset, i.size)
  | _ => none

/-- the cells of a zero value -/
def zeroCs (P : Program) (t : TypeId) : Option (List V) := (zeroV P t).bind fun z => if okVal z = true ∧ oneV (ofVal z) = true then some (ofVal z).cells else none

/-- the elements of a slice literal, all of them given and in order -/
def bsV (size : Nat) : List (Nat × V) → Nat → Option (List (List V))
  | [], _ => some []
  | (i, v) :: r, k => if i = k ∧ v.cells.length = size ∧ oneV v = true then (bsV size r (k + 1)).map (v.cells :: ·) else none

def evb (P : Program) (ρ : Operand → Option TV) (o : Op) : Option V :=
  match o with
  | .build t parts => match placesV P t, zeroCs P t, partsV ρ parts.toList with
    | some pl, some zs, some ps => (fillV (pl[·]?) zs ps).map .agg
    | _, _, _ => none
  | .buildSlice t len parts => match slV P t, partsV ρ parts.toList with
    | some (e, size), some ps => if ps.length = len ∧ len * size ≤ 16777216 ∧ (zeroV P e).isSome = true then (bsV size ps 0).map (.slice size) else none
    | _, _ => none
  | _ => none

theorem zeroCs_some {t : TypeId} {zs : List V} (e : zeroCs P t = some zs) :
    ∃ z, (zeroValue t).run P w = .ok z w ∧ z.cells.size = zs.length ∧ (∀ c ∈ zs, c.one = true) ∧ ∀ (j : Nat) c y, zs[j]? = some c → z.cells[j]? = some y → Rep F c y := by
  unfold zeroCs at e
  simp only [Option.bind_eq_some_iff] at e
  obtain ⟨z, hz, e⟩ := e
  split at e
  · rename_i hc
    cases e
    obtain ⟨h1, h2, h3⟩ := cells_of_rep (rep_ofVal F z hc.1) hc.2
    refine ⟨z, ?_, h1, h2, h3⟩
    unfold zeroV at hz
    cases hi : P.info? t with
    | none => rw [hi] at hz; cases hz
    | some inf =>
      rw [hi] at hz
      simp only [Option.bind_some] at hz
      simp [zeroValue, typeInfo, hi, hz]
  · cases e

/-- the cells of the elements, laid one behind the other -/
theorem bs_fill (size : Nat) : ∀ (ps : List (Nat × V)) (qs : List (Nat × Value)) (k : Nat) (es : List (List V)) (xs : Array Value),
    qs.length = ps.length → (∀ (j : Nat) i v i' y, ps[j]? = some (i, v) → qs[j]? = some (i', y) → i' = i ∧ Rep F v y) → bsV size ps k = some es → (k + ps.length) * size = xs.size →
    ∃ ys, Instr.fill (fun i => some (i * size, size)) xs qs = some ys ∧ ys.size = xs.size ∧ es.length = ps.length ∧ (∀ e ∈ es, e.length = size) ∧ (∀ e ∈ es, ∀ c ∈ e, c.one = true) ∧
      (∀ i, i < k * size → ys[i]? = xs[i]?) ∧ ∀ (i j : Nat) e c, es[i]? = some e → e[j]? = some c → ∃ y, ys[(k + i) * size + j]? = some y ∧ Rep F c y
  | [], [], k, es, xs, _, _, e, _ => by
    simp only [bsV, Option.some.injEq] at e
    subst e
    exact ⟨xs, rfl, rfl, rfl, by simp, by simp, fun _ _ => rfl, by simp⟩
  | [], _ :: _, _, _, _, hl, _, _, _ => by simp at hl
  | _ :: _, [], _, _, _, hl, _, _, _ => by simp at hl
  | (i, v) :: ps, (i', x) :: qs, k, es, xs, hl, hh, e, hsz => by
    obtain ⟨rfl, hr⟩ := hh 0 i v i' x rfl rfl
    simp only [bsV] at e
    split at e
    · rename_i hc
      obtain ⟨rfl, c2, c3⟩ := hc
      simp only [Option.map_eq_some_iff] at e
      obtain ⟨es', he', rfl⟩ := e
      obtain ⟨s1, s2, s3⟩ := cells_of_rep hr c3
      have hlen : x.cells.toList.length = size := by simpa [c2] using s1
      have hxs : x.cells.size = size := by simpa using hlen
      have hbig : i' * size + size ≤ xs.size := by
        rw [← hsz]
        simp only [List.length_cons]
        have : (i' + (ps.length + 1)) * size = i' * size + ps.length * size + size := by rw [Nat.add_mul, Nat.add_mul]; omega
        omega
      have hfold : x.cells.zipIdx.foldl (fun cs (c, j) => cs.setIfInBounds (i' * size + j) c) xs = (x.cells.toList.zipIdx 0).foldl (fun cs (c, j) => cs.setIfInBounds (i' * size + j) c) xs := by
        rw [← Array.foldl_toList]
        simp
      have hfill : Instr.fill (fun i => some (i * size, size)) xs ((i', x) :: qs) = Instr.fill (fun i => some (i * size, size)) ((x.cells.toList.zipIdx 0).foldl (fun cs (c, j) => cs.setIfInBounds (i' * size + j) c) xs) qs := by
        simp only [Instr.fill]
        rw [if_neg (by simp [hxs]; omega), hfold]
      have hget := fun i => lay_get xs (i' * size) x.cells.toList 0 i (by omega)
      have hm1 : (i' + 1) * size = i' * size + size := by rw [Nat.add_mul]; omega
      obtain ⟨ys, h1, h2, h3, h4, h5, h6, h7⟩ := bs_fill size ps qs (i' + 1) es' ((x.cells.toList.zipIdx 0).foldl (fun cs (c, j) => cs.setIfInBounds (i' * size + j) c) xs) (by simpa using hl) (fun j a b c d e1 e2 => hh (j + 1) a b c d (by simpa using e1) (by simpa using e2)) he'
        (by rw [lay_size, ← hsz]; simp only [List.length_cons]; congr 1; omega)
      rw [lay_size] at h2
      refine ⟨ys, by rw [hfill, h1], h2, by simp [h3], ?_, ?_, ?_, ?_⟩
      · intro e he
        rcases List.mem_cons.1 he with rfl | he
        · exact c2
        · exact h4 e he
      · intro e he
        rcases List.mem_cons.1 he with rfl | he
        · exact s2
        · exact h5 e he
      · intro i hi
        rw [h6 i (by omega), hget]
        rw [if_neg (by omega)]
      · intro a j e c e1 e2
        cases a with
        | zero =>
          simp only [List.getElem?_cons_zero, Option.some.injEq] at e1
          subst e1
          have hj : j < size := by
            have := (List.getElem?_eq_some_iff.1 e2).1
            omega
          have hjx : j < x.cells.toList.length := by omega
          refine ⟨x.cells.toList[j], ?_, s3 j c _ e2 (by simp [hxs, hj])⟩
          rw [h6 _ (by simp only [Nat.add_zero]; omega), hget, if_pos (by simp only [Nat.add_zero]; omega)]
          simp [hxs, hj]
        | succ a =>
          simp only [List.getElem?_cons_succ] at e1
          obtain ⟨y, hy, hry⟩ := h7 a j e c e1 e2
          refine ⟨y, ?_, hry⟩
          rw [← hy]
          congr 2
          congr 1
          omega
    · cases e

theorem evb_sound (G : Good F w ρ h ρa ρc) (o : Oper) {v : V} (e : evb P ρa o.op = some v) :
    ∃ x F' w', (execOp ρc o).run P w = .ok (.value x) w' ∧ Ext F w F' w' ∧ Rep F' v x := by
  obtain ⟨dst, op, ty, pos, after, guard⟩ := o
  simp only at e
  unfold evb at e
  split at e
  · rename_i t parts
    split at e
    · rename_i pl zs ps h1 h2 h3
      simp only [Option.map_eq_some_iff] at e
      obtain ⟨cs, h4, rfl⟩ := e
      obtain ⟨z, z1, z2, z3, z4⟩ := zeroCs_some (P := P) (F := F) (w := w) h2
      obtain ⟨p1, p2⟩ := partsV_sound G h3
      obtain ⟨ys, y1, y2, y3, y4⟩ := fillV_sound (F := F) _ ps _ zs cs z.cells z2 z3 z4 p1 p2 h4
      unfold placesV at h1
      split at h1
      · rename_i fs hu
        have hp := run_places (P := P) w fs.toList pl h1
        have hmap : (parts.map fun (i, x) => (i, ρc x)).toList = parts.toList.map fun (i, x) => (i, ρc x) := by simp
        refine ⟨.agg ys, F, w, ?_, Ext.refl G.sees, .agg y2 y3 y4⟩
        refine execOp_v ?_
        have y1' : Instr.fill (fun i => pl[i]?) z.cells ((parts.map fun (i, x) => (i, ρc x)).toList) = some ys := by rw [hmap]; exact y1
        simp only [Array.toList_map] at y1'
        simp [Instr.build, run_underlying hu, z1, Array.mapM_eq_mapM_toList, hp, y1']
      · cases h1
    · cases e
  · rename_i t len parts
    split at e
    · rename_i e' size ps h1 h2
      split at e
      · rename_i hc
        simp only [Option.map_eq_some_iff] at e
        obtain ⟨es, h4, rfl⟩ := e
        obtain ⟨hu, hsz, hz⟩ := slV_some h1
        obtain ⟨inf, hi⟩ := info_of_cells (P := P) (t := e') (by omega)
        obtain ⟨p1, p2⟩ := partsV_sound G h2
        -- the zero cells
        have hmap : (parts.map fun (i, x) => (i, ρc x)).toList = parts.toList.map fun (i, x) => (i, ρc x) := by simp
        have key : ∀ (xs : Array Value), xs.size = len * size → ∃ ys F', Instr.fill (fun i => some (i * size, size)) xs (parts.toList.map fun (i, x) => (i, ρc x)) = some ys ∧
            Ext F w F' (w.alloc (.cells ys e')) ∧ Rep F' (.slice size es) (.slice (some ⟨w.heap.size, 0, none⟩) len len) := by
          intro xs hxs
          obtain ⟨ys, y1, y2, y3, y4, y5, _, y7⟩ := bs_fill (F := F) size ps _ 0 es xs p1 p2 h4 (by rw [hxs, hc.1]; simp)
          have hx := ext_alloc (w := w) G.sees ys.size ys e'
          refine ⟨ys, _, y1, hx, ?_⟩
          have hl : es.length = len := by rw [y3]; exact hc.1
          have hlm : len ≤ maxLen := by
            have : len * 1 ≤ len * size := Nat.mul_le_mul_left _ (by omega)
            unfold maxLen; omega
          rw [← hl]
          refine .slice (fun i j => ys.getD (i * size + j) undef) (by omega) (by omega) y4 y5 (fun i j e c e1 e2 => ?_) (fun i j e c e1 e2 => ?_)
          · obtain ⟨y, g1, g2⟩ := y7 i j e c e1 e2
            simp only [Nat.zero_add] at g1
            have hlt := (Array.getElem?_eq_some_iff.1 g1).1
            rw [add_plain, Nat.zero_add]
            rw [addBlk_app]
            rw [if_pos ⟨rfl, rfl, hlt⟩]
            simp [hlt]
          · obtain ⟨y, g1, g2⟩ := y7 i j e c e1 e2
            simp only [Nat.zero_add] at g1
            have hlt := (Array.getElem?_eq_some_iff.1 g1).1
            have : y = ys[i * size + j] := by simpa [hlt] using g1.symm
            subst this
            simp only [Array.getD_eq_getD_getElem?, Array.getElem?_eq_getElem hlt, Option.getD_some]
            exact g2.mono hx.le
        obtain ⟨z, hz'⟩ := Option.isSome_iff_exists.1 hc.2.2
        have hzr : (zeroValue e').run P w = .ok z w := by
          unfold zeroV at hz'
          rw [hi] at hz'
          simp only [Option.bind_some] at hz'
          simp [zeroValue, typeInfo, hi, hz']
        have hle : ¬ (len * size > 16777216) := by omega
        by_cases h0 : len * size = 0
        · obtain ⟨ys, F', k1, k2, k3⟩ := key ((Array.range (len * size)).map fun i => (#[] : Array Value)[i % (#[] : Array Value).size]!) (by simp)
          refine ⟨.slice (some ⟨w.heap.size, 0, none⟩) len len, F', w.alloc (.cells ys e'), execOp_v ?_, k2, k3⟩
          simp only [Instr.buildSlice, Sem.run_bind, run_underlying hu, Result.andThen_ok, run_sizeOf' hi, hsz, Array.toList_map]
          rw [if_neg hle, if_pos h0]
          simp only [Sem.run_pure, Sem.run_bind, Result.andThen_ok]
          rw [k1]
          rfl
        · obtain ⟨ys, F', k1, k2, k3⟩ := key ((Array.range (len * size)).map (z.cells[· % z.cells.size]!)) (by simp)
          refine ⟨.slice (some ⟨w.heap.size, 0, none⟩) len len, F', w.alloc (.cells ys e'), execOp_v ?_, k2, k3⟩
          simp only [Instr.buildSlice, Sem.run_bind, run_underlying hu, Result.andThen_ok, run_sizeOf' hi, hsz, Array.toList_map]
          rw [if_neg hle, if_neg h0]
          simp only [Sem.run_pure, Sem.run_bind, Result.andThen_ok, hzr]
          rw [k1]
          rfl
      · cases e
    · cases e
  · cases e
end Go.Ab
