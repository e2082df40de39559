/-
  Contracts of functions of the program, each by a walk through its code, for all arguments within the bounds that the statements name.
-/
import Derived.Test.YtbofgklhjjfbkaaGreatDoorAb6
import Derived.MapKept
namespace Go.Ab
open Go.RowKit
variable {P : Program} {F : Frz} {w : World} {ρ : Nat → Nat} {h : List (Nat × Blk)} {ρa : Operand → Option TV} {ρc : Operand → Value}

theorem keyEq_now {k k' : V} {x x' : Value} {b : Bool} {kt : TypeId} {d : TypeDesc} (hk : Rep F k x) (hk' : Rep F k' x') (ht : keyT P kt k = true) (hu : P.underlying kt = some d) (e : keyEq k k' = some b) :
    Instr.sameNow d x x' = some b := by
  unfold keyEq at e
  split at e
  · rename_i j a k0 b0
    split at e
    · rename_i hjk
      cases e
      subst hjk
      have := rep_val_inv hk; subst this
      have := rep_val_inv hk'; subst this
      unfold keyT at ht
      rw [hu] at ht
      cases d <;> simp_all [Instr.sameNow]
      rfl
    · cases e
  · rename_i a b0
    cases e
    have := rep_str_inv hk; subst this
    have := rep_str_inv hk'; subst this
    unfold keyT at ht
    rw [hu] at ht
    cases d <;> simp_all [Instr.sameNow]
    rw [Bool.eq_iff_iff]
    simp only [beq_iff_eq]
    constructor
    · intro h; exact congrArg (fun b : ByteArray => b.data.toList) ((MapKept.bytes_beq _ _).1 h)
    · intro h; subst h; exact (MapKept.bytes_beq _ _).2 rfl
  · cases e

theorem findV_now {k : V} {x : Value} {kt : TypeId} {d : TypeDesc} (hk : Rep F k x) (ht : keyT P kt k = true) (hu : P.underlying kt = some d) :
    ∀ (es : List (V × V)) (xs : List MapEntry) (n : Nat) {r : Option V}, xs.length = es.length → (∀ (j : Nat) k' v y, es[j]? = some (k', v) → xs[j]? = some y → Rep F k' y.key ∧ Rep F v y.val) → findV k es = some r →
      match r with
      | none => Instr.findNow d x xs n = some none
      | some v => ∃ i y, Instr.findNow d x xs n = some (some (n + i, y.val)) ∧ xs[i]? = some y ∧ Rep F v y.val
  | [], [], n, r, _, _, e => by simp [findV] at e; subst e; simp [Instr.findNow]
  | [], _ :: _, _, _, hl, _, _ => by simp at hl
  | _ :: _, [], _, _, hl, _, _ => by simp at hl
  | (k', v) :: es, y :: xs, n, r, hl, hh, e => by
    obtain ⟨h1, h2⟩ := hh 0 k' v y rfl rfl
    simp only [findV] at e
    cases hb : keyEq k k' with
    | none => rw [hb] at e; cases e
    | some b =>
      rw [hb] at e
      have hs := keyEq_now hk h1 ht hu hb
      cases b with
      | true =>
        simp only [Option.some.injEq] at e
        subst e
        exact ⟨0, y, by simp [Instr.findNow, hs], rfl, h2⟩
      | false =>
        simp only at e
        have ih := findV_now hk ht hu es xs (n + 1) (by simpa using hl) (fun j k'' v' y' e1 e2 => hh (j + 1) k'' v' y' (by simpa using e1) (by simpa using e2)) e
        cases r with
        | none => simp only at ih ⊢; simp [Instr.findNow, hs, ih]
        | some v' =>
          simp only at ih ⊢
          obtain ⟨i, y', h3, h4, h5⟩ := ih
          exact ⟨i + 1, y', by simp [Instr.findNow, hs, h3, Nat.add_assoc, Nat.add_comm 1 i], by simpa using h4, h5⟩

theorem checkKey_plain (em : Bool) (n : Nat) {kt : TypeId} {d : TypeDesc} (hu : P.underlying kt = some d) {k : V} (ht : keyT P kt k = true) (x : Value) (w : World) : (Instr.checkKey em (n + 1) kt x).run P w = .ok () w := by
  unfold keyT at ht
  rw [hu] at ht
  cases d <;> simp_all [Instr.checkKey, run_underlying hu]

theorem getObj_map {b : Nat} {xs : Array MapEntry} {ck : Nat} (h1 : w.heap[b]? = some (.map xs ck)) : (getObj b).run P w = .ok (.map xs ck) w := by
  unfold getObj
  simp only [Sem.run]
  rw [h1]

theorem execOp_v {s : Sem Value} {y : Value} {w' : World} (hr : s.run P w = .ok y w') : (do pure (Next.value (← s)) : Sem Next).run P w = .ok (.value y) w' := by
  simp [hr]

set_option maxHeartbeats 1000000 in
theorem rep_pair {v u : V} {x y : Value} (h1 : Rep F v x) (h2 : Rep F u y) : Rep F (.tup [v, u]) (.tuple #[x, y]) := by
  refine .tup rfl fun j c z e1 e2 => ?_
  match j with
  | 0 => simp at e1 e2; subst e1 e2; exact h1
  | 1 => simp at e1 e2; subst e1 e2; exact h2
  | j + 2 => simp at e1
theorem mapE_sound (G : Good F w ρ h ρa ρc) {x : Operand} {es : List (V × V)} (e : mapE h (ρa x) = some es) :
    (ρc x = .map none ∧ es = []) ∨ ∃ (b : Nat) (xs : Array MapEntry) (ck : Nat), ρc x = .map (some b) ∧ w.heap[b]? = some (.map xs ck) ∧ xs.size = es.length ∧
      ∀ (j : Nat) k v y, es[j]? = some (k, v) → xs[j]? = some y → Rep F k y.key ∧ Rep F v y.val := by
  unfold mapE at e
  split at e
  · rename_i id hx
    split at e
    · rename_i es' hk
      cases e
      obtain ⟨xs, ck, g1, _, g2, g3⟩ := G.blk id _ hk
      exact .inr ⟨_, xs, ck, G.opr x _ hx, g1, g2, g3⟩
    · cases e
  · rename_i ks vs hx
    cases e
    have hr : Rep F (.map ks vs) (ρc x) := G.opr x _ hx
    generalize hy : ρc x = y at hr
    cases hr with
    | @map _ _ b xs hb hl hl' hk hv =>
      obtain ⟨ck, g1⟩ := G.sees.m _ _ hb
      refine .inr ⟨b, xs, ck, rfl, g1, by simp [List.length_zip]; omega, fun j k v y e1 e2 => ?_⟩
      obtain ⟨e3, e4⟩ := List.getElem?_zip_eq_some.1 e1
      exact ⟨hk j k y e3 e2, hv j v y e4 e2⟩
  · rename_i hx
    cases e
    exact .inl ⟨rep_val_inv (G.opr x _ hx), rfl⟩
  · cases e

theorem evq_sound (G : Good F w ρ h ρa ρc) (o : Oper) {tv : TV} (e : evq P ρa h o.op = some tv) :
    ∃ x, (execOp ρc o).run P w = .ok (.value x) w ∧ RepT F ρ tv x := by
  obtain ⟨dst, op, ty, pos, after, guard⟩ := o
  simp only at e
  unfold evq at e
  split at e
  · rename_i x
    exact ⟨ρc x, rfl, G.opr x _ (nu_some e)⟩
  · rename_i x
    exact ⟨ρc x, rfl, G.opr x _ (nu_some e)⟩
  · rename_i c a b
    split at e
    · rename_i t hc
      have hv := rep_val_inv (G.v hc)
      cases t with
      | true => exact ⟨ρc a, by simp [execOp, hv, asBool], G.opr a _ (nu_some e)⟩
      | false => exact ⟨ρc b, by simp [execOp, hv, asBool], G.opr b _ (nu_some e)⟩
    · cases e
  · rename_i t a
    simp only [Option.bind_eq_some_iff, Option.map_eq_some_iff] at e
    obtain ⟨cs, h1, v, h2, rfl⟩ := e
    obtain ⟨y, hr, hy⟩ := behind_load (P := P) G h1 h2
    exact ⟨y, execOp_v hr, hy⟩
  · rename_i s x f
    split at e
    · rename_i off ft cs h1 h2
      cases e
      obtain ⟨a, g, hv, hat⟩ := rep_row_inv (show Rep F (.row cs) (ρc x) from G.opr x _ h2)
      exact ⟨.pointer (some (a.add off)), execOp_v (by rw [hv]; exact fieldAt_run h1 a w), rep_row (hat.drop off)⟩
    · rename_i off ft id o' h1 h2
      cases e
      have hv := show ρc x = _ from G.opr x _ h2
      refine ⟨.pointer (some ⟨ρ id, o' + off, none⟩), execOp_v ?_, rfl⟩
      rw [hv, fieldAt_run h1, add_plain]
    · cases e
  · rename_i s x f
    split at e
    · rename_i off ft cs h1 h2
      simp only [Option.map_eq_some_iff] at e
      obtain ⟨v, h3, rfl⟩ := e
      obtain ⟨fs, fd, hu, hf, rfl, rfl, hz⟩ := fldV_some h1
      have hr := G.v h2
      generalize hy0 : ρc x = y at hr
      cases hr with
      | agg hl ho hh =>
        rename_i xs
        obtain ⟨z, hz', hzr⟩ := part_run (P := P) (w := w) hl ho hh h3
        exact ⟨z, execOp_v (by rw [hy0]; simp [Instr.field, run_underlying hu, hf, asAgg, hz']), hzr⟩
    · cases e
  · rename_i t x i
    split at e
    · rename_i e' n size es iv h1 h2 h3
      split at e
      · rename_i hn
        subst hn
        simp only [Option.map_eq_some_iff] at e
        obtain ⟨cs, h4, rfl⟩ := e
        unfold idxV at h4
        split at h4
        · rename_i k m
          split at h4
          · rename_i hm
            have hi := rep_val_inv (G.v h3)
            have hlt := (List.getElem?_eq_some_iff.1 h4).1
            rcases rep_slice_inv (show Rep F (.slice n es) (ρc x) from G.opr x _ h2) with ⟨_, h0⟩ | ⟨a, cap, g, hv, hc, hmx, hs, ho, hg, hr⟩
            · subst h0; simp at hlt
            · exact ⟨_, execOp_v (by rw [hv, hi]; exact indexAt_run h1 k m a es.length cap hm (by omega) w), rep_row (at_elem ho hg hr h4)⟩
          · cases h4
        · cases h4
      · cases e
    · rename_i e' n id off m size iv h1 h2 h3
      split at e
      · rename_i hn
        subst hn
        simp only [Option.map_eq_some_iff] at e
        obtain ⟨q, h4, rfl⟩ := e
        unfold idxS at h4
        split at h4
        · rename_i k j
          split at h4
          · rename_i hm
            cases h4
            have hi := rep_val_inv (G.v h3)
            obtain ⟨cap, hc1, hc2, hc3, hv⟩ := show ∃ cap, m ≤ cap ∧ cap ≤ maxLen ∧ 0 < m ∧ ρc x = _ from G.opr x _ h2
            refine ⟨_, execOp_v (by rw [hv, hi]; exact indexAt_run h1 k j _ m cap hm.1 hm.2 w), ?_⟩
            rw [add_plain]
            rfl
          · cases h4
        · cases h4
      · cases e
    · cases e
  · rename_i t x i
    split at e
    · rename_i l iv h1 h2 h3
      simp only [Option.map_eq_some_iff] at e
      obtain ⟨v, h4, rfl⟩ := e
      unfold bytV at h4
      split at h4
      · rename_i k m
        split at h4
        · rename_i hm
          simp only [Option.map_eq_some_iff] at h4
          obtain ⟨b, h5, rfl⟩ := h4
          have hi := rep_val_inv (G.v h3)
          have hx := rep_str_inv (G.v h2)
          refine ⟨.int .u8 b.toNat, execOp_v ?_, .val _⟩
          have hlt := (List.getElem?_eq_some_iff.1 h5).1
          have hsz : m.toNat < (⟨l.toArray⟩ : ByteArray).size := by rw [size_mk]; exact hlt
          have hb : (⟨l.toArray⟩ : ByteArray)[m.toNat]? = some b := by
            rw [getElem?_pos (⟨l.toArray⟩ : ByteArray) m.toNat hsz]
            have : l[m.toNat] = b := (List.getElem?_eq_some_iff.1 h5).2
            rw [← this]
            rfl
          rw [hi, hx]
          simp [Instr.index, asIntOf, run_underlying (strB_true h1), hm, hb]
        · cases h4
      · cases h4
    · cases e
  · rename_i t x lo hi
    split at e
    · rename_i xv lov hiv h1 h2 h3
      simp only [Option.map_eq_some_iff] at e
      obtain ⟨v, h4, rfl⟩ := e
      obtain ⟨r, hr, hv⟩ := sliceV_run (P := P) (show Rep F xv (ρc x) from G.opr x _ h1) h4 (optV_some G h2) (optV_some G h3) w
      exact ⟨r, execOp_v hr, hv⟩
    · rename_i id off m size lov hiv h1 h2 h3
      split at e
      · rename_i hs
        simp only [Option.map_eq_some_iff] at e
        obtain ⟨⟨a, b⟩, hc, rfl⟩ := e
        simp only [Option.map_eq_some_iff] at hs
        obtain ⟨⟨e', n⟩, hsl, rfl⟩ := hs
        obtain ⟨hu, hsz, hz⟩ := slV_some hsl
        simp only at *
        obtain ⟨inf, hi0⟩ := info_of_cells (P := P) (t := e') (by omega)
        obtain ⟨g1, g2, _, _⟩ := cutV_some hc
        obtain ⟨cap, hc1, hc2, hc3, hv⟩ := show ∃ cap, m ≤ cap ∧ cap ≤ maxLen ∧ 0 < m ∧ ρc x = _ from G.opr x _ h1
        have hb := bounds_run (P := P) (F := F) (isS := true) (n := m) (cap := cap) hc hc1 (optV_some G h2) (optV_some G h3) w
        refine ⟨.slice (if cap = a then some ⟨ρ id, off, none⟩ else some ((⟨ρ id, off, none⟩ : Addr).add (a * n))) (b - a) (cap - a), execOp_v ?_, ?_⟩
        · rw [hv]
          simp [Instr.sliceAt, run_underlying hu, Result.andThen, Instr.slice, hb, run_sizeOf' hi0, hsz]
        · simp only [cutS]
          by_cases hab : a = b
          · rw [if_pos hab]
            subst hab
            have : (a - a) = ([] : List (List V)).length := by simp
            show Rep F (.slice n []) _
            rw [this]
            split
            · exact .slice (fun _ _ => undef) (by simp) (by omega) (by simp) (by simp) (by simp) (by simp)
            · exact .slice (fun _ _ => undef) (by simp) (by omega) (by simp) (by simp) (by simp) (by simp)
          · rw [if_neg hab, if_neg (by omega), add_plain]
            exact ⟨cap - a, by omega, by omega, by omega, rfl⟩
      · cases e
    · cases e
  · rename_i op t x y ty'
    split at e
    · rename_i h1 h2
      split at e
      · rename_i c
        split at e
        · rename_i hu
          simp only [Option.map_eq_some_iff] at e
          obtain ⟨v, h3, rfl⟩ := e
          have hx := rep_val_inv (G.v h1)
          have hy := rep_val_inv (G.v h2)
          obtain ⟨r, hr, hv, hg⟩ := nilIface_run (P := P) (F := F) hu h3 w c
          exact ⟨r, execOp_v (by rw [hx, hy]; simp [hg x, hr]), hv⟩
        · cases e
      · cases e
    · rename_i xv yv h1 h2
      simp only [Option.map_eq_some_iff] at e
      obtain ⟨v, h3, rfl⟩ := e
      obtain ⟨r, hr, hv, hg⟩ := binV_run (P := P) (G.v h1) (G.v h2) h3 w
      exact ⟨r, execOp_v (by simp [hg x y, hr]), hv⟩
    · cases e
  · rename_i t x
    split at e
    · rename_i b h1
      cases e
      have hv := rep_val_inv (G.v h1)
      exact ⟨.bool (!b), execOp_v (by rw [hv]; rfl), .val _⟩
    · cases e
  · rename_i t x
    split at e
    · rename_i k n h1
      cases e
      have hv := rep_val_inv (G.v h1)
      exact ⟨.int k (k.wrap (0 - n)), execOp_v (by rw [hv]; rfl), .val _⟩
    · cases e
  · rename_i src dst' x
    split at e
    · rename_i xv h1 h2
      simp only [Option.map_eq_some_iff] at e
      obtain ⟨v, h3, rfl⟩ := e
      obtain ⟨ds, hs⟩ := Option.isSome_iff_exists.1 h1
      unfold convV at h3
      split at h3
      · rename_i k0 n
        split at h3
        · rename_i k hk
          cases h3
          have hv := rep_val_inv (G.v h2)
          refine ⟨.int k (k.wrap n), execOp_v ?_, .val _⟩
          rw [hv]
          simp [convert, run_underlying hs, run_underlying (intK_some hk), Conv.intToInt]
        · cases h3
      · rename_i l
        split at h3
        · rename_i hd
          cases h3
          have hv := rep_str_inv (G.v h2)
          refine ⟨.string ⟨l.toArray⟩, execOp_v ?_, .str _⟩
          rw [hv]
          simp [convert, run_underlying hs, run_underlying (strB_true hd)]
        · cases h3
      · cases h3
    · cases e
  · rename_i x i
    split at e
    · rename_i vs h1
      simp only [Option.map_eq_some_iff] at e
      obtain ⟨v, h2, rfl⟩ := e
      have hr := G.v h1
      generalize hy0 : ρc x = y at hr
      cases hr with
      | tup hl hh =>
        rename_i xs
        have hlt : i < xs.size := by
          have := (List.getElem?_eq_some_iff.1 h2).1
          omega
        exact ⟨xs[i], execOp_v (by rw [hy0]; simp [Instr.extract, Array.getElem?_eq_getElem hlt]), hh i v _ h2 (Array.getElem?_eq_getElem hlt)⟩
    · cases e
  · rename_i f first cap
    split at e
    · rename_i h0
      simp only [Option.map_eq_some_iff] at e
      obtain ⟨vs, h1, rfl⟩ := e
      obtain ⟨hl, hh⟩ := capsV_sound G h1
      obtain rfl : first = #[] := Array.eq_empty_of_size_eq_zero h0
      refine ⟨.func (.func f) #[] (cap.map ρc), execOp_v (by simp [Instr.makeFunc]), .func (by simp [hl]) (fun j c x e1 e2 => hh j c x e1 ?_)⟩
      rw [← e2]
      simp [Array.getElem?_map, List.getElem?_map]
    · cases e
  · rename_i t x i ok
    split at e
    · rename_i kt et es k h1 h2 h3
      split at e
      · rename_i z h5
        split at e
        · rename_i hc
          simp only [Option.map_eq_some_iff] at e
          obtain ⟨r, h6, rfl⟩ := e
          have hu : P.underlying t = some (.map kt et) := by
            unfold mapKV at h1
            split at h1
            · rename_i a b hu; cases h1; exact hu
            · cases h1
          have hz : (zeroValue et).run P w = .ok z w := by
            unfold zeroV at h5
            cases hi : P.info? et with
            | none => rw [hi] at h5; cases h5
            | some inf =>
              rw [hi] at h5
              simp only [Option.bind_some] at h5
              simp [zeroValue, typeInfo, hi, h5]
          have hkd : ∃ d, P.underlying kt = some d := by
            have := hc.1
            unfold keyT at this
            cases hd : P.underlying kt with
            | none => rw [hd] at this; cases k <;> simp at this
            | some d => exact ⟨d, rfl⟩
          obtain ⟨d, hd⟩ := hkd
          have hck := fun em => checkKey_plain em 9999 hd hc.1 (ρc i) w
          have pair : ∀ {v : V} {y : Value} (b : Bool), Rep F v y → Rep F (bif ok then .tup [v, .val (.bool b)] else v) (if ok = true then .tuple #[y, .bool b] else y) := fun {v y} b hr => by
            cases ok with
            | false => exact hr
            | true => exact rep_pair hr (.val _)
          rcases mapE_sound G h2 with ⟨hx, rfl⟩ | ⟨b, xs, ck, hx, g1, g2, g3⟩
          · simp only [findV, Option.some.injEq] at h6
            subst h6
            refine ⟨if ok = true then .tuple #[z, .bool false] else z, execOp_v ?_, pair false (rep_ofVal F z hc.2)⟩
            rw [hx]
            have e0 : Instr.findNow d (ρc i) [] 0 = some none := rfl
            simp [Instr.lookup, run_underlying hu, hck, Instr.findKey, run_underlying hd, e0, hz]
          · have hnow := findV_now (P := P) (G.v h3) hc.1 hd es xs.toList 0 (by simp [g2]) (fun j k' v y e1 e2 => g3 j k' v y e1 (by simpa using e2)) h6
            cases r with
            | none =>
              simp only at hnow
              refine ⟨if ok = true then .tuple #[z, .bool false] else z, execOp_v ?_, pair false (rep_ofVal F z hc.2)⟩
              rw [hx]
              simp [Instr.lookup, run_underlying hu, getObj_map g1, hck, Instr.findKey, run_underlying hd, hnow, hz]
            | some v =>
              simp only at hnow
              obtain ⟨i', y, e1, e2, e3⟩ := hnow
              refine ⟨if ok = true then .tuple #[y.val, .bool true] else y.val, execOp_v ?_, pair true e3⟩
              rw [hx]
              simp [Instr.lookup, run_underlying hu, getObj_map g1, hck, Instr.findKey, run_underlying hd, e1]
        · cases e
      · cases e
    · cases e
  · rename_i c
    split at e
    · rename_i hcal
      split at e
      · rename_i x t h1 h2
        simp only [Option.map_eq_some_iff] at e
        obtain ⟨v, h3, rfl⟩ := e
        obtain ⟨y, hr, hy⟩ := lenV_sound (P := P) (ty := ty) G h3
        have ha : c.args = #[x] := by apply Array.ext'; simpa using h1
        have hb : c.argTypes = #[t] := by apply Array.ext'; simpa using h2
        refine ⟨y, ?_, hy⟩
        simp [execOp, resolve, hcal, ha, hb, invoke, builtin, hr]
      · cases e
    · cases e
  · cases e
end Go.Ab
