/-
  Contracts of functions of the program, each by a walk through its code, for all arguments within the bounds that the statements name.
-/
import Derived.Test.YtbofgklhjjfbkaaGreatDoorAb15
import Derived.Laws.CopyRow
namespace Go.Ab
open Go.RowKit
variable {P : Program} {T : Lay}
variable {w : World} {M : Nat → Prop} {F0 F : Frz} {w0 : World} {ρ : Nat → Nat} {a : Act} {st : St} {op : Oper}

theorem newRow_run (e : TypeId) (xs : Array Value) (w : World) : (newRow e xs).run P w = .ok ⟨w.heap.size, 0, none⟩ (w.alloc (.cells xs e)) := rfl

/-- a block made of cells, as a variable -/
theorem repB_new (hF : Sees F w) {cs : List V} {xs : Array Value} {e : TypeId} (h1 : xs.size = cs.length) (h2 : ∀ c ∈ cs, c.one = true) (h3 : ∀ (j : Nat) c x, cs[j]? = some c → xs[j]? = some x → Rep F c x) :
    RepB F (w.alloc (.cells xs e)) w.heap.size (.var cs) :=
  ⟨xs, e, heap_alloc_new w _, Nat.le_of_eq h1.symm, h2, h3, fun _ _ hp => Nat.ne_of_lt (sees_lt hF hp)⟩

theorem newvar_sound {K : St → Prop} (S : SimS P T M F0 w0 F ρ st a w) {d : Nat} {cs : List V} {xs : Array Value} {e : TypeId} (h1 : xs.size = cs.length) (h2 : ∀ c ∈ cs, c.one = true)
    (h3 : ∀ (j : Nat) c x, cs[j]? = some c → xs[j]? = some x → Rep F c x) (hd : look d st.h = none) (hn : d < st.n)
    (hK : K { st with t := (d, .p d 0) :: st.t, h := (d, .var cs) :: st.h, o := remo d st.o }) :
    ∃ ρ' st', SimS P T M F0 w0 F ρ' st' (a.put (some d) (.pointer (some ⟨w.heap.size, 0, none⟩))) (w.alloc (.cells xs e)) ∧ K st' := by
  refine ⟨fun i => if i = d then w.heap.size else ρ i, _, ?_, hK⟩
  unfold SimS
  rw [σ_cons]
  exact Sim.newBlk S hd hn (repB_new S.sees h1 h2 h3) (tv := .p d 0) (by simp [RepT]) (by simp [wfT, look_same])

theorem keyEq_same {k k' : V} {x x' : Value} (hk : Rep F k x) (hk' : Rep F k' x') (e : keyEq k k' = some true) : x' = x := by
  unfold keyEq at e
  split at e
  · split at e
    · rename_i hjk
      simp only [Option.some.injEq, decide_eq_true_eq] at e
      subst hjk e
      rw [rep_val_inv hk, rep_val_inv hk']
    · cases e
  · rename_i a b0
    simp only [Option.some.injEq, beq_iff_eq] at e
    subst e
    rw [rep_str_inv hk, rep_str_inv hk']
  · cases e

theorem sameBits_key {kt : TypeId} {k : V} {x : Value} (hk : Rep F k x) (ht : keyT P kt k = true) (m : Nat) : Instr.sameBits (m + 1) x x = true := by
  unfold keyT at ht
  split at ht
  · have := rep_val_inv hk; subst this; simp [Instr.sameBits]
  · have := rep_str_inv hk; subst this
    simp only [Instr.sameBits]
    exact (MapKept.bytes_beq _ _).2 rfl
  · cases ht

theorem upsert_run {k v : V} {x y : Value} {kt : TypeId} {d : TypeDesc} (hk : Rep F k x) (hv : Rep F v y) (ht : keyT P kt k = true) (hu : P.underlying kt = some d) (ck : Nat) :
    ∀ (es : List (V × V)) (xs : List MapEntry) (n : Nat) {es' : List (V × V)}, xs.length = es.length → (∀ (j : Nat) k' v' z, es[j]? = some (k', v') → xs[j]? = some z → Rep F k' z.key ∧ Rep F v' z.val) → upsert k v es = some es' →
      (∃ i z, Instr.findNow d x xs n = some (some (n + i, z.val)) ∧ xs[i]? = some z ∧ z.key = x ∧ (xs.modify i fun e => { e with key := x, val := y }).length = es'.length ∧
          ∀ (j : Nat) k' v' q, es'[j]? = some (k', v') → (xs.modify i fun e => { e with key := x, val := y })[j]? = some q → Rep F k' q.key ∧ Rep F v' q.val) ∨
      (Instr.findNow d x xs n = some none ∧ (xs ++ [({ key := x, val := y, born := ck } : MapEntry)]).length = es'.length ∧
          ∀ (j : Nat) k' v' q, es'[j]? = some (k', v') → (xs ++ [({ key := x, val := y, born := ck } : MapEntry)])[j]? = some q → Rep F k' q.key ∧ Rep F v' q.val)
  | [], [], n, es', _, _, e => by
    simp [upsert] at e; subst e
    refine .inr ⟨rfl, rfl, fun j k' v' q e1 e2 => ?_⟩
    cases j with
    | zero => simp at e1 e2; obtain ⟨rfl, rfl⟩ := e1; subst e2; exact ⟨hk, hv⟩
    | succ j => simp at e1
  | [], _ :: _, _, _, hl, _, _ => by simp at hl
  | _ :: _, [], _, _, hl, _, _ => by simp at hl
  | (k', v') :: es, z :: xs, n, es', hl, hh, e => by
    obtain ⟨h1, h2⟩ := hh 0 k' v' z rfl rfl
    simp only [upsert] at e
    cases hb : keyEq k k' with
    | none => rw [hb] at e; cases e
    | some b =>
      rw [hb] at e
      have hs := keyEq_now hk h1 ht hu hb
      cases b with
      | true =>
        simp only [Option.some.injEq] at e
        subst e
        refine .inl ⟨0, z, by simp [Instr.findNow, hs], rfl, keyEq_same hk h1 hb, by simpa using hl, fun j a b q e1 e2 => ?_⟩
        cases j with
        | zero => simp at e1 e2; obtain ⟨rfl, rfl⟩ := e1; subst e2; exact ⟨hk, hv⟩
        | succ j => simp at e1 e2; exact hh (j + 1) a b q (by simpa using e1) (by simpa using e2)
      | false =>
        simp only [Option.map_eq_some_iff] at e
        obtain ⟨es'', he, rfl⟩ := e
        rcases upsert_run hk hv ht hu ck es xs (n + 1) (by simpa using hl) (fun j a b c e1 e2 => hh (j + 1) a b c (by simpa using e1) (by simpa using e2)) he with ⟨i, q, g1, g2, g3, g4, g5⟩ | ⟨g1, g2, g3⟩
        · refine .inl ⟨i + 1, q, by simp [Instr.findNow, hs, g1, Nat.add_assoc, Nat.add_comm 1 i], by simpa using g2, g3, by simpa using g4, fun j a b c e1 e2 => ?_⟩
          cases j with
          | zero => simp at e1 e2; obtain ⟨rfl, rfl⟩ := e1; subst e2; exact ⟨h1, h2⟩
          | succ j => simp at e1 e2; exact g5 j a b c e1 (by simpa using e2)
        · refine .inr ⟨by simp [Instr.findNow, hs, g1], by simpa using g2, fun j a b c e1 e2 => ?_⟩
          cases j with
          | zero => simp at e1 e2; obtain ⟨rfl, rfl⟩ := e1; subst e2; exact ⟨h1, h2⟩
          | succ j => exact g3 j a b c (by simpa using e1) (by simpa using e2)

theorem store_run {b off : Nat} {ty t : TypeId} {xs : Array Value} {x : Value} {n : Nat} {inf : TypeInfo} (hi : P.info? t = some inf) (h : w.heap[b]? = some (.cells xs ty (0, 0))) (hn : x.cells.size = n) (hs : P.cellsOf t = n) (hfit : off + n ≤ xs.size)
    (h1 : ∀ u ∈ x.cells.toList, u.oneCell' = true) :
    (Instr.storeAt t (.pointer (some ⟨b, off, none⟩)) x).run P w = .ok () (w.setRow b (xs.toList.take off ++ x.cells.toList ++ xs.toList.drop (off + n)).toArray) := by
  have hst := run_storeCells_at P b off ty x.cells.toList 0 xs w h (by simp; omega) h1
  have hl : x.cells.toList.length = n := by simpa using hn
  simp only [Nat.add_zero, hl] at hst
  simp [Instr.storeAt, Instr.sureAddr, storeVar, run_sizeOf' hi, hs, hn, hst]

theorem clearK_sound {K : St → Prop} {c : Go.Call} (S : SimS P T M F0 w0 F ρ st a w) (ho : op.op = .call c) (hc : c.callee = .builtin .clear) (hk : clearK P op c st K)
    {next : Act → World → Prop} {Q : Exit → Act → World → Prop} (k : ∀ F' ρ' st' a' w', SimS P T M F0 w0 F' ρ' st' a' w' → K st' → next a' w') : op.wp P a w next Q := by
  have G := Sim.good S
  unfold clearK at hk
  split at hk
  · rename_i x t h1 h2 h3
    have hx1 : c.args = #[x] := by apply Array.ext'; simpa using h1
    have ht1 : c.argTypes = #[t] := by apply Array.ext'; simpa using h2
    split at hk
    · rename_i e size s hsl hx
      obtain ⟨hu, hsz, _⟩ := slV_some hsl
      obtain ⟨aa, cc, hv⟩ := rep_slice_len (show Rep F (.slice s []) (a.eval x) from S.opr x _ hx)
      unfold Oper.wp
      have : (execOp a.eval op).run P w = .ok (.value (.tuple #[])) w := by
        simp only [execOp, ho, resolve, hc, hx1, ht1, Sem.run_bind, Sem.run_pure, Result.andThen_ok, invoke, builtin, List.map_toArray, List.map_cons, List.map_nil, hv]
        cases aa <;> simp [Builtin.clear_, run_underlying hu]
      rw [this]
      show next (a.put op.dst _) _
      rw [h3]
      exact k F ρ st _ w S hk.2
    · rename_i e size id off n s hsl hx
      obtain ⟨hu, hsz, _⟩ := slV_some hsl
      split at hk
      · rename_i cs zs hb hz
        obtain ⟨rfl, hzl, hfit, hK⟩ := hk
        obtain ⟨z, z1, z2, z3, z4⟩ := zeroCs_some (P := P) (F := F) (w := w) hz
        obtain ⟨cap, q1, q2, q3, hv⟩ := show ∃ cap, n ≤ cap ∧ cap ≤ maxLen ∧ 0 < n ∧ a.eval x = _ from S.opr x _ hx
        obtain ⟨⟨xs, ty, b1, b2, b3, b4, b5⟩, hM, hlt⟩ := S.hp id _ hb
        have hz1 : ∀ u ∈ (Builtin.zeroCells z.cells n).toList, u.oneCell' = true := fun u hu => by
          simp only [Builtin.zeroCells, Array.toList_map, Array.toList_range, List.mem_map, List.mem_range] at hu
          obtain ⟨i, hi, rfl⟩ := hu
          have hpos : 0 < z.cells.size := by
            rcases Nat.eq_zero_or_pos z.cells.size with h0 | h0
            · rw [h0] at hi; omega
            · exact h0
          have hm : i % z.cells.size < z.cells.size := Nat.mod_lt _ hpos
          rw [show z.cells[i % z.cells.size]! = z.cells[i % z.cells.size] from getElem!_pos z.cells (i % z.cells.size) hm]
          have hm' : i % z.cells.size < zs.length := by rw [← z2]; exact hm
          exact (z4 _ _ _ (List.getElem?_eq_getElem hm') (Array.getElem?_eq_getElem hm)).one (z3 _ (List.getElem_mem hm'))
        have hzlen : (Builtin.zeroCells z.cells n).toList.length = n * s := by simp [Builtin.zeroCells, z2, hzl]
        have hst := run_storeCells_at P (ρ id) off ty (Builtin.zeroCells z.cells n).toList 0 xs w b1 (by rw [hzlen]; omega) hz1
        simp only [Nat.add_zero] at hst
        unfold Oper.wp
        have : (execOp a.eval op).run P w = .ok (.value (.tuple #[])) (w.setRow (ρ id) (xs.toList.take off ++ (Builtin.zeroCells z.cells n).toList ++ xs.toList.drop (off + (Builtin.zeroCells z.cells n).toList.length)).toArray) := by
          simp only [execOp, ho, resolve, hc, hx1, ht1, Sem.run_bind, Sem.run_pure, Result.andThen_ok, invoke, builtin, List.map_toArray, List.map_cons, List.map_nil, hv]
          obtain ⟨m, rfl⟩ : ∃ m, n = m + 1 := ⟨n - 1, by omega⟩
          simp [Builtin.clear_, run_underlying hu, z1, hst]
        rw [this]
        show next (a.put op.dst _) _
        rw [h3]
        refine k F ρ _ a _ ?_ hK
        refine Sim.write S hb rfl rfl rfl (by simp) (fun j hj => setRow_other w (ρ id) j _ hj) b5 (nomap S.sees b1) ⟨_, ty, setRow_heap w (ρ id) xs _ ty _ b1, ?_, fun c hc => b3 c (List.mem_of_mem_take hc), fun j c y e1 e2 => ?_, b5⟩
        · simp only [List.size_toArray, List.length_append, List.length_take, List.length_drop, Array.length_toList]
          omega
        · rw [List.getElem?_take] at e1
          split at e1
          · rename_i hj
            simp only [List.getElem?_toArray] at e2
            rw [List.append_assoc, List.getElem?_append_left (by simp; omega), List.getElem?_take, if_pos hj] at e2
            exact b4 j c y e1 (by simpa using e2)
          · cases e1
      · exact hk.elim
    · exact hk.elim
  · exact hk.elim

set_option maxHeartbeats 1000000 in
theorem stepO_sound {K : St → Prop} (S : SimS P T M F0 w0 F ρ st a w) (hk : stepO P T op st K) {next : Act → World → Prop} {Q : Exit → Act → World → Prop}
    (k : ∀ F' ρ' st' a' w', SimS P T M F0 w0 F' ρ' st' a' w' → K st' → next a' w') : op.wp P a w next Q := by
  have G := Sim.good S
  unfold stepO at hk
  split at hk
  · rename_i t n parts hop
    split at hk
    · rename_i hn0
      subst hn0
      split at hk
      · rename_i e size hsl
        obtain ⟨h0, hk⟩ := hk
        obtain ⟨hu, hsz, hz⟩ := slV_some hsl
        obtain ⟨inf, hi⟩ := info_of_cells (P := P) (t := e) (by omega)
        obtain rfl : parts = #[] := Array.eq_empty_of_size_eq_zero h0
        unfold Oper.wp
        have : (execOp a.eval op).run P w = .ok (.value (.slice (some ⟨w.heap.size, 0, none⟩) 0 0)) (w.alloc (.cells #[] e)) := by
          unfold execOp; rw [hop]
          have hr0 : Array.map (fun _ => (default : Value)) (Array.range 0) = #[] := by apply Array.ext'; simp
          simp [Instr.buildSlice, run_underlying hu, run_sizeOf' hi, Instr.fill, newRow_run, hr0]
        rw [this]
        have hx : Ext F w F (w.alloc (.cells #[] e)) := ⟨Le.refl F, ⟨fun p v e' => by
          rw [World.cell?_of_block (w := w) (Below.heap_alloc w _ _ (sees_lt S.sees e'))]; exact S.sees p v e', fun b xs e' => by
          obtain ⟨ck, hb⟩ := S.sees.m b xs e'
          exact ⟨ck, (Below.heap_alloc w _ _ (map_lt S.sees e')).trans hb⟩⟩, fun _ _ e => .inl e, fun _ _ e => .inl e, (Below.refl _ _).alloc (Nat.le_refl _) _⟩
        obtain ⟨st', S', hK'⟩ := retK_sound (y := .slice (some ⟨w.heap.size, 0, none⟩) 0 0) S hx (Rep.slice (es := []) (fun _ _ => undef) (by simp) (by simp) (by simp) (by simp) (by simp) (by simp)) (fun e' he => by
          cases he
          refine ⟨0, [], ⟨by simp, .inr ⟨w.heap.size, 0, #[], rfl, Nat.zero_le _, heap_alloc_new w _, Nat.le_refl _, Nat.zero_le _, by simp, by simp⟩⟩, fun g hg => ?_⟩
          simp only [Value.ownBlock, Option.some.injEq] at hg
          subst hg
          exact ⟨Nat.le_refl _, fun p v hp hb => absurd (sees_lt S.sees hp) (by omega)⟩) hk
        exact k F ρ st' _ _ S' hK'
      · exact hk.elim
    · exact evK_sound S hk k
  · rename_i cap hop
    obtain ⟨F', S'⟩ := frzC_sound (h := st.h) cap.toList S
    exact evK_sound S' hk k
  · rename_i x hop
    obtain ⟨st', S', hK⟩ := movK_sound S hk
    unfold Oper.wp
    have : (execOp a.eval op).run P w = .ok (.value (a.eval x)) w := by unfold execOp; rw [hop]; rfl
    rw [this]
    exact k F ρ st' _ w S' hK
  · rename_i x hop
    obtain ⟨st', S', hK⟩ := movK_sound S hk
    unfold Oper.wp
    have : (execOp a.eval op).run P w = .ok (.value (a.eval x)) w := by unfold execOp; rw [hop]; rfl
    rw [this]
    exact k F ρ st' _ w S' hK
  · rename_i e x hop
    split at hk
    · rename_i d v hd hv
      obtain ⟨h1, h2, h3, hK⟩ := hk
      obtain ⟨c1, c2, c3⟩ := cells_of_rep (G.v hv) h1
      obtain ⟨ρ', st', S', hK'⟩ := newvar_sound (e := e) S c1 c2 c3 h2 h3 hK
      unfold Oper.wp
      have : (execOp a.eval op).run P w = .ok (.value (.pointer (some ⟨w.heap.size, 0, none⟩))) (w.alloc (.cells (a.eval x).cells e)) := by unfold execOp; rw [hop]; rfl
      rw [this]
      show next (a.put op.dst _) _
      rw [hd]
      exact k F ρ' st' _ _ S' hK'
    · exact hk.elim
  · rename_i e hop
    split at hk
    · rename_i d zs hd hz
      obtain ⟨h2, h3, hK⟩ := hk
      obtain ⟨z, z1, z2, z3, z4⟩ := zeroCs_some (P := P) (F := F) (w := w) hz
      obtain ⟨ρ', st', S', hK'⟩ := newvar_sound (e := e) S z2 z3 z4 h2 h3 hK
      unfold Oper.wp
      have : (execOp a.eval op).run P w = .ok (.value (.pointer (some ⟨w.heap.size, 0, none⟩))) (w.alloc (.cells z.cells e)) := by
        unfold execOp; rw [hop]
        simp [Instr.alloc, z1, newVar, newRow_run]
      rw [this]
      show next (a.put op.dst _) _
      rw [hd]
      exact k F ρ' st' _ _ S' hK'
    · exact hk.elim
  · rename_i t ad x hop
    split at hk
    · rename_i id off v hp hv
      split at hk
      · rename_i cs hb
        obtain ⟨h1, h2, h3, h4, h5, hK⟩ := hk
        obtain ⟨c1, c2, c3⟩ := cells_of_rep (G.v hv) h1
        obtain ⟨⟨xs, ty, b1, b2, b3, b4, b5⟩, hB, hlt⟩ := S.hp id _ hb
        have hev := show a.eval ad = _ from S.opr ad _ hp
        obtain ⟨inf, hi⟩ := Option.isSome_iff_exists.1 h3
        have h1c : ∀ u ∈ (a.eval x).cells.toList, u.oneCell' = true := fun u hu => by
          obtain ⟨j, hj⟩ := List.getElem?_of_mem hu
          have hj' : (a.eval x).cells[j]? = some u := by simpa using hj
          have hlt := (Array.getElem?_eq_some_iff.1 hj').1
          have hc := List.getElem?_eq_getElem (l := v.cells) (i := j) (by omega)
          exact (c3 j _ u hc hj').one (c2 _ (List.mem_of_getElem? hc))
        have hrun := store_run (P := P) (w := w) (x := a.eval x) (t := t) (off := off) hi b1 c1 h2.symm (by omega) h1c
        unfold Oper.wp
        have : (execOp a.eval op).run P w = .ok .skip (w.setRow (ρ id) (xs.toList.take off ++ (a.eval x).cells.toList ++ xs.toList.drop (off + v.cells.length)).toArray) := by
          unfold execOp; rw [hop]
          simp only [hev, Sem.run_bind]
          rw [hrun]
          rfl
        rw [this]
        show next (a.put op.dst undef) _
        rw [h5]
        refine k F ρ _ a _ ?_ hK
        have hget : ∀ (j : Nat), (xs.toList.take off ++ (a.eval x).cells.toList ++ xs.toList.drop (off + v.cells.length))[j]? = if off ≤ j ∧ j < off + v.cells.length then (a.eval x).cells[j - off]? else xs[j]? := fun j => by
          have hcl : (a.eval x).cells.toList.length = v.cells.length := by simpa using c1
          have hxl : cs.length ≤ xs.toList.length := by simpa using b2
          by_cases g1 : j < off
          · rw [if_neg (by omega), List.append_assoc, List.getElem?_append_left (by simp; omega), List.getElem?_take, if_pos g1]; simp
          · by_cases g2 : j < off + v.cells.length
            · rw [if_pos (by omega), List.append_assoc, List.getElem?_append_right (by simp; omega), List.getElem?_append_left (by simp; omega)]
              simp
              congr 1; omega
            · rw [if_neg (by omega), List.append_assoc, List.getElem?_append_right (by simp; omega), List.getElem?_append_right (by simp; omega), List.getElem?_drop]
              simp
              congr 1; omega
        refine Sim.write S hb rfl rfl rfl (by simp) (fun j hj => setRow_other w (ρ id) j _ hj) b5 (nomap S.sees b1) ⟨_, ty, setRow_heap w (ρ id) xs _ ty _ b1, ?_, ?_, ?_, b5⟩
        · rw [setAt_length h4]
          simp only [List.size_toArray, List.length_append, List.length_take, List.length_drop, Array.length_toList, c1]
          omega
        · intro c hc
          obtain ⟨j, hj⟩ := List.getElem?_of_mem hc
          rw [setAt_get h4] at hj
          split at hj
          · exact c2 c (List.mem_of_getElem? hj)
          · exact b3 c (List.mem_of_getElem? hj)
        · intro j c y e1 e2
          simp only [List.getElem?_toArray] at e2
          rw [hget] at e2
          rw [setAt_get h4] at e1
          split at e1
          · rename_i hin
            rw [if_pos hin] at e2
            exact c3 _ c y e1 e2
          · rename_i hin
            rw [if_neg hin] at e2
            exact b4 j c y e1 e2
      · exact hk.elim
    · exact hk.elim
  · rename_i t hop
    split at hk
    · rename_i d hd
      obtain ⟨h1, h2, hK⟩ := hk
      unfold Oper.wp
      have : (execOp a.eval op).run P w = .ok (.value (.map (some w.heap.size))) (w.alloc (.map #[] 0)) := by
        unfold execOp; rw [hop]
        rfl
      rw [this]
      show next (a.put op.dst _) _
      rw [hd]
      refine k F (fun i => if i = d then w.heap.size else ρ i) _ _ _ ?_ hK
      unfold SimS
      rw [σ_cons]
      exact Sim.newBlk (k := .map []) (ob := .map #[] 0) S h1 h2 ⟨#[], 0, heap_alloc_new w _, nomap_new S.sees, rfl, by simp⟩ (tv := .m d) (by simp [RepT]) (by simp [wfT, look_same])
    · exact hk.elim
  · rename_i t m kk x hop
    split at hk
    · rename_i kt et id kv v hmk hm hkv hv
      split at hk
      · rename_i es hb
        split at hk
        · rename_i es' hup
          obtain ⟨h1, h2, hK⟩ := hk
          have hev := show a.eval m = _ from S.opr m _ hm
          obtain ⟨⟨xs, ck, b1, b0, b2, b3⟩, hB, hlt⟩ := S.hp id _ hb
          have hu : P.underlying t = some (.map kt et) := by
            unfold mapKV at hmk
            split at hmk
            · rename_i a b hu; cases hmk; exact hu
            · cases hmk
          have hkd : ∃ d, P.underlying kt = some d := by
            unfold keyT at h1
            cases hd : P.underlying kt with
            | none => rw [hd] at h1; cases kv <;> simp at h1
            | some d => exact ⟨d, rfl⟩
          obtain ⟨d, hd⟩ := hkd
          have hck := fun em => checkKey_plain em 9999 hd h1 (a.eval kk) w
          have hF : ∀ p u, F p = some u → p.block ≠ ρ id := fun p u hp he => by
            have := S.sees p u hp
            unfold World.cell? at this
            rw [he, b1] at this
            cases this
          have hrun : ∃ xs' ck', (Instr.mapUpdate t (a.eval m) (a.eval kk) (a.eval x)).run P w = .ok () { w with heap := w.heap.setIfInBounds (ρ id) (.map xs' ck') } ∧ xs'.size = es'.length ∧
              ∀ (j : Nat) k' v' q, es'[j]? = some (k', v') → xs'[j]? = some q → Rep F k' q.key ∧ Rep F v' q.val := by
            have hset : ∀ ob, (setObj (ρ id) ob).run P w = .ok () { w with heap := w.heap.setIfInBounds (ρ id) ob } := fun ob => by
              unfold setObj
              simp only [Sem.run]
              rw [b1]
            rcases upsert_run (F := F) (G.v hkv) (G.v hv) h1 hd ck es xs.toList 0 (by simpa using b2) (fun j a b c e1 e2 => b3 j a b c e1 (by simpa using e2)) hup with ⟨i, z, g1, g2, g3, g4, g5⟩ | ⟨g1, g2, g3⟩
            · refine ⟨xs.modify i fun e => { e with key := a.eval kk, val := a.eval x }, ck, ?_, by simpa using g4, fun j a b c e1 e2 => g5 j a b c e1 ?_⟩
              · have hz : xs[i]? = some z := by simpa using g2
                have hstay : (Instr.keyThatStays z.key (a.eval kk)).run P w = .ok (a.eval kk) w := by
                  rw [g3]
                  simp [Instr.keyThatStays, sameBits_key (G.v hkv) h1 9999]
                simp [Instr.mapUpdate, run_underlying hu, hev, getObj_map b1, hck, Instr.findKey, run_underlying hd, g1, hz, hstay, hset]
              · rw [← Array.toList_modify, Array.getElem?_toList]; exact e2
            · refine ⟨xs.push { key := a.eval kk, val := a.eval x, born := ck }, ck + 1, ?_, by simpa using g2, fun j a b c e1 e2 => g3 j a b c e1 ?_⟩
              · simp [Instr.mapUpdate, run_underlying hu, hev, getObj_map b1, hck, Instr.findKey, run_underlying hd, g1, hset]
              · rw [← Array.toList_push, Array.getElem?_toList]; exact e2
          obtain ⟨xs', ck', r1, r2, r3⟩ := hrun
          unfold Oper.wp
          have : (execOp a.eval op).run P w = .ok .skip { w with heap := w.heap.setIfInBounds (ρ id) (.map xs' ck') } := by
            unfold execOp; rw [hop]
            simp only [Sem.run_bind]
            rw [r1]
            rfl
          rw [this]
          show next (a.put op.dst undef) _
          rw [h2]
          refine k F ρ _ a _ ?_ hK
          refine Sim.write S hb rfl rfl rfl (by simp) (fun j hj => ?_) hF b0 ⟨xs', ck', ?_, b0, r2, r3⟩
          · simp [Array.getElem?_setIfInBounds_ne (Ne.symm hj)]
          · simp [hlt]
        · exact hk.elim
      · exact hk.elim
    · exact hk.elim
  · rename_i c hop
    split at hk
    · rename_i f hc
      split at hk
      · rename_i g cap vs hf hvs
        refine call_sound S hop hc hf hvs hk (fun F' w' y r own hx hr ho hK => ?_) (fun F' w' y size es hx hn hK => ?_)
        · obtain ⟨st', S', hK'⟩ := retK_sound S hx hr ho hK
          exact k F' ρ st' _ w' S' hK'
        · obtain ⟨ρ', st', S', hK'⟩ := newK_sound S hx hn hK
          exact k F' ρ' st' _ w' S' hK'
      · rename_i g cap hf _
        split at hk
        · rename_i ts hts
          refine callM_sound S hop hc hf hts hk fun F' w' y st' tv S' hr hw hK => ?_
          obtain ⟨st'', S'', hK'⟩ := putK_sound S' hr hw hK
          exact k F' ρ st'' _ w' S'' hK'
        · exact hk.elim
      · exact hk.elim
    · rename_i hc
      exact appK_sound S hop hc hk k
    · rename_i hc
      exact clearK_sound S hop hc hk k
    · exact evK_sound S hk k
  · rename_i o t x y _ hop
    split at hk
    · rename_i size hx hy
      have hb := rep_val_inv (G.v hy)
      obtain ⟨a0, c0, ha⟩ := rep_slice_len (G.v hx)
      simp only [List.length_nil] at ha
      unfold nilK at hk
      split at hk
      · obtain ⟨hs, hk⟩ := hk
        obtain ⟨e', hu⟩ := slV_isSome hs
        have hr : (execOp a.eval op).run P w = .ok (.value (.bool a0.isNone)) w := by
          unfold execOp; rw [hop]
          exact execOp_v (by rw [ha, hb]; simp [eqGuard, binOp_eql (equal_slice_nil hu a0 0 c0 w) rfl])
        unfold Oper.wp
        rw [hr]
        obtain ⟨st', S', hK⟩ := putK_sound (tv := .v (.val (.bool a0.isNone))) S (.val _) trivial (hk _)
        exact k F ρ st' _ w S' hK
      · obtain ⟨hs, hk⟩ := hk
        obtain ⟨e', hu⟩ := slV_isSome hs
        have hr : (execOp a.eval op).run P w = .ok (.value (.bool (!a0.isNone))) w := by
          unfold execOp; rw [hop]
          exact execOp_v (by rw [ha, hb]; simp [eqGuard, binOp_neq (equal_slice_nil hu a0 0 c0 w) rfl])
        unfold Oper.wp
        rw [hr]
        obtain ⟨st', S', hK⟩ := putK_sound (tv := .v (.val (.bool (!a0.isNone)))) S (.val _) trivial (hk _)
        exact k F ρ st' _ w S' hK
      · exact hk.elim
    · exact evK_sound S hk k
  · exact evK_sound S hk k
end Go.Ab
