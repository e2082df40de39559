/-
  One operation in the text's order: soundness.
-/
import Derived.Test.YtbofgklhjjfbkaaGreatDoorAb13
namespace Go.Ab
open Go.RowKit
variable {P : Program} {T : Lay}
variable {w : World} {M : Nat → Prop} {F0 F : Frz} {w0 : World} {ρ : Nat → Nat} {n : Nat} {σ : Sto} {h : List (Nat × Blk)} {o : List (TypeId × List Nat)} {a : Act}

/-- a local block that was made just now gets a name -/
theorem Sim.bind (S : Sim P T M F0 w0 F ρ n σ h o a w) {d b : Nat} {k : Blk} (hdn : d < n) (hd : look d h = none) (hb : RepB F w b k) (h1 : M b) (h2 : b < w.heap.size)
    (hloc : ∀ id k', look id h = some k' → ρ id ≠ b) (hown : ∀ (j : Nat) e c, o[j]? = some (e, c) → ∀ i ∈ c, ∀ u, a.tmps[i]? = some u → u.ownBlock ≠ some b) :
    Sim P T M F0 w0 F (fun i => if i = d then b else ρ i) n σ ((d, k) :: h) o a w := by
  have hne : ∀ id k', look id h = some k' → id ≠ d := fun id k' e he => by subst he; rw [hd] at e; cases e
  refine { S with tm := ?_, wf := ?_, hp := ?_, z := ?_, inj := ?_, ow := ?_ }
  rotate_left 3
  · intro k' e
    have hne' : ¬ 999999 = d := by have := S.nn; have := S.n; omega
    rw [look_cons, if_neg hne'] at e
    simp only [if_neg hne']
    exact S.z k' e
  rotate_left 2
  · intro i tv e
    obtain ⟨x, e1, e2⟩ := S.tm i tv e
    refine ⟨x, e1, ?_⟩
    have hw := S.wf i tv e
    cases tv with
    | v y => exact e2
    | p id off =>
      have : id ≠ d := fun he => hw (he ▸ hd)
      simp only [RepT] at e2 ⊢
      rw [if_neg this]; exact e2
    | m id =>
      have : id ≠ d := fun he => hw (he ▸ hd)
      simp only [RepT] at e2 ⊢
      rw [if_neg this]; exact e2
    | s id off m size =>
      have : id ≠ d := fun he => hw (he ▸ hd)
      simp only [RepT] at e2 ⊢
      rw [if_neg this]; exact e2
    | u => trivial
  · intro i tv e
    have hw := S.wf i tv e
    have aux : ∀ id, look id h ≠ none → look id ((d, k) :: h) ≠ none := fun id hi => by
      rw [look_cons]; split
      · simp
      · exact hi
    cases tv with
    | p id off => exact aux id hw
    | m id => exact aux id hw
    | s id off m size => exact aux id hw
    | v y => trivial
    | u => trivial
  · intro id k' e
    rw [look_cons] at e
    split at e
    · rename_i he
      cases e
      simp only [he, if_true]
      exact ⟨hb, h1, h2⟩
    · rename_i he
      simp only [he, if_false]
      exact S.hp id k' e
  · intro id id' k1 k2 e1 e2 heq
    rw [look_cons] at e1 e2
    split at e1 <;> split at e2
    · rename_i g1 g2; rw [g1, g2]
    · rename_i g1 g2
      simp only [g1, g2, if_true, if_false] at heq
      exact absurd heq.symm (hloc id' k2 e2)
    · rename_i g1 g2
      simp only [g1, g2, if_true, if_false] at heq
      exact absurd heq (hloc id k1 e1)
    · rename_i g1 g2
      simp only [g1, g2, if_false] at heq
      exact S.inj id id' k1 k2 e1 e2 heq
  · intro j e c hj
    obtain ⟨v, e1, e2, e3⟩ := S.ow j e c hj
    by_cases hemp : c = []
    · subst hemp
      exact ⟨.slice none 0 0, by simp, ⟨0, [], World.ownsRow_nil _ _ _ _, fun g hg' => by simp [Value.ownBlock] at hg'⟩, fun id k' _ => by simp [Value.ownBlock]⟩
    · obtain ⟨i, hi⟩ := List.exists_mem_of_ne_nil c hemp
      refine ⟨v, e1, e2, fun id k' e => ?_⟩
      rw [look_cons] at e
      split at e
      · rename_i he
        simp only [he, if_true]
        exact hown j _ c hj i hi v (e1 i hi)
      · rename_i he
        simp only [he, if_false]
        exact e3 id k' e

theorem sees_lt (hF : Sees F w) {p : Addr} {v : Value} (e : F p = some v) : p.block < w.heap.size := cell_lt (hF p v e)

/-- a new variable -/
theorem Sim.newBlk (S : Sim P T M F0 w0 F ρ n σ h o a w) {d : Nat} {k : Blk} {ob : Obj} (hd : look d h = none) (hn : d < n) (hb : RepB F (w.alloc ob) w.heap.size k) {tv : TV} {y : Value}
    (hr : RepT F (fun i => if i = d then w.heap.size else ρ i) tv y) (hw : wfT ((d, k) :: h) tv) :
    Sim P T M F0 w0 F (fun i => if i = d then w.heap.size else ρ i) n (upd σ (some d) tv) ((d, k) :: h) (Go.Ab.remo d o) (a.put (some d) y) (w.alloc ob) := by
  have hx : Ext F w F (w.alloc ob) := ⟨Le.refl F, ⟨fun p v e => by
    rw [World.cell?_of_block (w := w) (Below.heap_alloc w ob _ (sees_lt S.sees e))]; exact S.sees p v e, fun b xs e => by
    obtain ⟨ck, hb⟩ := S.sees.m b xs e
    exact ⟨ck, (Below.heap_alloc w ob _ (map_lt S.sees e)).trans hb⟩⟩, fun _ _ e => .inl e, fun _ _ e => .inl e, (Below.refl _ _).alloc (Nat.le_refl _) _⟩
  have S1 := S.ext hx
  refine Sim.putr (Sim.bind S1 hn hd hb (S.hM _ S.bel.size) (by simp) (fun id k' e => Nat.ne_of_lt (S.hp id k' e).2.2) (fun j e c hj i hi u hu => ?_)) hr hw hn
  obtain ⟨v, e1, ⟨m, xs, e2, _⟩, _⟩ := S.ow j e c hj
  have : v = u := by have := e1 i hi; rw [hu] at this; exact (Option.some.inj this).symm
  subst this
  intro he
  exact absurd (e2.lt _ he).2 (by omega)

/-- a local block is written -/
theorem Sim.write (S : Sim P T M F0 w0 F ρ n σ h o a w) {id : Nat} {k0 k : Blk} (hk0 : look id h = some k0) {w' : World}
    (hos : w'.os = w.os) (htp : w'.tape = w.tape) (hou : w'.output = w.output) (hsz : w'.heap.size = w.heap.size) (hbl : ∀ j, j ≠ ρ id → w'.heap[j]? = w.heap[j]?)
    (hF : ∀ p v, F p = some v → p.block ≠ ρ id) (hFm : F.m (ρ id) = none) (hk : RepB F w' (ρ id) k) : Sim P T M F0 w0 F ρ n σ (seth id k h) o a w' := by
  have hlook : ∀ id', look id' (seth id k h) = if id' = id then some k else look id' h := by
    have : ∀ (h : List (Nat × Blk)), look id h ≠ none → ∀ id', look id' (seth id k h) = if id' = id then some k else look id' h := by
      intro h
      induction h with
      | nil => intro hh; exact absurd rfl hh
      | cons x r ih =>
        obtain ⟨j, b⟩ := x
        intro hh id'
        simp only [seth]
        by_cases hj : id = j
        · subst hj
          simp only [if_true]
          rw [look_cons, look_cons]
          split
          · rfl
          · rfl
        · rw [if_neg hj, look_cons, look_cons]
          rw [look_cons, if_neg hj] at hh
          rw [ih hh id']
          by_cases h1 : id' = j
          · subst h1
            simp [Ne.symm hj]
          · simp [h1]
    exact this h (by rw [hk0]; simp)
  have hnone : ∀ id', look id' h ≠ none → look id' (seth id k h) ≠ none := fun id' hh => by
    rw [hlook]; split
    · simp
    · exact hh
  have hother : ∀ id' k', look id' h = some k' → id' ≠ id → ρ id' ≠ ρ id := fun id' k' e hne heq => hne (S.inj id' id k' k0 e hk0 heq)
  have hBid := (S.hp id k0 hk0).2.1
  have hrepb : ∀ b k', RepB F w b k' → b ≠ ρ id → RepB F w' b k' := fun b k' hr hne => by
    cases k' with
    | var cs => obtain ⟨xs, ty, e1, e2⟩ := hr; exact ⟨xs, ty, (hbl b hne).trans e1, e2⟩
    | con cs => exact hr
    | map es => obtain ⟨xs, ck, e1, e2⟩ := hr; exact ⟨xs, ck, (hbl b hne).trans e1, e2⟩
  refine { n := S.n, df := S.df, sees := ⟨fun p v e => ?_, fun b xs e => by
    obtain ⟨ck, hb⟩ := S.sees.m b xs e
    exact ⟨ck, (hbl b fun he => by subst he; rw [hFm] at e; cases e).trans hb⟩⟩, lay := S.lay, le := S.le, new := S.new, newm := S.newm, bel := ?_, hM := S.hM, tm := S.tm, wf := ?_, hp := ?_, nn := S.nn, z := ?_, inj := ?_, ow := ?_, od := S.od }
  rotate_left 4
  · intro k' e
    rw [hlook] at e
    split at e
    · rename_i he; subst he; exact S.z k0 hk0
    · exact S.z k' e
  rotate_left 2
  · rw [World.cell?_of_block (w := w) (hbl p.block (hF p v e))]; exact S.sees p v e
  · exact S.bel.trans ⟨hos, htp, hou, by omega, fun q hq hm => hbl q (fun e => hm (e ▸ hBid))⟩
  · intro i tv e
    have hw := S.wf i tv e
    cases tv with
    | p id' off => exact hnone id' hw
    | m id' => exact hnone id' hw
    | s id' off m size => exact hnone id' hw
    | v y => trivial
    | u => trivial
  · intro id' k' e
    rw [hlook] at e
    split at e
    · rename_i he
      cases e
      subst he
      exact ⟨hk, hBid, (by rw [hsz]; exact (S.hp id' k0 hk0).2.2)⟩
    · rename_i he
      obtain ⟨r1, r2, r3⟩ := S.hp id' k' e
      exact ⟨hrepb _ _ r1 (hother id' k' e he), r2, (by rw [hsz]; exact r3)⟩
  · intro id1 id2 k1 k2 e1 e2 heq
    have g : ∀ id' k', look id' (seth id k h) = some k' → ∃ k'', look id' h = some k'' := fun id' k' e => by
      rw [hlook] at e
      split at e
      · rename_i he; subst he; exact ⟨k0, hk0⟩
      · exact ⟨k', e⟩
    obtain ⟨k1', e1'⟩ := g id1 k1 e1
    obtain ⟨k2', e2'⟩ := g id2 k2 e2
    exact S.inj id1 id2 k1' k2' e1' e2' heq
  · intro j e c hj
    obtain ⟨v, e1, ⟨m, xs, e2, e3⟩, e4⟩ := S.ow j e c hj
    have hne := e4 id k0 hk0
    refine ⟨v, e1, ⟨m, xs, ?_, e3⟩, fun id' k' e => ?_⟩
    · refine e2.kept (row := some (ρ id)) ⟨hos, htp, hou, by omega, fun q hq hq' => hbl q (fun e' => hq' (by rw [e']))⟩ ?_
      cases hv : v.ownBlock with
      | none => exact .inl rfl
      | some g => right; rw [hv] at hne; exact hne
    · rw [hlook] at e
      split at e
      · rename_i he; subst he; exact hne
      · exact e4 id' k' e

theorem ownOf_some {i : Nat} {e : TypeId} : ∀ {o : List (TypeId × List Nat)}, ownOf i o = some e → ∃ (j : Nat) (c : List Nat), o[j]? = some (e, c) ∧ i ∈ c
  | [], h => by cases h
  | (e', c') :: r, h => by
    simp only [ownOf] at h
    split at h
    · rename_i hc
      cases h
      exact ⟨0, c', rfl, by simpa using hc⟩
    · obtain ⟨j, c, h1, h2⟩ := ownOf_some h
      exact ⟨j + 1, c, by simpa using h1, h2⟩
theorem delo_not {i : Nat} {o : List (TypeId × List Nat)} (j : Nat) (e : TypeId) (c : List Nat) (hj : (delo i o)[j]? = some (e, c)) : i ∉ c := by
  simp only [delo, List.getElem?_map, Option.map_eq_some_iff] at hj
  obtain ⟨⟨e', c'⟩, h1, h2⟩ := hj
  split at h2
  · simp only [Prod.mk.injEq] at h2; obtain ⟨_, rfl⟩ := h2; simp
  · rename_i hc
    simp only [Prod.mk.injEq] at h2
    obtain ⟨_, rfl⟩ := h2
    simpa using hc
theorem delo_mem {i k : Nat} {o : List (TypeId × List Nat)} (j : Nat) (e : TypeId) (c : List Nat) (hj : (delo i o)[j]? = some (e, c)) (hk : k ∈ c) : o[j]? = some (e, c) ∧ i ∉ c := by
  refine ⟨?_, delo_not j e c hj⟩
  simp only [delo, List.getElem?_map, Option.map_eq_some_iff] at hj
  obtain ⟨⟨e', c'⟩, h1, h2⟩ := hj
  split at h2
  · simp only [Prod.mk.injEq] at h2; obtain ⟨_, rfl⟩ := h2; simp at hk
  · simp only [Prod.mk.injEq] at h2
    obtain ⟨rfl, rfl⟩ := h2
    exact h1

/-- an owner more: a temporary that holds a row of its own -/
theorem Sim.newOwn (S : Sim P T M F0 w0 F ρ n σ h o a w) {d : Nat} {e : TypeId} {v : Value} (hv : a.tmps[d]? = some v) (ho : Own F w M e (P.cellsOf e) v)
    (hloc : ∀ id b, look id h = some b → v.ownBlock ≠ some (ρ id))
    (hoth : ∀ (j : Nat) e c, o[j]? = some (e, c) → ∀ i ∈ c, ∀ u g, a.tmps[i]? = some u → v.ownBlock = some g → u.ownBlock ≠ some g) :
    Sim P T M F0 w0 F ρ n σ h ((e, [d]) :: o) a w := by
  refine { S with ow := ?_, od := ?_ }
  · intro j e' c hj
    cases j with
    | zero =>
      simp only [List.getElem?_cons_zero, Option.some.injEq, Prod.mk.injEq] at hj
      obtain ⟨rfl, rfl⟩ := hj
      exact ⟨v, fun i hi => by simp at hi; subst hi; exact hv, ho, hloc⟩
    | succ j => exact S.ow j e' c (by simpa using hj)
  · intro j j' e1 c1 e2 c2 hne hj hj' i hi i' hi' u u' g hu hu' hg
    cases j with
    | zero =>
      cases j' with
      | zero => exact absurd rfl hne
      | succ j' =>
        simp only [List.getElem?_cons_zero, Option.some.injEq, Prod.mk.injEq] at hj
        obtain ⟨rfl, rfl⟩ := hj
        simp only [List.mem_singleton] at hi
        subst hi
        rw [hv] at hu; cases hu
        exact hoth j' e2 c2 (by simpa using hj') i' hi' u' g hu' hg
    | succ j =>
      cases j' with
      | zero =>
        simp only [List.getElem?_cons_zero, Option.some.injEq, Prod.mk.injEq] at hj'
        obtain ⟨rfl, rfl⟩ := hj'
        simp only [List.mem_singleton] at hi'
        subst hi'
        rw [hv] at hu'; cases hu'
        intro hg'
        exact hoth j e1 c1 (by simpa using hj) i hi u g hu hg' hg
      | succ j' => exact S.od j j' e1 c1 e2 c2 (by omega) (by simpa using hj) (by simpa using hj') i hi i' hi' u u' g hu hu' hg
end Go.Ab
