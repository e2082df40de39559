/-
  The calculus of values without addresses, its executor and their soundness: a part of the framework, no program in sight.
-/
import Derived.Test.YteedjclogdckhaaGreatDoorBaA
import Derived.Laws.CopyRow

namespace Go.Ab
open Go.RowKit
/-- memory that lies from the beginning: cells, and rows that are known whole -/
structure Lay where
  f : Frz
  r : Nat → Option (Array Value)
variable {P : Program} {T : Lay}

def Enters (P : Program) (f : FuncId) : Prop := ∀ args w, (callFunc f args).run P w = .ok (.enter f args) w

/-- values that stand for arguments -/
def Reps (F : Frz) (vs : List V) (xs : List Value) : Prop := xs.length = vs.length ∧ ∀ (j : Nat) v x, vs[j]? = some v → xs[j]? = some x → Rep F v x

def Laid (T : Lay) (F : Frz) (w : World) : Prop :=
  Le T.f F ∧ ∀ g xs, T.r g = some xs → (∃ ty fz, w.heap[g]? = some (.cells xs ty fz)) ∧ ∃ o v, F ⟨g, o, none⟩ = some v

/-- Called with values that stand for 'args', in whatever memory, f returns what stands for r, and has only added memory. -/
def Den (P : Program) (T : Lay) (f : FuncId) (args : List V) (r : V) : Prop :=
  Enters P f ∧ ∀ (w : World) (F : Frz) (xs : List Value), Sees F w → Laid T F w → Reps F args xs →
    Calls P f xs.toArray w fun e w' => ∃ y F', e = .returned y ∧ Ext F w F' w' ∧ Rep F' r y

/-- a slice that nobody else may write or append to -/
def Own (F : Frz) (w : World) (M : Nat → Prop) (e : TypeId) (size : Nat) (y : Value) : Prop :=
  ∃ n xs, w.ownsRow 0 e size y n xs ∧ ∀ g, y.ownBlock = some g → M g ∧ ∀ p v, F p = some v → p.block = g → p.off < n * size

/-- nothing has changed but what may -/
structure BelM (M : Nat → Prop) (w w' : World) : Prop where
  os : w'.os = w.os
  tape : w'.tape = w.tape
  output : w'.output = w.output
  size : w.heap.size ≤ w'.heap.size
  block : ∀ q, q < w.heap.size → ¬ M q → w'.heap[q]? = w.heap[q]?
theorem BelM.refl (M : Nat → Prop) (w : World) : BelM M w w := ⟨rfl, rfl, rfl, Nat.le_refl _, fun _ _ _ => rfl⟩
theorem BelM.trans {M : Nat → Prop} {w w' w'' : World} (h : BelM M w w') (k : BelM M w' w'') : BelM M w w'' :=
  ⟨k.os.trans h.os, k.tape.trans h.tape, k.output.trans h.output, Nat.le_trans h.size k.size, fun q hq hm => (k.block q (Nat.lt_of_lt_of_le hq h.size) hm).trans (h.block q hq hm)⟩
theorem BelM.of {M : Nat → Prop} {w w' : World} (h : Below w.heap.size w w') : BelM M w w' := ⟨h.os, h.tape, h.output, h.size, fun q hq _ => h.block q hq⟩

def DenO (P : Program) (T : Lay) (f : FuncId) (args : List V) (e : TypeId) (r : V) : Prop :=
  Enters P f ∧ ∀ (w : World) (F : Frz) (xs : List Value), Sees F w → Laid T F w → Reps F args xs →
    Calls P f xs.toArray w fun en w' => ∃ y F', en = .returned y ∧ Ext F w F' w' ∧ Rep F' r y ∧ Own F' w' (fun g => w.heap.size ≤ g) e (P.cellsOf e) y

theorem DenO.den {f : FuncId} {args : List V} {e : TypeId} {r : V} (h : DenO P T f args e r) : Den P T f args r :=
  ⟨h.1, fun w F xs h1 h0 h2 => (h.2 w F xs h1 h0 h2).mono fun _ _ ⟨y, F', e1, e2, e3, _⟩ => ⟨y, F', e1, e2, e3⟩⟩

/-- a row that nobody has looked at; es its elements -/
def New (F : Frz) (w : World) (lo size : Nat) (es : List (List V)) (y : Value) : Prop :=
  (es = [] ∧ Rep F (.slice size []) y) ∨ ∃ b cap, y = .slice (some ⟨b, 0, none⟩) es.length cap ∧ es.length ≤ cap ∧ cap ≤ maxLen ∧ es ≠ [] ∧ lo ≤ b ∧ b < w.heap.size ∧ RepB F w b (.var es.flatten)
def DenN (P : Program) (T : Lay) (f : FuncId) (args : List V) (size : Nat) (es : List (List V)) : Prop :=
  Enters P f ∧ ∀ (w : World) (F : Frz) (xs : List Value), Sees F w → Laid T F w → Reps F args xs →
    Calls P f xs.toArray w fun en w' => ∃ y F', en = .returned y ∧ Ext F w F' w' ∧ New F' w' w.heap.size size es y

/-- What has been added, and one block written. -/
structure ExtX (b : Nat) (F : Frz) (w : World) (F' : Frz) (w' : World) : Prop where
  le : Le F F'
  fr : Sees F' w'
  new : ∀ p v, F' p = some v → F p = some v ∨ w.heap.size ≤ p.block
  newm : ∀ b xs, F'.m b = some xs → F.m b = some xs ∨ w.heap.size ≤ b
  os : w'.os = w.os
  tape : w'.tape = w.tape
  output : w'.output = w.output
  size : w.heap.size ≤ w'.heap.size
  block : ∀ q, q < w.heap.size → q ≠ b → w'.heap[q]? = w.heap[q]?

/-- values, some of which point into the block b -/
def RepsT (F : Frz) (b : Nat) (ts : List TV) (xs : List Value) : Prop := xs.length = ts.length ∧ ∀ (j : Nat) t x, ts[j]? = some t → xs[j]? = some x → RepT F (fun _ => b) t x
/-- A call that may write one block: cs its cells before, cs' behind. In the arguments and in the result the block is number 0. -/
def DenM (P : Program) (T : Lay) (f : FuncId) (cs : List V) (args : List TV) (cs' : List V) (r : TV) : Prop :=
  Enters P f ∧ ∀ (w : World) (F : Frz) (b : Nat) (xs : List Value), Sees F w → Laid T F w → RepB F w b (.var cs) → RepsT F b args xs →
    Calls P f xs.toArray w fun en w' => ∃ y F', en = .returned y ∧ ExtX b F w F' w' ∧ RepB F' w' b (.var cs') ∧ RepT F' (fun _ => b) r y

/-- the same, known less well: a nil slice is an empty one -/
inductive Wk : V → V → Prop
  | refl (v : V) : Wk v v
  | nil (n : Nat) : Wk (.val (.slice none 0 0)) (.slice n [])
  | tup {vs us : List V} (hl : vs.length = us.length) (h : ∀ (j : Nat) v u, vs[j]? = some v → us[j]? = some u → Wk v u) : Wk (.tup vs) (.tup us)
  | agg {vs us : List V} (hl : vs.length = us.length) (ho : ∀ c ∈ us, c.one = true) (h : ∀ (j : Nat) v u, vs[j]? = some v → us[j]? = some u → Wk v u) : Wk (.agg vs) (.agg us)
  | slice {size : Nat} {es us : List (List V)} (hl : es.length = us.length) (hs : ∀ e ∈ us, e.length = size) (ho : ∀ e ∈ us, ∀ c ∈ e, c.one = true)
      (h : ∀ (i j : Nat) e u v c, es[i]? = some e → us[i]? = some u → e[j]? = some v → u[j]? = some c → Wk v c) : Wk (.slice size es) (.slice size us)
theorem get_of_len {α β : Type} {l : List α} {m : List β} (hl : l.length = m.length) {j : Nat} {y : β} (h : m[j]? = some y) : ∃ x, l[j]? = some x := by
  have := (List.getElem?_eq_some_iff.1 h).1
  exact ⟨_, List.getElem?_eq_getElem (by omega)⟩
theorem rep_wk {F : Frz} {v u : V} (h : Wk v u) : ∀ {x : Value}, Rep F v x → Rep F u x := by
  induction h with
  | refl v => exact id
  | nil n => intro x hx; rw [rep_val_inv hx]; exact .snil
  | tup hl h ih =>
    intro x hx
    cases hx with
    | tup hl' h' =>
      refine .tup (hl'.trans hl) fun j c y e1 e2 => ?_
      obtain ⟨v, hv⟩ := get_of_len hl e1
      exact ih j v c hv e1 (h' j v y hv e2)
  | agg hl ho h ih =>
    intro x hx
    cases hx with
    | agg hl' ho' h' =>
      refine .agg (hl'.trans hl) ho fun j c y e1 e2 => ?_
      obtain ⟨v, hv⟩ := get_of_len hl e1
      exact ih j v c hv e1 (h' j v y hv e2)
  | @slice size es us hl hs ho h ih =>
    intro x hx
    rcases rep_slice_inv hx with ⟨rfl, he⟩ | ⟨a, cap, g, rfl, hc, hm, hs', ho', hg, hr⟩
    · subst he
      rw [List.eq_nil_of_length_eq_zero hl.symm]
      exact .snil
    · rw [hl] at hc ⊢
      have get : ∀ (i j : Nat) (u : List V) (c : V), us[i]? = some u → u[j]? = some c → ∃ e v, es[i]? = some e ∧ e[j]? = some v := fun i j u c e1 e2 => by
        obtain ⟨e, he⟩ := get_of_len hl e1
        have h1 := hs' e (List.mem_of_getElem? he)
        have h2 := hs u (List.mem_of_getElem? e1)
        obtain ⟨v, hv⟩ := get_of_len (h1.trans h2.symm) e2
        exact ⟨e, v, he, hv⟩
      refine .slice g hc hm hs ho (fun i j u c e1 e2 => ?_) (fun i j u c e1 e2 => ?_)
      · obtain ⟨e, v, he, hv⟩ := get i j u c e1 e2
        exact hg i j e v he hv
      · obtain ⟨e, v, he, hv⟩ := get i j u c e1 e2
        exact ih i j e u v c he e1 hv e2 (hr i j e v he hv)
theorem Wk.t2 {a b c d : V} (h : Wk a b) (h' : Wk c d) : Wk (.tup [a, c]) (.tup [b, d]) := .tup rfl fun j v u e1 e2 => by
  match j with
  | 0 => simp at e1 e2; subst e1 e2; exact h
  | 1 => simp at e1 e2; subst e1 e2; exact h'
  | j + 2 => simp at e1
theorem Wk.t3 {a b c d e f : V} (h : Wk a b) (h' : Wk c d) (h'' : Wk e f) : Wk (.tup [a, c, e]) (.tup [b, d, f]) := .tup rfl fun j v u e1 e2 => by
  match j with
  | 0 => simp at e1 e2; subst e1 e2; exact h
  | 1 => simp at e1 e2; subst e1 e2; exact h'
  | 2 => simp at e1 e2; subst e1 e2; exact h''
  | j + 3 => simp at e1
theorem Wk.of {a b : V} (h : a = b) : Wk a b := h ▸ .refl a
inductive Wks : List V → List V → Prop
  | nil : Wks [] []
  | cons {a b : V} {l m : List V} (h : Wk a b) (t : Wks l m) : Wks (a :: l) (b :: m)
theorem Wks.rep {F : Frz} {l m : List V} (h : Wks l m) : ∀ {xs : List Value}, Reps F l xs → Reps F m xs := by
  induction h with
  | nil => exact id
  | cons h t ih =>
    rintro xs ⟨h1, h2⟩
    match xs, h1 with
    | x :: xs, h1 =>
      have := ih (xs := xs) ⟨by simpa using h1, fun j v y e1 e2 => h2 (j + 1) v y (by simpa using e1) (by simpa using e2)⟩
      refine ⟨by simp [this.1], fun j v y e1 e2 => ?_⟩
      cases j with
      | zero => simp at e1 e2; subst e1 e2; exact rep_wk h (h2 0 _ _ rfl rfl)
      | succ j => exact this.2 j v y (by simpa using e1) (by simpa using e2)
theorem Den.wk {f : FuncId} {args args' : List V} {r : V} (h : Den P T f args r) (hw : Wks args' args) : Den P T f args' r :=
  ⟨h.1, fun w F xs h1 h2 h3 => h.2 w F xs h1 h2 (hw.rep h3)⟩
theorem DenO.wk {f : FuncId} {args args' : List V} {e : TypeId} {r : V} (h : DenO P T f args e r) (hw : Wks args' args) : DenO P T f args' e r :=
  ⟨h.1, fun w F xs h1 h2 h3 => h.2 w F xs h1 h2 (hw.rep h3)⟩
theorem Den.out {f : FuncId} {args : List V} {r r' : V} (h : Den P T f args r) (hw : Wk r r') : Den P T f args r' :=
  ⟨h.1, fun w F xs h1 h0 h2 => (h.2 w F xs h1 h0 h2).mono fun _ _ ⟨y, F', e1, e2, e3⟩ => ⟨y, F', e1, e2, rep_wk hw e3⟩⟩

abbrev Sto := Nat → Option TV

def opv (σ : Sto) : Operand → Option TV
  | .tmp i => σ i
  | .const v => bif okVal v then some (.v (ofVal v)) else none
  | .func f => some (.v (.func f []))
  | .global _ => none

def upd (σ : Sto) (d : Option Tmp) (tv : TV) : Sto :=
  match d with
  | none => σ
  | some d => fun i => if i = d then some tv else σ i

def Yields (P : Program) (T : Lay) (σ : Sto) (h : List (Nat × Blk)) (o : Oper) (tv : TV) : Prop :=
  evq P (opv σ) h o.op = some tv ∨ (∃ v, evb P (opv σ) o.op = some v ∧ tv = .v v) ∨
  ∃ c f g cap vs r, o.op = .call c ∧ c.callee = .value f ∧ vOf (opv σ f) = some (.func g cap) ∧ vsOf (opv σ) c.args.toList = some vs ∧ Den P T g (vs ++ cap) r ∧ tv = .v r

/-- a pointer to a local block that there is -/
def wfT (h : List (Nat × Blk)) : TV → Prop
  | .p id _ => look id h ≠ none
  | .m id => look id h ≠ none
  | .s id _ _ _ => look id h ≠ none
  | _ => True

theorem wf_map {h : List (Nat × Blk)} {r : Option V} {tv : TV} (e : r.map TV.v = some tv) : wfT h tv := by
  simp only [Option.map_eq_some_iff] at e
  obtain ⟨v, _, rfl⟩ := e
  trivial

theorem evq_wf {h : List (Nat × Blk)} {ρ : Operand → Option TV} {op : Op} {tv : TV} (hh : ∀ x tv, ρ x = some tv → wfT h tv) (e : evq P ρ h op = some tv) : wfT h tv := by
  unfold evq at e
  split at e
  · exact hh _ _ (nu_some e)
  · exact hh _ _ (nu_some e)
  · split at e
    · rename_i t _
      cases t
      · exact hh _ _ (nu_some e)
      · exact hh _ _ (nu_some e)
    · cases e
  · simp only [Option.bind_eq_some_iff] at e
    obtain ⟨cs, _, e⟩ := e
    exact wf_map e
  · split at e
    · cases e; trivial
    · rename_i id o' _ hx
      cases e
      exact hh _ (.p id o') hx
    · cases e
  · split at e
    · exact wf_map e
    · cases e
  · split at e
    · split at e
      · rename_i id off _ hx _
        simp only [Option.map_eq_some_iff] at e
        obtain ⟨v, _, rfl⟩ := e
        exact hh _ (.p id off) hx
      · simp only [Option.map_eq_some_iff] at e
        obtain ⟨v, _, rfl⟩ := e
        trivial
      · cases e
    · split at e
      · split at e
        · simp only [Option.map_eq_some_iff] at e
          obtain ⟨v, _, rfl⟩ := e
          trivial
        · cases e
      · rename_i id off m size _ _ hx _
        split at e
        · simp only [Option.map_eq_some_iff] at e
          obtain ⟨v, _, rfl⟩ := e
          exact hh _ (.s id off m size) hx
        · cases e
      · cases e
  · split at e
    · split at e
      · simp only [Option.bind_eq_some_iff, Option.map_eq_some_iff] at e
        obtain ⟨_, _, v, _, rfl⟩ := e
        trivial
      · cases e
    · split at e
      · exact wf_map e
      · cases e
  · split at e
    · exact wf_map e
    · rename_i id off m size _ _ hx _ _
      split at e
      · simp only [Option.map_eq_some_iff] at e
        obtain ⟨⟨a, b⟩, _, rfl⟩ := e
        simp only [cutS]
        split
        · trivial
        · exact hh _ (.s id off m size) hx
      · cases e
    · cases e
  · split at e
    · split at e
      · split at e
        · exact wf_map e
        · cases e
      · cases e
    · exact wf_map e
    · cases e
  · split at e
    · cases e; trivial
    · cases e
  · split at e
    · cases e; trivial
    · cases e
  · split at e
    · exact wf_map e
    · cases e
  · split at e
    · exact wf_map e
    · cases e
  · split at e
    · simp only [Option.map_eq_some_iff] at e
      obtain ⟨v, _, rfl⟩ := e
      trivial
    · cases e
  · split at e
    · split at e
      · split at e
        · simp only [Option.map_eq_some_iff] at e
          obtain ⟨v, _, rfl⟩ := e
          trivial
        · cases e
      · cases e
    · cases e
  · split at e
    · split at e
      · exact wf_map e
      · cases e
    · cases e
  · cases e

/-- the state of a frame, as it stands for an abstract one -/
structure Sim (P : Program) (T : Lay) (M : Nat → Prop) (F0 : Frz) (w0 : World) (F : Frz) (ρ : Nat → Nat) (n : Nat) (σ : Sto) (h : List (Nat × Blk)) (o : List (TypeId × List Nat)) (a : Act) (w : World) : Prop where
  n : a.tmps.size = n
  df : a.defers = []
  sees : Sees F w
  lay : Laid T F0 w0 ∧ ∀ g, T.r g ≠ none → ¬ M g
  le : Le F0 F
  new : ∀ p v, F p = some v → F0 p = some v ∨ M p.block
  newm : ∀ b xs, F.m b = some xs → F0.m b = some xs ∨ M b
  bel : BelM M w0 w
  hM : ∀ j, w0.heap.size ≤ j → M j
  tm : ∀ i tv, σ i = some tv → ∃ x, a.tmps[i]? = some x ∧ RepT F ρ tv x
  wf : ∀ i tv, σ i = some tv → wfT h tv
  hp : ∀ id k, look id h = some k → RepB F w (ρ id) k ∧ M (ρ id) ∧ ρ id < w.heap.size
  nn : a.tmps.size ≤ 999999
  z : ∀ k, look 999999 h = some k → ρ 999999 < w0.heap.size
  inj : ∀ id id' k k', look id h = some k → look id' h = some k' → ρ id = ρ id' → id = id'
  ow : ∀ (j : Nat) e c, o[j]? = some (e, c) → ∃ v, (∀ i ∈ c, a.tmps[i]? = some v) ∧ Own F w M e (P.cellsOf e) v ∧ ∀ id k, look id h = some k → v.ownBlock ≠ some (ρ id)
  od : ∀ (j j' : Nat) e c e' c', j ≠ j' → o[j]? = some (e, c) → o[j']? = some (e', c') → ∀ i ∈ c, ∀ i' ∈ c', ∀ v v' g, a.tmps[i]? = some v → a.tmps[i']? = some v' → v.ownBlock = some g → v'.ownBlock ≠ some g

variable {M : Nat → Prop} {F0 F : Frz} {w0 w : World} {ρ : Nat → Nat} {n : Nat} {σ : Sto} {h : List (Nat × Blk)} {o : List (TypeId × List Nat)} {a : Act}

theorem Sim.opr (S : Sim P T M F0 w0 F ρ n σ h o a w) (x : Operand) (tv : TV) (e : opv σ x = some tv) : RepT F ρ tv (a.eval x) := by
  cases x with
  | tmp i =>
    obtain ⟨y, h1, h2⟩ := S.tm i tv e
    have : a.eval (.tmp i) = y := by simp [Act.eval, h1]
    rw [this]; exact h2
  | const v =>
    simp only [opv, cond_eq_ite] at e
    split at e
    · rename_i hv; cases e; exact rep_ofVal F v hv
    · cases e
  | func f =>
    simp only [opv, Option.some.injEq] at e
    subst e
    exact .func rfl (by simp)
  | global g => cases e

theorem Sim.laid (S : Sim P T M F0 w0 F ρ n σ h o a w) : Laid T F w := by
  refine ⟨S.lay.1.1.trans S.le, fun g xs e => ?_⟩
  obtain ⟨⟨ty, fz, h1⟩, off, v, h2⟩ := S.lay.1.2 g xs e
  have hlt : g < w0.heap.size := by
    rcases Nat.lt_or_ge g w0.heap.size with h | h
    · exact h
    · rw [Array.getElem?_eq_none h] at h1; cases h1
  exact ⟨⟨ty, fz, (S.bel.block g hlt (S.lay.2 g (by rw [e]; simp))).trans h1⟩, off, v, S.le _ _ h2⟩
theorem Sim.good (S : Sim P T M F0 w0 F ρ n σ h o a w) : Good F w ρ h (opv σ) a.eval := ⟨S.sees, fun id k e => (S.hp id k e).1, S.opr⟩

theorem Own.ext {F F' : Frz} {w w' : World} {e : TypeId} {size : Nat} {y : Value} (h : Own F w M e size y) (hx : Ext F w F' w') : Own F' w' M e size y := by
  obtain ⟨m, xs, h1, h2⟩ := h
  have hlt := h1.lt
  refine ⟨m, xs, h1.kept (row := none) ⟨hx.bel.os, hx.bel.tape, hx.bel.output, hx.bel.size, fun k hk _ => hx.bel.block k hk⟩ (by cases y.ownBlock <;> simp), fun g hg => ⟨(h2 g hg).1, fun p v hp hpg => ?_⟩⟩
  rcases hx.new p v hp with e' | e'
  · exact (h2 g hg).2 p v e' hpg
  · have := (hlt g hg).2; omega

/-- memory has been added -/
theorem Sim.ext {F' : Frz} {w' : World} (S : Sim P T M F0 w0 F ρ n σ h o a w) (hx : Ext F w F' w') : Sim P T M F0 w0 F' ρ n σ h o a w' where
  n := S.n
  df := S.df
  sees := hx.fr
  lay := S.lay
  le := S.le.trans hx.le
  new := fun p v e => (hx.new p v e).elim (S.new p v) (fun hb => .inr (S.hM _ (Nat.le_trans S.bel.size hb)))
  newm := fun p v e => (hx.newm p v e).elim (S.newm p v) (fun hb => .inr (S.hM _ (Nat.le_trans S.bel.size hb)))
  bel := S.bel.trans (.of hx.bel)
  hM := S.hM
  tm := fun i tv e => by obtain ⟨x, h1, h2⟩ := S.tm i tv e; exact ⟨x, h1, h2.mono hx.le⟩
  wf := S.wf
  hp := fun id k e => ⟨(S.hp id k e).1.ext hx, (S.hp id k e).2.1, Nat.lt_of_lt_of_le (S.hp id k e).2.2 hx.bel.size⟩
  nn := S.nn
  z := S.z
  inj := S.inj
  ow := fun j e c hj => by obtain ⟨v, h1, h2, h3⟩ := S.ow j e c hj; exact ⟨v, h1, h2.ext hx, h3⟩
  od := S.od

theorem put_get {a : Act} {d i : Nat} {x : Value} (hd : d < a.tmps.size) : (a.put (some d) x).tmps[i]? = if i = d then some x else a.tmps[i]? := by
  simp only [Act.put]
  by_cases h : i = d
  · subst h; simp [hd]
  · rw [if_neg h, Array.getElem?_setIfInBounds_ne (by omega)]

/-- a temporary that owns nothing is written -/
theorem Sim.put (S : Sim P T M F0 w0 F ρ n σ h o a w) {d : Option Tmp} {tv : TV} {x : Value} (hr : RepT F ρ tv x) (hw : wfT h tv) (hd : ∀ d', d = some d' → d' < n ∧ ∀ (j : Nat) e c, o[j]? = some (e, c) → d' ∉ c) :
    Sim P T M F0 w0 F ρ n (upd σ d tv) h o (a.put d x) w := by
  cases d with
  | none => exact S
  | some d =>
    obtain ⟨h1, h2⟩ := hd d rfl
    have hsz : d < a.tmps.size := by rw [S.n]; exact h1
    have hg := fun i => put_get (a := a) (i := i) (x := x) hsz
    refine { n := by simpa [Act.put] using S.n, df := S.df, sees := S.sees, lay := S.lay, le := S.le, new := S.new, newm := S.newm, bel := S.bel, hM := S.hM, tm := ?_, wf := ?_, hp := S.hp, nn := (by simpa [Act.put] using S.nn), z := S.z, inj := S.inj, ow := ?_, od := ?_ }
    · intro i tv' e
      simp only [upd] at e
      split at e
      · rename_i hi
        cases e
        exact ⟨x, by rw [hg, if_pos hi], hr⟩
      · rename_i hi
        obtain ⟨y, e1, e2⟩ := S.tm i tv' e
        exact ⟨y, by rw [hg, if_neg hi]; exact e1, e2⟩
    · intro i tv' e
      simp only [upd] at e
      split at e
      · cases e; exact hw
      · exact S.wf i tv' e
    · intro j e c hj
      obtain ⟨v, e1, e2⟩ := S.ow j e c hj
      exact ⟨v, fun i hi => by
        have hne : i ≠ d := fun he => h2 j e c hj (he ▸ hi)
        rw [hg, if_neg hne]; exact e1 i hi, e2⟩
    · intro j j' e c e' c' hne hj hj' i hi i' hi' v v' g e1 e2
      have n1 : i ≠ d := fun he => h2 j e c hj (he ▸ hi)
      have n2 : i' ≠ d := fun he => h2 j' e' c' hj' (he ▸ hi')
      rw [hg, if_neg n1] at e1
      rw [hg, if_neg n2] at e2
      exact S.od j j' e c e' c' hne hj hj' i hi i' hi' v v' g e1 e2

theorem Sim.wfo (S : Sim P T M F0 w0 F ρ n σ h o a w) (x : Operand) (tv : TV) (e : opv σ x = some tv) : wfT h tv := by
  cases x with
  | tmp i => exact S.wf i tv e
  | const v =>
    simp only [opv, cond_eq_ite] at e
    split at e
    · cases e; trivial
    · cases e
  | func f => simp only [opv, Option.some.injEq] at e; subst e; trivial
  | global g => cases e
theorem Sim.yields_wf (S : Sim P T M F0 w0 F ρ n σ h o a w) {op : Oper} {tv : TV} (hy : Yields P T σ h op tv) : wfT h tv := by
  rcases hy with hy | ⟨v, hy, rfl⟩ | ⟨c, f, g, cap, vs, r, ho, hc, hf, hvs, hden, rfl⟩
  · exact evq_wf S.wfo hy
  · trivial
  · trivial

/-- One quiet operation, in the model. -/
theorem yields_wp (S : Sim P T M F0 w0 F ρ n σ h o a w) {op : Oper} {tv : TV} (hy : Yields P T σ h op tv) {next : Act → World → Prop} {Q : Exit → Act → World → Prop}
    (k : ∀ x F' w', Ext F w F' w' → RepT F' ρ tv x → next (a.put op.dst x) w') : op.wp P a w next Q := by
  have G := S.good
  rcases hy with hy | ⟨v, hy, rfl⟩ | ⟨c, f, g, cap, vs, r, ho, hc, hf, hvs, hden, rfl⟩
  · obtain ⟨x, hr, hx⟩ := evq_sound (P := P) G op hy
    unfold Oper.wp
    rw [hr]
    exact k x F w (Ext.refl S.sees) hx
  · obtain ⟨x, F', w', hr, he, hx⟩ := evb_sound (P := P) G op hy
    unfold Oper.wp
    rw [hr]
    exact k x F' w' he hx
  · have hfv := G.v hf
    generalize hfx : a.eval f = fx at hfv
    cases hfv with
    | func hl hh =>
      rename_i xs
      obtain ⟨hl2, hh2⟩ := vsOf_sound G hvs
      have hrun : (execOp a.eval op).run P w = .ok (.enter g ((c.args.toList.map a.eval) ++ xs.toList).toArray) w := by
        have := hden.1 ((c.args.map a.eval) ++ xs) w
        have harr : ((c.args.toList.map a.eval) ++ xs.toList).toArray = (c.args.map a.eval) ++ xs := by
          apply Array.ext'
          simp
        rw [harr, ← this]
        simp [execOp, ho, resolve, hc, hfx, Deferred.ofValue, invoke]
      unfold Oper.wp
      rw [hrun]
      refine (hden.2 w F ((c.args.toList.map a.eval) ++ xs.toList) S.sees (S.laid) ⟨by simp [hl, hl2], fun j v x e1 e2 => ?_⟩).mono ?_
      · by_cases hj : j < vs.length
        · rw [List.getElem?_append_left hj] at e1
          rw [List.getElem?_append_left (by rw [List.length_map]; omega)] at e2
          exact hh2 j v x e1 e2
        · rw [List.getElem?_append_right (by omega)] at e1
          rw [List.getElem?_append_right (by rw [List.length_map]; omega)] at e2
          rw [List.length_map, ← hl2] at e2
          exact hh _ v x e1 (by simpa using e2)
      · rintro e w' ⟨y, F', rfl, hx, hr⟩
        exact k y F' w' hx hr
end Go.Ab


namespace Go.Ab
open Go.RowKit
variable {P : Program} {T : Lay}

theorem capsV_congr {ρ ρ' : Operand → Option TV} {h : List (Nat × Blk)} : ∀ (l : List Operand), (∀ x ∈ l, ρ x = ρ' x) → capsV ρ h l = capsV ρ' h l
  | [], _ => rfl
  | x :: r, hh => by
    simp only [capsV]
    rw [hh x (by simp), capsV_congr r (fun y hy => hh y (by simp [hy]))]
theorem vsOf_congr {ρ ρ' : Operand → Option TV} : ∀ (l : List Operand), (∀ x ∈ l, ρ x = ρ' x) → vsOf ρ l = vsOf ρ' l
  | [], _ => rfl
  | x :: r, hh => by
    simp only [vsOf]
    rw [hh x (by simp), vsOf_congr r (fun y hy => hh y (by simp [hy]))]
theorem partsV_congr {ρ ρ' : Operand → Option TV} : ∀ (l : List (Nat × Operand)), (∀ x ∈ l, ρ x.2 = ρ' x.2) → partsV ρ l = partsV ρ' l
  | [], _ => rfl
  | (i, x) :: r, hh => by
    simp only [partsV]
    rw [hh (i, x) (by simp), partsV_congr r (fun y hy => hh y (by simp [hy]))]
theorem optV_congr {ρ ρ' : Operand → Option TV} (x : Option Operand) (hh : ∀ y, x = some y → ρ y = ρ' y) : optV ρ x = optV ρ' x := by
  cases x with
  | none => rfl
  | some y => simp only [optV, hh y rfl]

theorem evq_congr {ρ ρ' : Operand → Option TV} {h : List (Nat × Blk)} (op : Op) (hh : ∀ x ∈ op.operands, ρ x = ρ' x) : evq P ρ h op = evq P ρ' h op := by
  cases op <;> simp only [Op.operands] at hh <;> simp only [evq]
  case slice t x lo hi mx =>
    cases mx with
    | some m => rfl
    | none =>
      simp only
      rw [hh x (by simp), optV_congr lo (fun y e => hh y (by subst e; simp)), optV_congr hi (fun y e => hh y (by subst e; simp))]
  case makeFunc fn first cap =>
    cases fn <;> simp only
    rw [capsV_congr cap.toList (fun x hx => hh x (by simp; exact .inr (by simpa using hx)))]
  case call c =>
    cases hc : c.callee with
    | value f => rfl
    | invoke r m => rfl
    | builtin b =>
      cases b <;> simp only
      split
      · rename_i x t h1 h2
        have hx : x ∈ c.args.toList := by rw [h1]; simp
        rw [hh x (by simp [Call.operands, hc]; simpa using hx)]
      · rfl
  case unOp op t x =>
    cases op <;> simp only
    all_goals rw [hh x (by simp)]
  case lookup t x i ok => rw [hh x (by simp), hh i (by simp)]
  case pick c a b => rw [hh c (by simp), hh a (by simp), hh b (by simp)]
  case move x => rw [hh x (by simp)]
  case assign x => rw [hh x (by simp)]
  case load t x => rw [hh x (by simp)]
  case fieldAddr s x f => rw [hh x (by simp)]
  case field s x f => rw [hh x (by simp)]
  case indexAddr t x i => rw [hh x (by simp), hh i (by simp)]
  case index t x i => rw [hh x (by simp), hh i (by simp)]
  case binOp op t x y ty => rw [hh x (by simp), hh y (by simp)]
  case convert s d x => rw [hh x (by simp)]
  case extract x i => rw [hh x (by simp)]

theorem evb_congr {ρ ρ' : Operand → Option TV} (op : Op) (hh : ∀ x ∈ op.operands, ρ x = ρ' x) : evb P ρ op = evb P ρ' op := by
  cases op <;> simp only [Op.operands] at hh <;> simp only [evb]
  case build t parts => rw [partsV_congr parts.toList (fun x hx => hh x.2 (by simp; exact ⟨x.1, by simpa using hx⟩))]
  case buildSlice t len parts => rw [partsV_congr parts.toList (fun x hx => hh x.2 (by simp; exact ⟨x.1, by simpa using hx⟩))]

theorem Yields.congr {σ σ' : Sto} {h : List (Nat × Blk)} {o : Oper} {tv : TV} (hh : ∀ x ∈ o.op.operands, opv σ x = opv σ' x) (hy : Yields P T σ h o tv) : Yields P T σ' h o tv := by
  rcases hy with hy | ⟨v, hy, e⟩ | ⟨c, f, g, cap, vs, r, ho, hc, hf, hvs, hden, e⟩
  · exact .inl (by rw [← evq_congr o.op hh]; exact hy)
  · exact .inr (.inl ⟨v, by rw [← evb_congr o.op hh]; exact hy, e⟩)
  · refine .inr (.inr ⟨c, f, g, cap, vs, r, ho, hc, ?_, ?_, hden, e⟩)
    · rw [← hh f (by simp [ho, Op.operands, Call.operands, hc])]; exact hf
    · rw [← vsOf_congr c.args.toList (fun x hx => hh x (by simp [ho, Op.operands, Call.operands, hc]; exact .inr (by simpa using hx)))]; exact hvs

/-- the value of an operation's guard -/
def gdV (l : List Oper) (o : Oper) (σ : Sto) : Option Bool :=
  match o.guard with
  | none => some true
  | some (j, want) => match (l[j]?).bind (·.dst) with
    | none => none
    | some d => match σ d with
      | some (.v (.val (.bool b))) => some (b == want)
      | some .u => some false
      | _ => none

def YieldsG (P : Program) (T : Lay) (l : List Oper) (σ : Sto) (h : List (Nat × Blk)) (o : Oper) (tv : TV) : Prop :=
  (gdV l o σ = some true ∧ Yields P T σ h o tv) ∨ (gdV l o σ = some false ∧ tv = .u)

theorem opv_upd {σ : Sto} {d : Option Tmp} {tv : TV} {x : Operand} (hd : ∀ d', d = some d' → x ≠ .tmp d') : opv (upd σ d tv) x = opv σ x := by
  cases d with
  | none => rfl
  | some d =>
    cases x with
    | tmp i =>
      have : i ≠ d := fun e => hd d rfl (e ▸ rfl)
      simp [opv, upd, this]
    | _ => rfl

theorem YieldsG.upd {ops : Array Oper} {σ : Sto} {h : List (Nat × Blk)} {o : Oper} {tv : TV} {d : Option Tmp} {tv' : TV} (hd : ∀ d', d = some d' → d' ∉ o.looksAt ops) :
    YieldsG P T ops.toList (upd σ d tv') h o tv ↔ YieldsG P T ops.toList σ h o tv := by
  have hg : gdV ops.toList o (Go.Ab.upd σ d tv') = gdV ops.toList o σ := by
    unfold gdV
    cases hgd : o.guard with
    | none => rfl
    | some gw =>
      obtain ⟨j, want⟩ := gw
      simp only
      cases ht : (ops.toList[j]?).bind (·.dst) with
      | none => rfl
      | some t =>
        cases d with
        | none => rfl
        | some d =>
          have hne : t ≠ d := fun e => hd d rfl (by subst e; simp at ht; simp [Oper.looksAt, hgd, ht])
          simp [Go.Ab.upd, hne]
  have hop : ∀ x ∈ o.op.operands, opv (Go.Ab.upd σ d tv') x = opv σ x := fun x hx => opv_upd fun d' e1 e2 => hd d' e1 (by
    subst e2
    exact List.mem_append_left _ (List.mem_filterMap.2 ⟨.tmp d', by simpa using hx, rfl⟩))
  unfold YieldsG
  rw [hg]
  constructor
  · rintro (⟨h1, h2⟩ | h1)
    · exact .inl ⟨h1, h2.congr hop⟩
    · exact .inr h1
  · rintro (⟨h1, h2⟩ | h1)
    · exact .inl ⟨h1, h2.congr (fun x hx => (hop x hx).symm)⟩
    · exact .inr h1

theorem upd_comm (σ : Sto) {x y : Option Tmp} (v z : TV) (h : ∀ d, x = some d → y ≠ some d) : upd (upd σ x v) y z = upd (upd σ y z) x v := by
  cases x with
  | none => rfl
  | some d =>
    cases y with
    | none => rfl
    | some e =>
      have hne : e ≠ d := fun he => h d rfl (he ▸ rfl)
      funext i
      simp only [upd]
      by_cases h1 : i = e
      · subst h1; simp [hne]
      · simp [h1]

/-- in the text's order -/
def awQ (P : Program) (T : Lay) (l : List Oper) (h : List (Nat × Blk)) (Q : Sto → Prop) : List Oper → Sto → Prop
  | [], σ => Q σ
  | o :: rest, σ => ∃ tv, YieldsG P T l σ h o tv ∧ awQ P T l h Q rest (upd σ o.dst tv)

/-- in whatever order -/
def anyQ (P : Program) (T : Lay) (md : Region.Mode) (ops : Array Oper) (h : List (Nat × Blk)) (Q : Sto → Prop) : Nat → Array Bool → Sto → Prop
  | 0, listed, σ => Region.ready md ops listed = [] ∧ Q σ
  | fuel + 1, listed, σ => (Region.ready md ops listed = [] → Q σ) ∧
      ∀ i ∈ Region.ready md ops listed, ∀ o, ops[i]? = some o → ∃ tv, YieldsG P T ops.toList σ h o tv ∧ anyQ P T md ops h Q fuel (listed.setIfInBounds i true) (upd σ o.dst tv)

variable {md : Region.Mode} {ops : Array Oper} {h : List (Nat × Blk)} {Q : Sto → Prop}

theorem anyQ_first {i : Nat} {oi : Oper} {v : TV} (hi : ops[i]? = some oi) :
    ∀ (fuel : Nat) (listed : Array Bool) (σ : Sto),
      (∀ j oj, ops[j]? = some oj → j ≠ i → listed.getD j true = false → (∀ e ∈ oj.after, Region.binds md e = true → e.on ≠ i) → oi.apart ops oj = true) →
      i ∈ Region.ready md ops listed → YieldsG P T ops.toList σ h oi v →
      anyQ P T md ops h Q fuel (listed.setIfInBounds i true) (upd σ oi.dst v) → anyQ P T md ops h Q (fuel + 1) listed σ := by
  intro fuel
  induction fuel with
  | zero =>
    intro listed σ _ hr hy H
    refine ⟨fun h0 => (by rw [h0] at hr; cases hr), fun j hj oj hoj => ?_⟩
    by_cases hji : j = i
    · subst hji
      rw [hi] at hoj; cases hoj
      exact ⟨v, hy, H⟩
    · have := ready_mono hj hji
      rw [H.1] at this
      cases this
  | succ fuel ih =>
    intro listed σ hfree hr hy H
    refine ⟨fun h0 => (by rw [h0] at hr; cases hr), fun j hj oj hoj => ?_⟩
    by_cases hji : j = i
    · subst hji
      rw [hi] at hoj; cases hoj
      exact ⟨v, hy, H⟩
    · obtain ⟨z, hu, hK⟩ := H.2 j (ready_mono hj hji) oj hoj
      obtain ⟨hjun, oj', hoj', hall⟩ := mem_ready.1 hj
      rw [hoj] at hoj'; cases hoj'
      have hnot : ∀ e ∈ oj.after, Region.binds md e = true → e.on ≠ i := fun e he hb heq => by
        have h1 := hall e he hb
        have h0 := (mem_ready.1 hr).1
        rw [heq] at h1
        rcases Nat.lt_or_ge i listed.size with h' | h'
        · simp [h'] at h0 h1; rw [h0] at h1; cases h1
        · simp [Array.getElem?_eq_none h'] at h1
      obtain ⟨a1, a2, a3⟩ := Oper.apart_spec (hfree j oj hoj hji hjun hnot)
      have hu' : YieldsG P T ops.toList σ h oj z := (YieldsG.upd a1).1 hu
      refine ⟨z, hu', ?_⟩
      have hfree' : ∀ k ok, ops[k]? = some ok → k ≠ i → (listed.setIfInBounds j true).getD k true = false →
          (∀ e ∈ ok.after, Region.binds md e = true → e.on ≠ i) → oi.apart ops ok = true := fun k ok hk hki hun hno => by
        refine hfree k ok hk hki ?_ hno
        by_cases hjk : j = k
        · subst hjk; exact hjun
        · rw [getD_set_ne true hjk] at hun; exact hun
      refine ih (listed.setIfInBounds j true) _ hfree' (ready_mono hr (Ne.symm hji)) ((YieldsG.upd a3).2 hy) ?_
      rw [Array.setIfInBounds_comm _ _ hji, upd_comm σ z v (fun d e1 e2 => a2 d e2 e1)]
      exact hK

theorem anyQ_lex : ∀ (l : List Oper) (k : Nat) (listed : Array Bool) (σ : Sto), (∀ j, l[j]? = ops[k + j]?) →
    Region.lexFrom md ops l.length k listed = true → awQ P T ops.toList h Q l σ → anyQ P T md ops h Q l.length listed σ
  | [], _, _, _, _, hB, hh => ⟨by simpa [Region.lexFrom] using hB, hh⟩
  | o :: l, k, listed, σ, hl, hB, hh => by
    have h0 : ops[k]? = some o := by simpa using (hl 0).symm
    simp only [List.length_cons, Region.lexFrom, Bool.and_eq_true] at hB
    obtain ⟨⟨hr, hf⟩, hB'⟩ := hB
    obtain ⟨tv, hy, hK⟩ := hh
    exact anyQ_first h0 l.length listed σ (Region.free_spec h0 hf) (by simpa using hr) hy
      (anyQ_lex l (k + 1) _ _ (fun j => by have := hl (j + 1); simpa [Nat.add_assoc, Nat.add_comm 1 j] using this) hB' hK)

variable {M : Nat → Prop} {F0 F : Frz} {w0 w : World} {ρ : Nat → Nat} {n : Nat} {σ : Sto} {o : List (TypeId × List Nat)} {a : Act}

/-- the guard, as the model sees it -/
theorem Sim.wanted (S : Sim P T M F0 w0 F ρ n σ h o a w) {op : Oper} {b : Bool} (hg : gdV ops.toList op σ = some b) : Region.wanted op (yielded ops a.tmps) = b := by
  unfold gdV at hg
  unfold Region.wanted
  cases hgd : op.guard with
  | none => rw [hgd] at hg; cases hg; rfl
  | some gw =>
    obtain ⟨j, want⟩ := gw
    rw [hgd] at hg
    simp only at hg ⊢
    cases ht : (ops.toList[j]?).bind (·.dst) with
    | none => rw [ht] at hg; cases hg
    | some d =>
      rw [ht] at hg
      simp only at hg
      split at hg
      · rename_i b' hs
        cases hg
        obtain ⟨x, h1, h2⟩ := S.tm d _ hs
        have hx := rep_val_inv (show Rep F _ x from h2)
        subst hx
        have ht' : (ops[j]?).bind (·.dst) = some d := by simpa using ht
        have : yielded ops a.tmps j = some b' := by
          unfold yielded
          rw [ht']
          simp only [Option.bind_some]
          rw [h1]
        rw [this]
        cases b' <;> cases want <;> rfl
      · rename_i hs
        cases hg
        obtain ⟨x, h1, h2⟩ := S.tm d _ hs
        obtain rfl : x = undef := h2
        have ht' : (ops[j]?).bind (·.dst) = some d := by simpa using ht
        have : yielded ops a.tmps j = none := by
          unfold yielded
          rw [ht']
          simp only [Option.bind_some]
          rw [h1]
          rfl
        rw [this]
        cases want <;> rfl
      · cases hg

/-- where all is quiet: nothing that owns is written -/
def dstsOk (n : Nat) (o : List (TypeId × List Nat)) (l : List Oper) : Prop :=
  ∀ op ∈ l, ∀ d, op.dst = some d → d < n ∧ ∀ (j : Nat) e c, o[j]? = some (e, c) → d ∉ c

theorem oper_wp (S : Sim P T M F0 w0 F ρ n σ h o a w) {op : Oper} {tv : TV} (hy : YieldsG P T ops.toList σ h op tv)
    (hd : ∀ d', op.dst = some d' → d' < n ∧ ∀ (j : Nat) e c, o[j]? = some (e, c) → d' ∉ c) {i : Nat} (hi : ops[i]? = some op) {K : Act → World → Prop} {Q : Exit → Act → World → Prop}
    (k : ∀ F' w' a', Sim P T M F0 w0 F' ρ n (upd σ op.dst tv) h o a' w' → K a' w') : wpOp P ops Q i K a w := by
  unfold wpOp
  simp only [hi]
  rcases hy with ⟨hg, hy⟩ | ⟨hg, rfl⟩
  · rw [S.wanted hg, if_pos rfl]
    exact .inl (yields_wp S hy fun x F' w' hx hr => k F' w' _ ((S.ext hx).put hr (S.yields_wf hy) hd))
  · rw [S.wanted hg]
    simp only [Bool.false_eq_true, if_false]
    exact k F w _ (S.put rfl trivial hd)

theorem anyQ_sound (hok : dstsOk n o ops.toList) {Q' : Exit → Act → World → Prop} (hQ : ∀ F' σ' a' w', Sim P T M F0 w0 F' ρ n σ' h o a' w' → Q σ' → Q' .normal a' w') :
    ∀ (fuel : Nat) (listed : Array Bool) (F : Frz) (σ : Sto) (a : Act) (w : World), Sim P T M F0 w0 F ρ n σ h o a w → anyQ P T md ops h Q fuel listed σ → wpAny P md ops Q' fuel listed a w
  | 0, _, _, _, _, _, S, hh => ⟨hh.1, hQ _ _ _ _ S hh.2⟩
  | fuel + 1, listed, F, σ, a, w, S, hh => by
    refine ⟨fun h0 => hQ _ _ _ _ S (hh.1 h0), fun i hi => ?_⟩
    obtain ⟨_, oi, hoi, _⟩ := mem_ready.1 hi
    obtain ⟨tv, hy, hK⟩ := hh.2 i hi oi hoi
    exact oper_wp S hy (hok oi (by simpa using Array.mem_of_getElem? hoi)) hoi fun F' w' a' S' => anyQ_sound hok hQ fuel _ F' _ a' w' S' hK

/-- A region that draws its order. -/
theorem region_draw (hm : P.follows .mixedOrders = true) {id : Nat} (hB : Region.lexB .any ops = true) (hok : dstsOk n o ops.toList) {Q' : Exit → Act → World → Prop}
    (S : Sim P T M F0 w0 F ρ n σ h o a w) (hQ : ∀ F' σ' a' w', Sim P T M F0 w0 F' ρ n σ' h o a' w' → Q σ' → Q' .normal a' w') (hh : awQ P T ops.toList h Q ops.toList σ) :
    (Code.region id ops true).wp P Q' a w := by
  simp only [Region.lexB, Bool.and_eq_true] at hB
  have hx : Ext F w F w.drew := (Ext.refl S.sees).drew
  refine wp_region_any hm (anyQ_sound (md := .any) hok hQ _ _ F σ a w.drew (S.ext hx) ?_)
  have := anyQ_lex (P := P) (h := h) (Q := Q) (md := .any) ops.toList 0 (Array.replicate ops.size false) σ (by simp) (by simpa using hB.2) hh
  simpa using this
end Go.Ab


namespace Go.Ab
open Go.RowKit
variable {P : Program} {T : Lay}

structure St where
  n : Nat
  t : List (Nat × TV)
  h : List (Nat × Blk)
  o : List (TypeId × List Nat)

def St.σ (s : St) : Sto := fun i => look i s.t

def remo (d : Nat) (o : List (TypeId × List Nat)) : List (TypeId × List Nat) := o.map fun x => (x.1, x.2.filter fun i => !Nat.beq i d)
def delo (i : Nat) (o : List (TypeId × List Nat)) : List (TypeId × List Nat) := o.map fun x => if x.2.contains i = true then (x.1, []) else x
def addo (i d : Nat) (o : List (TypeId × List Nat)) : List (TypeId × List Nat) := o.map fun x => if x.2.contains i = true then (x.1, d :: x.2) else x
def ownOf (i : Nat) : List (TypeId × List Nat) → Option TypeId
  | [] => none
  | (e, c) :: r => if c.contains i = true then some e else ownOf i r

def putK (st : St) (d : Option Tmp) (tv : TV) (K : St → Prop) : Prop :=
  match d with
  | none => K st
  | some d => d < st.n ∧ K { st with t := (d, tv) :: st.t, o := remo d st.o }

def movK (st : St) (x : Operand) (d : Option Tmp) (K : St → Prop) : Prop :=
  match nu (opv st.σ x), d with
  | some _, none => K st
  | some tv, some d => match x with
    | .tmp i => d < st.n ∧ K { st with t := (d, tv) :: st.t, o := if i = d then remo d st.o else addo i d (remo d st.o) }
    | _ => d < st.n ∧ K { st with t := (d, tv) :: st.t, o := remo d st.o }
  | none, _ => False

def Call (P : Program) (T : Lay) (g : FuncId) (args : List V) (k : V → Option TypeId → Prop) (kn : Nat → List (List V) → Prop) : Prop :=
  (∃ r, Den P T g args r ∧ k r none) ∨ (∃ r e, DenO P T g args e r ∧ k r (some e)) ∨ ∃ size es, DenN P T g args size es ∧ kn size es
theorem call {g : FuncId} {args : List V} {r : V} {k : V → Option TypeId → Prop} {kn : Nat → List (List V) → Prop} (h : Den P T g args r) (hk : k r none) : Call P T g args k kn := .inl ⟨r, h, hk⟩
theorem callO {g : FuncId} {args : List V} {r : V} {e : TypeId} {k : V → Option TypeId → Prop} {kn : Nat → List (List V) → Prop} (h : DenO P T g args e r) (hk : k r (some e)) : Call P T g args k kn := .inr (.inl ⟨r, e, h, hk⟩)

def retK (st : St) (d : Option Tmp) (K : St → Prop) (r : V) (own : Option TypeId) : Prop :=
  match own with
  | none => putK st d (.v r) K
  | some e => match d with
    | none => K st
    | some d => d < st.n ∧ K { st with t := (d, .v r) :: st.t, o := (e, [d]) :: remo d st.o }

/-- a row that came from a call -/
def newK (st : St) (d : Option Tmp) (K : St → Prop) (size : Nat) (es : List (List V)) : Prop :=
  match d with
  | none => False
  | some d => d < st.n ∧ look d st.h = none ∧ (es = [] → K { st with t := (d, .v (.slice size [])) :: st.t, o := remo d st.o }) ∧
      (es ≠ [] → K { st with t := (d, .s d 0 es.length size) :: st.t, h := (d, .var es.flatten) :: st.h, o := remo d st.o })

/-- pointers into one block alone -/
def only (id : Nat) : List TV → Bool
  | [] => true
  | .v _ :: r => only id r
  | .p i _ :: r => Nat.beq i id && only id r
  | .s i _ _ _ :: r => Nat.beq i id && only id r
  | _ => false
def re (id : Nat) : TV → TV
  | .p _ off => .p id off
  | .s _ off n size => .s id off n size
  | .v x => .v x
  | _ => .u
def tvsOf (ρ : Operand → Option TV) : List Operand → Option (List TV)
  | [] => some []
  | x :: r => match ρ x, tvsOf ρ r with
    | some v, some vs => some (v :: vs)
    | _, _ => none
def seth (id : Nat) (b : Blk) : List (Nat × Blk) → List (Nat × Blk)
  | [] => []
  | (j, x) :: r => if id = j then (j, b) :: r else (j, x) :: seth id b r
def CallM (P : Program) (T : Lay) (g : FuncId) (args : List TV) (cap : List V) (st : St) (k : St → TV → Prop) : Prop :=
  ∃ id cs cs' r, look id st.h = some (.var cs) ∧ only id args = true ∧ only 999999 [r] = true ∧ DenM P T g cs (args.map (re 999999) ++ cap.map .v) cs' r ∧ k { st with h := seth id (.var cs') st.h } (re id r)
theorem callM {g : FuncId} {args : List TV} {cap : List V} {st : St} {k : St → TV → Prop} (id : Nat) {cs cs' : List V} {r : TV} (h : DenM P T g cs (args.map (re 999999) ++ cap.map .v) cs' r) (hk : k { st with h := seth id (.var cs') st.h } (re id r))
    (h1 : look id st.h = some (.var cs) := by rfl) (h2 : only id args = true := by rfl) (h3 : only 999999 [r] = true := by first | rfl | (split <;> rfl)) : CallM P T g args cap st k := ⟨id, cs, cs', r, h1, h2, h3, h, hk⟩

/-- what such a call hands back is laid; what follows is kept closed -/
def retM (d : Option Tmp) (K : St → Prop) (st : St) (tv : TV) : Prop := putK st d tv K

def evK (P : Program) (op : Oper) (st : St) (K : St → Prop) : Prop :=
  match evq P (opv st.σ) st.h op.op with
  | some tv => putK st op.dst tv K
  | none => match evb P (opv st.σ) op.op with
    | some v => putK st op.dst (.v v) K
    | none => False

/-- so many elements of this type an append may hold -/
def AppOk (P : Program) (e : TypeId) (n : Nat) : Prop := n ≤ maxLen ∧ n * P.bytesOf e ≤ 140737488355328

/-- the zero value has its size -/
def ZeroOk (P : Program) (e : TypeId) (size : Nat) : Prop := (zeroV P e).map (fun z => z.cells.size) = some size

/-- what an append takes: the elements, and the temporary that owns them -/
def appS (st : St) (e : TypeId) (size : Nat) (x : Operand) : Option (List (List V) × Option Nat) :=
  match vOf (opv st.σ x) with
  | some (.val (.slice none 0 0)) => some ([], none)
  | some (.slice s es) => match x with
    | .tmp i => if s = size ∧ ownOf i st.o = some e then some (es, some i) else none
    | _ => none
  | _ => none
def appX (st : St) (size : Nat) (x : Operand) : Option (List (List V)) :=
  match vOf (opv st.σ x) with
  | some (.val (.slice none 0 0)) => some []
  | some (.slice s es) => if s = size then some es else none
  | _ => none
def owner (i : Option Nat) (o : List (TypeId × List Nat)) : List (TypeId × List Nat) := match i with | none => o | some i => delo i o

def appK (P : Program) (op : Oper) (c : Go.Call) (st : St) (K : St → Prop) : Prop :=
  match c.args.toList, c.argTypes.toList, op.dst with
  | [s, x], [t, t'], some d => if t = t' then match slV P t with
    | some (e, size) => match appS st e size s, appX st size x with
      | some (es, i), some xs => ZeroOk P e size ∧ AppOk P e (es.length + xs.length) ∧ d < st.n ∧
          K { st with t := (d, .v (.slice size (es ++ xs))) :: st.t, o := (e, [d]) :: remo d (owner i st.o) }
      | _, _ => False
    | none => False
    else False
  | _, _, _ => False

/-- an append onto an empty row of the call's own, as a local row -/
def appL (P : Program) (op : Oper) (c : Go.Call) (st : St) (K : St → Prop) : Prop :=
  match c.args.toList, c.argTypes.toList, op.dst with
  | [s, x], [t, t'], some d => if t = t' then match slV P t with
    | some (e, size) => match appS st e size s, appX st size x with
      | some ([], i), some xs => 0 < xs.length ∧ ZeroOk P e size ∧ AppOk P e xs.length ∧ d < st.n ∧ look d st.h = none ∧
          K { st with t := (d, .s d 0 xs.length size) :: st.t, h := (d, .var xs.flatten) :: st.h, o := remo d (owner i st.o) }
      | _, _ => False
    | none => False
    else False
  | _, _, _ => False
/-- an append: the walk says how what it yields is to be seen -/
def appO (P : Program) (op : Oper) (c : Go.Call) (st : St) (K : St → Prop) : Prop := appK P op c st K ∨ appL P op c st K
theorem appO_k {P : Program} {op : Oper} {c : Go.Call} {st : St} {K : St → Prop} (h : appK P op c st K) : appO P op c st K := .inl h
theorem appO_l {P : Program} {op : Oper} {c : Go.Call} {st : St} {K : St → Prop} (h : appL P op c st K) : appO P op c st K := .inr h
theorem appO_or {P : Program} {op : Oper} {c : Go.Call} {st : St} {K : St → Prop} (h : appO P op c st K) : appK P op c st K ∨ appL P op c st K := h
attribute [irreducible] appO appK appL

/-- behind a 'clear' of a part of a local row what stood from there on is not looked at any more -/
def clearK (P : Program) (op : Oper) (c : Go.Call) (st : St) (K : St → Prop) : Prop :=
  match c.args.toList, c.argTypes.toList, op.dst with
  | [x], [t], none => match slV P t, opv st.σ x with
    | some (_, size), some (.v (.slice s [])) => s = size ∧ K st
    | some (e, size), some (.s id off n s) => match look id st.h, zeroCs P e with
      | some (.var cs), some zs => s = size ∧ zs.length = size ∧ off + n * size ≤ cs.length ∧ K { st with h := seth id (.var (cs.take off)) st.h }
      | _, _ => False
    | _, _ => False
  | _, _, _ => False

def upsert (k v : V) : List (V × V) → Option (List (V × V))
  | [] => some [(k, v)]
  | (k', v') :: r => match keyEq k k' with
    | some true => some ((k, v) :: r)
    | some false => (upsert k v r).map ((k', v') :: ·)
    | none => none

/-- a variable that is written no more -/
def frzB : Blk → Blk
  | .var cs => .con cs
  | b => b
def frz1 (id : Nat) : List (Nat × Blk) → List (Nat × Blk)
  | [] => []
  | (j, b) :: r => if id = j then (j, frzB b) :: r else (j, b) :: frz1 id r
def frzC (σ : Sto) : List Operand → List (Nat × Blk) → List (Nat × Blk)
  | [], h => h
  | x :: r, h => frzC σ r (match opv σ x with | some (.p id _) => frz1 id h | _ => h)
def frzR (σ : Sto) : List Oper → List (Nat × Blk) → List (Nat × Blk)
  | [], h => h
  | o :: r, h => frzR σ r (match o.op with | .makeFunc _ _ cap => frzC σ cap.toList h | _ => h)

/-- a slice that has no elements may be nil or not -/
def nilK (P : Program) (op : Oper) (o : BinOp) (t : TypeId) (st : St) (K : St → Prop) : Prop :=
  match o with
  | .eql => (slV P t).isSome = true ∧ ∀ b : Bool, putK st op.dst (.v (.val (.bool b))) K
  | .neq => (slV P t).isSome = true ∧ ∀ b : Bool, putK st op.dst (.v (.val (.bool b))) K
  | _ => False

/-- a block that no one looks at any more -/
def tvOn (d : Nat) : TV → Bool
  | .p id _ => id == d
  | .m id => id == d
  | .s id _ _ _ => id == d
  | _ => false
def remj (j : Nat) : List (Nat × TV) → List (Nat × TV)
  | [] => []
  | (i, tv) :: r => if i = j then remj j r else (i, tv) :: remj j r
def unT (d : Nat) : List (Nat × TV) → List (Nat × TV)
  | [] => []
  | (j, tv) :: r => if tvOn d tv = true then remj j (unT d r) else (j, tv) :: unT d r
def unH (d : Nat) : List (Nat × Blk) → List (Nat × Blk)
  | [] => []
  | (j, b) :: r => if j = d then unH d r else (j, b) :: unH d r
theorem unT_nil {d : Nat} : unT d [] = [] := rfl
theorem unT_v {d j : Nat} {x : V} {r : List (Nat × TV)} : unT d ((j, .v x) :: r) = (j, .v x) :: unT d r := rfl
theorem unT_u {d j : Nat} {r : List (Nat × TV)} : unT d ((j, .u) :: r) = (j, .u) :: unT d r := rfl
theorem unT_p {d j id off : Nat} {r : List (Nat × TV)} : unT d ((j, .p id off) :: r) = if id = d then remj j (unT d r) else (j, .p id off) :: unT d r := by simp [unT, tvOn]
theorem unT_m {d j id : Nat} {r : List (Nat × TV)} : unT d ((j, .m id) :: r) = if id = d then remj j (unT d r) else (j, .m id) :: unT d r := by simp [unT, tvOn]
theorem unT_s {d j id off n z : Nat} {r : List (Nat × TV)} : unT d ((j, .s id off n z) :: r) = if id = d then remj j (unT d r) else (j, .s id off n z) :: unT d r := by simp [unT, tvOn]
theorem remj_nil {j : Nat} : remj j [] = [] := rfl
theorem remj_cons {j i : Nat} {tv : TV} {r : List (Nat × TV)} : remj j ((i, tv) :: r) = if i = j then remj j r else (i, tv) :: remj j r := rfl
theorem unH_nil {d : Nat} : unH d [] = [] := rfl
theorem unH_cons {d j : Nat} {b : Blk} {r : List (Nat × Blk)} : unH d ((j, b) :: r) = if j = d then unH d r else (j, b) :: unH d r := rfl
theorem remj_look {j i : Nat} {tv : TV} : ∀ {l : List (Nat × TV)}, look i (remj j l) = some tv → i ≠ j ∧ look i l = some tv
  | [], h => by cases h
  | (k, x) :: r, h => by
    rw [remj_cons] at h
    split at h
    · rename_i hk
      obtain ⟨h1, h2⟩ := remj_look h
      exact ⟨h1, by rw [look_cons, if_neg (by omega)]; exact h2⟩
    · rename_i hk
      rw [look_cons] at h ⊢
      split at h
      · rename_i hi
        exact ⟨by omega, by rw [if_pos hi]; exact h⟩
      · rename_i hi
        obtain ⟨h1, h2⟩ := remj_look h
        exact ⟨h1, by rw [if_neg hi]; exact h2⟩
theorem unT_look {d i : Nat} {tv : TV} : ∀ {l : List (Nat × TV)}, look i (unT d l) = some tv → look i l = some tv ∧ tvOn d tv = false
  | [], h => by cases h
  | (k, x) :: r, h => by
    simp only [unT] at h
    split at h
    · obtain ⟨h1, h2⟩ := remj_look h
      obtain ⟨h3, h4⟩ := unT_look h2
      exact ⟨by rw [look_cons, if_neg (by omega)]; exact h3, h4⟩
    · rename_i hx
      rw [look_cons] at h ⊢
      split at h
      · rename_i hi
        cases h
        exact ⟨by rw [if_pos hi], by simpa using hx⟩
      · rename_i hi
        obtain ⟨h1, h2⟩ := unT_look h
        exact ⟨by rw [if_neg hi]; exact h1, h2⟩
theorem unH_look {d i : Nat} : ∀ {l : List (Nat × Blk)}, look i (unH d l) = if i = d then none else look i l
  | [] => by simp [unH, look]
  | (k, x) :: r => by
    rw [unH_cons]
    split
    · rename_i hk
      rw [unH_look]
      split
      · rfl
      · rw [look_cons, if_neg (by omega)]
    · rename_i hk
      rw [look_cons, look_cons]
      split
      · rw [if_neg (by omega)]
      · exact unH_look

def stepO (P : Program) (T : Lay) (op : Oper) (st : St) (K : St → Prop) : Prop :=
  match op.op with
  | .buildSlice t n parts => if n = 0 then match slV P t with
    | some (e, size) => parts.size = 0 ∧ retK st op.dst K (.slice size []) (some e)
    | none => False
    else evK P op st K
  | .makeFunc _ _ cap => evK P op { st with h := frzC st.σ cap.toList st.h } K
  | .move x => movK st x op.dst K
  | .assign x => movK st x op.dst K
  | .box _ x => match op.dst, vOf (opv st.σ x) with
    | some d, some v => oneV v = true ∧ look d st.h = none ∧ d < st.n ∧ K { st with t := (d, .p d 0) :: st.t, h := (d, .var v.cells) :: st.h, o := remo d st.o }
    | _, _ => False
  | .alloc e => match op.dst, zeroCs P e with
    | some d, some zs => match look d st.h with
      | none => d < st.n ∧ K { st with t := (d, .p d 0) :: st.t, h := (d, .var zs) :: st.h, o := remo d st.o }
      | some _ => d < st.n ∧ K { st with t := (d, .p d 0) :: unT d st.t, h := (d, .var zs) :: unH d st.h, o := remo d st.o }
    | _, _ => False
  | .store t a x => match opv st.σ a, vOf (opv st.σ x) with
    | some (.p id off), some v => match look id st.h with
      | some (.var cs) => oneV v = true ∧ v.cells.length = P.cellsOf t ∧ (P.info? t).isSome = true ∧ off + v.cells.length ≤ cs.length ∧ op.dst = none ∧
          K { st with h := seth id (.var (setAt cs off v.cells)) st.h }
      | _ => False
    | _, _ => False
  | .makeMap _ none => match op.dst with
    | some d => look d st.h = none ∧ d < st.n ∧ K { st with t := (d, .m d) :: st.t, h := (d, .map []) :: st.h, o := remo d st.o }
    | none => False
  | .mapUpdate t m k x => match mapKV P t, opv st.σ m, vOf (opv st.σ k), vOf (opv st.σ x) with
    | some (kt, _), some (.m id), some k, some v => match look id st.h with
      | some (.map es) => match upsert k v es with
        | some es' => keyT P kt k = true ∧ op.dst = none ∧ K { st with h := seth id (.map es') st.h }
        | none => False
      | _ => False
    | _, _, _, _ => False
  | .call c => match c.callee with
    | .value f => match vOf (opv st.σ f), vsOf (opv st.σ) c.args.toList with
      | some (.func g cap), some vs => Call P T g (vs ++ cap) (retK st op.dst K) (newK st op.dst K)
      | some (.func g cap), none => match tvsOf (opv st.σ) c.args.toList with
        | some tvs => CallM P T g tvs cap st (retM op.dst K)
        | none => False
      | _, _ => False
    | .builtin .append => appO P op c st K
    | .builtin .clear => clearK P op c st K
    | _ => evK P op st K
  | .binOp o t x y _ => match vOf (opv st.σ x), vOf (opv st.σ y) with
    | some (.slice _ []), some (.val (.slice none 0 0)) => nilK P op o t st K
    | _, _ => evK P op st K
  | _ => evK P op st K

/-! the ledger of what is owned -/
variable {M : Nat → Prop} {F0 F : Frz} {w0 w : World} {ρ : Nat → Nat} {n : Nat} {σ : Sto} {h : List (Nat × Blk)} {o o' : List (TypeId × List Nat)} {a : Act}

theorem Sim.weako (S : Sim P T M F0 w0 F ρ n σ h o a w) (f : Nat → Nat) (hf : ∀ (j : Nat) e c, o'[j]? = some (e, c) → ∃ c0, o[f j]? = some (e, c0) ∧ ∀ i ∈ c, i ∈ c0)
    (hi : ∀ (j j' : Nat) e c e' c' i i', o'[j]? = some (e, c) → o'[j']? = some (e', c') → i ∈ c → i' ∈ c' → f j = f j' → j = j') : Sim P T M F0 w0 F ρ n σ h o' a w :=
  { S with
    ow := fun j e c hj => by
      obtain ⟨c0, h1, h2⟩ := hf j e c hj
      obtain ⟨v, h3, h4⟩ := S.ow _ e c0 h1
      exact ⟨v, fun i hic => h3 i (h2 i hic), h4⟩
    od := fun j j' e c e' c' hne hj hj' i hic i' hic' v v' g e1 e2 => by
      obtain ⟨c0, h1, h2⟩ := hf j e c hj
      obtain ⟨c0', h1', h2'⟩ := hf j' e' c' hj'
      exact S.od _ _ e c0 e' c0' (fun heq => hne (hi j j' e c e' c' i i' hj hj' hic hic' heq)) h1 h1' i (h2 i hic) i' (h2' i' hic') v v' g e1 e2 }

theorem Sim.remo (S : Sim P T M F0 w0 F ρ n σ h o a w) (d : Nat) : Sim P T M F0 w0 F ρ n σ h (remo d o) a w :=
  S.weako id (fun j e c hj => by
    simp only [Go.Ab.remo, List.getElem?_map, Option.map_eq_some_iff] at hj
    obtain ⟨⟨e', c'⟩, h1, h2⟩ := hj
    simp only [Prod.mk.injEq] at h2
    obtain ⟨rfl, rfl⟩ := h2
    exact ⟨c', h1, fun i hic => (List.mem_filter.1 hic).1⟩) (fun _ _ _ _ _ _ _ _ _ _ _ _ e => e)
theorem remo_not {d : Nat} {o : List (TypeId × List Nat)} (j : Nat) (e : TypeId) (c : List Nat) (hj : (Go.Ab.remo d o)[j]? = some (e, c)) : d ∉ c := by
  simp only [Go.Ab.remo, List.getElem?_map, Option.map_eq_some_iff] at hj
  obtain ⟨⟨e', c'⟩, h1, h2⟩ := hj
  simp only [Prod.mk.injEq] at h2
  obtain ⟨rfl, rfl⟩ := h2
  intro hd
  have := (List.mem_filter.1 hd).2
  simp at this
theorem Sim.delo (S : Sim P T M F0 w0 F ρ n σ h o a w) (i : Nat) : Sim P T M F0 w0 F ρ n σ h (delo i o) a w :=
  S.weako id (fun j e c hj => by
    simp only [Go.Ab.delo, List.getElem?_map, Option.map_eq_some_iff] at hj
    obtain ⟨⟨e', c'⟩, h1, h2⟩ := hj
    split at h2
    · simp only [Prod.mk.injEq] at h2
      obtain ⟨rfl, rfl⟩ := h2
      exact ⟨c', h1, by simp⟩
    · simp only [Prod.mk.injEq] at h2
      obtain ⟨rfl, rfl⟩ := h2
      exact ⟨_, h1, fun _ hx => hx⟩) (fun _ _ _ _ _ _ _ _ _ _ _ _ e => e)

/-- a temporary is written that owns nothing any more -/
theorem Sim.putr (S : Sim P T M F0 w0 F ρ n σ h o a w) {d : Tmp} {tv : TV} {x : Value} (hr : RepT F ρ tv x) (hw : wfT h tv) (hd : d < n) :
    Sim P T M F0 w0 F ρ n (upd σ (some d) tv) h (Go.Ab.remo d o) (a.put (some d) x) w :=
  (S.remo d).put hr hw (fun d' e => by cases e; exact ⟨hd, fun j e c hj => remo_not j e c hj⟩)

theorem σ_cons (s : St) (d : Tmp) (tv : TV) (h : List (Nat × Blk)) (o : List (TypeId × List Nat)) : (St.mk s.n ((d, tv) :: s.t) h o).σ = upd s.σ (some d) tv := by
  funext i
  simp only [St.σ, upd, look_cons]

/-- a temporary that holds what an owner holds -/
theorem Sim.addo (S : Sim P T M F0 w0 F ρ n σ h o a w) {i d : Nat} (hd : ∀ (j : Nat) e c, o[j]? = some (e, c) → d ∉ c) (hv : a.tmps[d]? = a.tmps[i]?) :
    Sim P T M F0 w0 F ρ n σ h (addo i d o) a w := by
  have hget : ∀ (j : Nat) e c, (Go.Ab.addo i d o)[j]? = some (e, c) → ∃ c0, o[j]? = some (e, c0) ∧ (c = c0 ∨ (i ∈ c0 ∧ c = d :: c0)) := fun j e c hj => by
    simp only [Go.Ab.addo, List.getElem?_map, Option.map_eq_some_iff] at hj
    obtain ⟨⟨e', c'⟩, h1, h2⟩ := hj
    split at h2
    · rename_i hc
      simp only [Prod.mk.injEq] at h2
      obtain ⟨rfl, rfl⟩ := h2
      exact ⟨c', h1, .inr ⟨by simpa using hc, rfl⟩⟩
    · simp only [Prod.mk.injEq] at h2
      obtain ⟨rfl, rfl⟩ := h2
      exact ⟨_, h1, .inl rfl⟩
  have hold : ∀ (j : Nat) e c, (Go.Ab.addo i d o)[j]? = some (e, c) → ∃ c0, o[j]? = some (e, c0) ∧ ∀ k ∈ c, ∃ k' ∈ c0, a.tmps[k]? = a.tmps[k']? := fun j e c hj => by
    obtain ⟨c0, h1, h2⟩ := hget j e c hj
    refine ⟨c0, h1, fun k hk => ?_⟩
    rcases h2 with rfl | ⟨hic, rfl⟩
    · exact ⟨k, hk, rfl⟩
    · rcases List.mem_cons.1 hk with rfl | hk
      · exact ⟨i, hic, hv⟩
      · exact ⟨k, hk, rfl⟩
  exact { S with
    ow := fun j e c hj => by
      obtain ⟨c0, h1, h2⟩ := hold j e c hj
      obtain ⟨v, h3, h4⟩ := S.ow _ e c0 h1
      exact ⟨v, fun k hk => by obtain ⟨k', hk', e'⟩ := h2 k hk; rw [e']; exact h3 k' hk', h4⟩
    od := fun j j' e c e' c' hne hj hj' k hk k' hk' v v' g e1 e2 => by
      obtain ⟨c0, h1, h2⟩ := hold j e c hj
      obtain ⟨c0', h1', h2'⟩ := hold j' e' c' hj'
      obtain ⟨m, hm, em⟩ := h2 k hk
      obtain ⟨m', hm', em'⟩ := h2' k' hk'
      exact S.od j j' e c0 e' c0' hne h1 h1' m hm m' hm' v v' g (em ▸ e1) (em' ▸ e2) }
end Go.Ab


namespace Go.Ab
open Go.RowKit
variable {P : Program} {T : Lay} (w : World)

theorem run_append2 (base : Nat) (t ty e : TypeId) (i : TypeInfo) (z : Value) (size bytes : Nat) (ht : P.underlying t = some (.slice e)) (hi : P.info? e = some i) (hz : i.zero = some z)
    (hsize : i.size = size) (hby : i.bytes = bytes) (hzs : z.cells.size = size) (hsz : 0 < size)
    (v : Value) (n : Nat) (xs : List Value) (hown : w.ownsRow base e size v n xs)
    (x : Value) (m : Nat) (news : List Value) (hl : news.length = m * size)
    (hx : (x = .slice none 0 0 ∧ m = 0) ∨ ∃ a c, x = .slice (some a) m c ∧ ∀ j u, news[j]? = some u → w.cell? (a.add j) = some u) (h1 : ∀ u ∈ news, u.oneCell' = true)
    (h63 : n + m ≤ maxLen) (hbytes : (n + m) * bytes ≤ 140737488355328) (hbase : base ≤ w.heap.size) :
    ∃ v' w', (Builtin.append_ #[t, t] ty #[v, x]).run P w = .ok v' w' ∧ w'.ownsRow base e size v' (n + m) (xs ++ news) ∧
      ((v'.ownBlock = v.ownBlock ∧ w.grownBy w' v.ownBlock) ∨ (v'.ownBlock = some w.heap.size ∧ w.grownBy w' none)) := by
  rcases hx with ⟨rfl, rfl⟩ | ⟨a, c, rfl, hnews⟩
  · have hn : news = [] := List.eq_nil_of_length_eq_zero (by simpa using hl)
    subst hn
    exact ⟨v, w, run_append_owned_none (P := P) w base t ty e i size ht hi v n xs hown, by simpa using hown, .inl ⟨rfl, ⟨rfl, rfl, rfl, Nat.le_refl _, fun _ _ _ => rfl⟩⟩⟩
  subst hsize
  subst hby
  have hsmall : n + m ≤ 9223372036854775807 := by simp only [maxLen] at h63; omega
  have hlen : (xs ++ news).length = (n + m) * i.size := by rw [List.length_append, hown.1, hl, Nat.add_mul]
  have grown : ∀ (old : Nat), old < n + m →
      (w.drew.alloc (.cells (xs.toArray ++ news.toArray ++ Builtin.zeroCells z.cells (grownCap w (n + m) old e - (n + m))) e)).ownsRow base e i.size
        (.slice (some ⟨w.heap.size, 0, none⟩) (n + m) (grownCap w (n + m) old e)) (n + m) (xs ++ news) ∧
      w.grownBy (w.drew.alloc (.cells (xs.toArray ++ news.toArray ++ Builtin.zeroCells z.cells (grownCap w (n + m) old e - (n + m))) e)) none := by
    intro old ho
    have hge := grownCap_ge w (n + m) old e
    have hcm : grownCap w (n + m) old e ≤ maxLen := grownCap_le_maxLen w (n + m) old e h63
    refine ⟨⟨hlen, .inr ⟨w.heap.size, _, _, rfl, hbase, heap_alloc_new w.drew _, hge, hcm, ?_, ?_⟩⟩, ⟨rfl, rfl, rfl, by simp, fun k hk _ => Below.heap_alloc w.drew _ k hk⟩⟩
    · simp only [Array.size_append, List.size_toArray, size_zeroCells, hzs, hown.1, hl, ← Nat.add_mul]
      congr 1
      omega
    · simp only [Array.toList_append, List.append_assoc]
      rw [← List.append_assoc, ← hlen]
      exact List.take_left
  rcases hown.2 with ⟨rfl, rfl⟩ | ⟨g, cap, cur, rfl, hbg, hg, hnc, hcm, hcs, htake⟩
  · have hx : xs = [] := List.eq_nil_of_length_eq_zero (by simpa using hown.1)
    subst hx
    by_cases hm : m = 0
    · subst hm
      have hn : news = [] := List.eq_nil_of_length_eq_zero (by simpa using hl)
      subst hn
      refine ⟨.slice none 0 0, w, ?_, World.ownsRow_nil w base e i.size, .inl ⟨rfl, ⟨rfl, rfl, rfl, Nat.le_refl _, fun _ _ _ => rfl⟩⟩⟩
      simp [Builtin.append_, run_underlying ht, sizeOf, typeInfo, hi, Builtin.lenOf, Builtin.firstCells, loadCells, loadCellsFrom]
    · have hr := run_append_nil (P := P) w t ty e i z ht hi hz a m c news hl hnews (by omega) (by omega) (by have hb := hbytes; simp only [Nat.zero_add] at hb; omega)
      have hgr := grown 0 (by omega)
      simp only [Nat.zero_add, List.nil_append, Array.empty_append] at hgr ⊢
      exact ⟨_, _, hr, hgr.1, .inr ⟨rfl, hgr.2⟩⟩
  · by_cases hroom : n + m ≤ cap
    · have hfit : n * i.size + news.length ≤ cur.size := by rw [hl, hcs, ← Nat.add_mul]; exact Nat.mul_le_mul_right _ hroom
      have hr := run_append_room (P := P) w t ty e i ht hi g n cap cur hg a m c news hl hnews h1 hroom hfit
      refine ⟨_, _, hr, ⟨hlen, .inr ⟨g, cap, _, rfl, hbg, setRow_heap w g cur _ e _ hg, hroom, hcm, ?_, ?_⟩⟩, .inl ⟨rfl, ⟨rfl, rfl, rfl, by simp, fun k _ hk => setRow_other w g k _ (fun e => hk (by simp [Value.ownBlock, e]))⟩⟩⟩
      · simp only [List.size_toArray, List.length_append, List.length_take, List.length_drop, Array.length_toList]
        omega
      · rw [htake, ← hlen]
        exact List.take_left
    · have holds : ∀ j u, xs[j]? = some u → w.cell? ((⟨g, 0, none⟩ : Addr).add j) = some u := hown.cells (g := g) rfl
      have hr := run_append_grow (P := P) w t ty e i z ht hi hz ⟨g, 0, none⟩ n cap xs hown.1 holds a m c news hl hnews (by omega) (by omega) (growslice_fits (by omega) hbytes)
      have hgr := grown cap (by omega)
      exact ⟨_, _, hr, hgr.1, .inr ⟨rfl, hgr.2⟩⟩

theorem spot_none {w : World} {p : Addr} {v : Value} (h : w.cell? p = some v) : p.spot = none := by
  unfold World.cell? at h
  split at h
  · split at h
    · cases h
    · rename_i hs; simpa using hs
  · cases h

/-- the row's cells, as they stay from now on -/
def rowF (F : Frz) (g len : Nat) (xs : List Value) : Frz := ⟨fun p => if p.block = g ∧ p.spot = none ∧ p.off < len then xs[p.off]? else F p, F.m⟩
theorem rowF_app (F : Frz) (g len : Nat) (xs : List Value) (p : Addr) : rowF F g len xs p = if p.block = g ∧ p.spot = none ∧ p.off < len then xs[p.off]? else F p := rfl

variable {w : World} {M : Nat → Prop} {F0 F : Frz} {w0 : World} {ρ : Nat → Nat} {n : Nat} {σ : Sto} {h : List (Nat × Blk)} {o : List (TypeId × List Nat)} {a : Act}

/-- What the ledger is behind an append: the row's own cells are seen, everything else is as it was. -/
theorem Sim.grow (S : Sim P T M F0 w0 F ρ n σ h o a w) {e : TypeId} {size m k : Nat} {v v' : Value} {xs news : List Value} {w' : World}
    (hv : w.ownsRow 0 e size v m xs) (hM : ∀ g, v.ownBlock = some g → M g) (hF : ∀ g, v.ownBlock = some g → ∀ p u, F p = some u → p.block = g → p.off < m * size)
    (hloc : ∀ id b, look id h = some b → v.ownBlock ≠ some (ρ id))
    (hoth : ∀ (j : Nat) e c, o[j]? = some (e, c) → ∀ i ∈ c, ∀ u g, a.tmps[i]? = some u → v.ownBlock = some g → u.ownBlock ≠ some g)
    (hown : w'.ownsRow 0 e size v' (m + k) (xs ++ news)) (hat : (v'.ownBlock = v.ownBlock ∧ w.grownBy w' v.ownBlock) ∨ (v'.ownBlock = some w.heap.size ∧ w.grownBy w' none)) :
    ∃ F', Le F F' ∧ Sim P T M F0 w0 F' ρ n σ h o a w' ∧ Own F' w' M e size v' ∧ (∀ id b, look id h = some b → v'.ownBlock ≠ some (ρ id)) ∧
      (∀ (j : Nat) e c, o[j]? = some (e, c) → ∀ i ∈ c, ∀ u g, a.tmps[i]? = some u → v'.ownBlock = some g → u.ownBlock ≠ some g) ∧
      ∀ g, v'.ownBlock = some g → ∀ j u, (xs ++ news)[j]? = some u → F' ⟨g, j, none⟩ = some u := by
  have hlen : (xs ++ news).length = (m + k) * size := hown.1
  have hg : w.grownBy w' v.ownBlock := by
    rcases hat with ⟨_, hg⟩ | ⟨_, hg⟩
    · exact hg
    · exact ⟨hg.os, hg.tape, hg.output, hg.size, fun q hq _ => hg.block q hq (by simp)⟩
  have hlt := hv.lt
  have hlt' := hown.lt
  have hcells : ∀ g, v'.ownBlock = some g → ∀ j u, (xs ++ news)[j]? = some u → w'.cell? ⟨g, j, none⟩ = some u := fun g hg' j u hu => by
    have := hown.cells hg' j u hu
    rwa [add_plain, Nat.zero_add] at this
  -- a block that is not the old row is as it was
  have hblk : ∀ q, q < w.heap.size → v.ownBlock ≠ some q → w'.heap[q]? = w.heap[q]? := fun q hq hne => hg.block q hq (fun e' => hne e'.symm)
  -- what is seen of the old row
  have hsee : ∀ p u, F p = some u → w'.cell? p = some u ∧ ∀ g, v'.ownBlock = some g → p.block = g → (p.off < (m + k) * size ∧ (xs ++ news)[p.off]? = some u) := fun p u hp => by
    have hc := S.sees p u hp
    have hs := spot_none hc
    have hb := cell_lt hc
    by_cases hrow : v.ownBlock = some p.block
    · have hoff := hF _ hrow p u hp rfl
      have hxs : xs[p.off]? = some u := by
        have hl : p.off < xs.length := by rw [hv.1]; exact hoff
        have := hv.cells hrow p.off xs[p.off] (List.getElem?_eq_getElem hl)
        rw [add_plain, Nat.zero_add] at this
        have hp' : (⟨p.block, p.off, none⟩ : Addr) = p := by cases p; simp only at hs; subst hs; rfl
        rw [hp', hc] at this
        rw [List.getElem?_eq_getElem hl]
        exact this.symm
      have hxn : (xs ++ news)[p.off]? = some u := by rw [List.getElem?_append_left (by rw [hv.1]; exact hoff)]; exact hxs
      have hbig : p.off < (m + k) * size := by rw [Nat.add_mul]; omega
      rcases hat with ⟨he, _⟩ | ⟨he, hg0⟩
      · refine ⟨?_, fun g hg' hpg => ⟨hbig, hxn⟩⟩
        have := hcells p.block (he.trans hrow) p.off u hxn
        have hp' : (⟨p.block, p.off, none⟩ : Addr) = p := by cases p; simp only at hs; subst hs; rfl
        rwa [hp'] at this
      · refine ⟨by rw [World.cell?_of_block (w := w) (hg0.block p.block hb (by simp))]; exact hc, fun g hg' hpg => ?_⟩
        rw [he] at hg'; have := Option.some.inj hg'; omega
    · refine ⟨by rw [World.cell?_of_block (w := w) (hblk p.block hb hrow)]; exact hc, fun g hg' hpg => ?_⟩
      subst hpg
      rcases hat with ⟨he, _⟩ | ⟨he, _⟩
      · exact absurd (he.symm.trans hg') hrow
      · rw [he] at hg'; have := Option.some.inj hg'; omega
  have hnew : ∀ g, v'.ownBlock = some g → (M g ∧ g < w'.heap.size) ∧ ∀ b, b < w.heap.size → v.ownBlock ≠ some b → g ≠ b := fun g hg' => by
    refine ⟨⟨?_, (hlt' g hg').2⟩, fun b hb hne e' => ?_⟩
    · rcases hat with ⟨he, _⟩ | ⟨he, _⟩
      · exact hM g (he.symm.trans hg')
      · rw [he] at hg'
        have hgs := Option.some.inj hg'
        exact S.hM g (by rw [← hgs]; exact S.bel.size)
    subst e'
    rcases hat with ⟨he, _⟩ | ⟨he, _⟩
    · exact hne (he.symm.trans hg')
    · rw [he] at hg'; have := Option.some.inj hg'; omega
  -- the new ledger
  let F' : Frz := match v'.ownBlock with
    | some g => rowF F g ((m + k) * size) (xs ++ news)
    | none => F
  have hFm : F'.m = F.m := by
    simp only [F']
    cases v'.ownBlock <;> rfl
  have hle : Le F F' := ⟨fun p u hp => by
    simp only [F']
    cases hob : v'.ownBlock with
    | none => exact hp
    | some g =>
      simp only [rowF_app]
      split
      · rename_i hc
        exact ((hsee p u hp).2 g hob hc.1).2
      · exact hp, fun b xs e => by rw [hFm]; exact e⟩
  have hsees : Sees F' w' := by
    refine ⟨fun p u hp => ?_, fun b ys e => ?_⟩
    rotate_left 1
    · rw [hFm] at e
      obtain ⟨ck, hb⟩ := S.sees.m b ys e
      refine ⟨ck, (hblk b (map_lt S.sees e) fun hrow => ?_).trans hb⟩
      rcases hv.2 with ⟨rfl, _⟩ | ⟨g, cap, cur, rfl, _, hgg, _⟩
      · simp [Value.ownBlock] at hrow
      · simp only [Value.ownBlock, Option.some.injEq] at hrow
        subst hrow
        rw [hgg] at hb; cases hb
    simp only [F'] at hp
    cases hob : v'.ownBlock with
    | none => rw [hob] at hp; exact (hsee p u hp).1
    | some g =>
      rw [hob] at hp
      simp only [rowF_app] at hp
      split at hp
      · rename_i hc
        have := hcells g hob p.off u hp
        have hp' : (⟨g, p.off, none⟩ : Addr) = p := by
          obtain ⟨h1, h2, _⟩ := hc
          cases p; simp only at h1 h2; subst h1 h2; rfl
        rwa [hp'] at this
      · exact (hsee p u hp).1
  have hof : ∀ p u, F' p = some u → F p = some u ∨ v'.ownBlock = some p.block := fun p u hp => by
    simp only [F'] at hp
    cases hob : v'.ownBlock with
    | none => rw [hob] at hp; exact .inl hp
    | some g =>
      rw [hob] at hp
      simp only [rowF_app] at hp
      split at hp
      · rename_i hc; right; rw [hc.1]
      · exact .inl hp
  have hbel : BelM M w w' := ⟨hg.os, hg.tape, hg.output, hg.size, fun q hqs hq => hblk q hqs (fun e' => hq (hM q e'))⟩
  refine ⟨F', hle, ?_, ?_, ?_, ?_, ?_⟩
  · refine { n := S.n, df := S.df, sees := hsees, lay := S.lay, le := S.le.trans hle, new := ?_, newm := fun b xs e => S.newm b xs (by rw [← hFm]; exact e), bel := S.bel.trans hbel, hM := S.hM, tm := ?_, wf := S.wf, hp := ?_, nn := S.nn, z := S.z, inj := S.inj, ow := ?_, od := S.od }
    · intro p u hp
      rcases hof p u hp with hp | hp
      · exact S.new p u hp
      · exact .inr (hnew _ hp).1.1
    · intro i tv e'
      obtain ⟨x, h1, h2⟩ := S.tm i tv e'
      exact ⟨x, h1, h2.mono hle⟩
    · intro id b hb
      obtain ⟨h1, h2, h3⟩ := S.hp id b hb
      refine ⟨?_, h2, Nat.lt_of_lt_of_le h3 hg.size⟩
      have hne := hloc id b hb
      have hkeep := hblk (ρ id) h3 hne
      cases b with
      | var cs =>
        obtain ⟨ys, ty, e1, e2, e3, e4, e5⟩ := h1
        refine ⟨ys, ty, hkeep.trans e1, e2, e3, fun j c x q1 q2 => (e4 j c x q1 q2).mono hle, fun p u hp => ?_⟩
        rcases hof p u hp with hp | hp
        · exact e5 p u hp
        · exact (hnew _ hp).2 _ h3 hne
      | con cs =>
        obtain ⟨q, e1, e2, e3⟩ := h1
        exact ⟨q, e1, fun j c hj => hle _ _ (e2 j c hj), fun j c hj => (e3 j c hj).mono hle⟩
      | map es =>
        obtain ⟨ys, ck, e1, e0, e2, e3⟩ := h1
        exact ⟨ys, ck, hkeep.trans e1, by rw [hFm]; exact e0, e2, fun j k' v' x q1 q2 => ⟨((e3 j k' v' x q1 q2).1).mono hle, ((e3 j k' v' x q1 q2).2).mono hle⟩⟩
    · intro j e' c hj
      obtain ⟨u, h1, ⟨m', ys, h2, h3⟩, h4⟩ := S.ow j e' c hj
      by_cases hemp : c = []
      · subst hemp
        exact ⟨.slice none 0 0, by simp, ⟨0, [], World.ownsRow_nil _ _ _ _, fun g hg' => by simp [Value.ownBlock] at hg'⟩, fun id k' _ => by simp [Value.ownBlock]⟩
      · obtain ⟨i, hi⟩ := List.exists_mem_of_ne_nil c hemp
        have hdis := fun g => hoth j e' c hj i hi u g (h1 i hi)
        refine ⟨u, h1, ⟨m', ys, ?_, fun g hg' => ⟨(h3 g hg').1, ?_⟩⟩, h4⟩
        · refine h2.kept (row := v.ownBlock) hg ?_
          cases hu : u.ownBlock with
          | none => exact .inl rfl
          | some g =>
            right
            intro e''
            exact hdis g e''.symm hu
        · intro p x hp hpg
          rcases hof p x hp with hp | hp
          · exact (h3 g hg').2 p x hp hpg
          · exfalso
            subst hpg
            have hgl := (h2.lt _ hg').2
            exact (hnew _ hp).2 p.block hgl (fun e'' => hdis _ e'' hg') rfl
  · refine ⟨m + k, xs ++ news, hown, fun g hg' => ⟨(hnew g hg').1.1, fun p u hp hpg => ?_⟩⟩
    simp only [F'] at hp
    rw [hg'] at hp
    simp only [rowF_app] at hp
    split at hp
    · rename_i hc; exact hc.2.2
    · exact ((hsee p u hp).2 g hg' hpg).1
  · intro id b hb e'
    exact (hnew _ e').2 _ (S.hp id b hb).2.2 (hloc id b hb) rfl
  · intro j e' c hj i hi u g hu hg' hug
    obtain ⟨u', h1, ⟨m', ys, h2, h3⟩, h4⟩ := S.ow j e' c hj
    have : u' = u := by have := h1 i hi; rw [hu] at this; exact (Option.some.inj this).symm
    subst this
    have hgl := (h2.lt _ hug).2
    exact (hnew _ hg').2 g hgl (fun e'' => hoth j e' c hj i hi u' g hu e'' hug) rfl
  · intro g hg' j u hu
    have hj : j < (m + k) * size := by
      rw [← hlen]
      exact (List.getElem?_eq_some_iff.1 hu).1
    simp only [F']
    rw [hg']
    simp [rowF, hj, hu]
end Go.Ab


namespace Go.Ab
open Go.RowKit
variable {P : Program} {T : Lay}
variable {w : World} {M : Nat → Prop} {F0 F : Frz} {w0 : World} {ρ : Nat → Nat} {n : Nat} {σ : Sto} {h : List (Nat × Blk)} {o : List (TypeId × List Nat)} {a : Act}

/-- a local block that was made just now gets a name -/
theorem Sim.bind (S : Sim P T M F0 w0 F ρ n σ h o a w) {d b : Nat} {k : Blk} (hdn : d < n) (hd : look d h = none) (hb : RepB F w b k) (h1 : M b) (h2 : b < w.heap.size)
    (hloc : ∀ id k', look id h = some k' → ρ id ≠ b) (hown : ∀ (j : Nat) e c, o[j]? = some (e, c) → ∀ i ∈ c, ∀ u, a.tmps[i]? = some u → u.ownBlock ≠ some b) :
    Sim P T M F0 w0 F (fun i => if i = d then b else ρ i) n σ ((d, k) :: h) o a w := by
  have hne : ∀ id k', look id h = some k' → id ≠ d := fun id k' e he => by subst he; rw [hd] at e; cases e
  refine { S with tm := ?_, wf := ?_, hp := ?_, z := ?_, inj := ?_, ow := ?_ }
  rotate_left 3
  · intro k' e
    have hne' : ¬ 999999 = d := by have := S.nn; have := S.n; omega
    rw [look_cons, if_neg hne'] at e
    simp only [if_neg hne']
    exact S.z k' e
  rotate_left 2
  · intro i tv e
    obtain ⟨x, e1, e2⟩ := S.tm i tv e
    refine ⟨x, e1, ?_⟩
    have hw := S.wf i tv e
    cases tv with
    | v y => exact e2
    | p id off =>
      have : id ≠ d := fun he => hw (he ▸ hd)
      simp only [RepT] at e2 ⊢
      rw [if_neg this]; exact e2
    | m id =>
      have : id ≠ d := fun he => hw (he ▸ hd)
      simp only [RepT] at e2 ⊢
      rw [if_neg this]; exact e2
    | s id off m size =>
      have : id ≠ d := fun he => hw (he ▸ hd)
      simp only [RepT] at e2 ⊢
      rw [if_neg this]; exact e2
    | u => trivial
  · intro i tv e
    have hw := S.wf i tv e
    have aux : ∀ id, look id h ≠ none → look id ((d, k) :: h) ≠ none := fun id hi => by
      rw [look_cons]; split
      · simp
      · exact hi
    cases tv with
    | p id off => exact aux id hw
    | m id => exact aux id hw
    | s id off m size => exact aux id hw
    | v y => trivial
    | u => trivial
  · intro id k' e
    rw [look_cons] at e
    split at e
    · rename_i he
      cases e
      simp only [he, if_true]
      exact ⟨hb, h1, h2⟩
    · rename_i he
      simp only [he, if_false]
      exact S.hp id k' e
  · intro id id' k1 k2 e1 e2 heq
    rw [look_cons] at e1 e2
    split at e1 <;> split at e2
    · rename_i g1 g2; rw [g1, g2]
    · rename_i g1 g2
      simp only [g1, g2, if_true, if_false] at heq
      exact absurd heq.symm (hloc id' k2 e2)
    · rename_i g1 g2
      simp only [g1, g2, if_true, if_false] at heq
      exact absurd heq (hloc id k1 e1)
    · rename_i g1 g2
      simp only [g1, g2, if_false] at heq
      exact S.inj id id' k1 k2 e1 e2 heq
  · intro j e c hj
    obtain ⟨v, e1, e2, e3⟩ := S.ow j e c hj
    by_cases hemp : c = []
    · subst hemp
      exact ⟨.slice none 0 0, by simp, ⟨0, [], World.ownsRow_nil _ _ _ _, fun g hg' => by simp [Value.ownBlock] at hg'⟩, fun id k' _ => by simp [Value.ownBlock]⟩
    · obtain ⟨i, hi⟩ := List.exists_mem_of_ne_nil c hemp
      refine ⟨v, e1, e2, fun id k' e => ?_⟩
      rw [look_cons] at e
      split at e
      · rename_i he
        simp only [he, if_true]
        exact hown j _ c hj i hi v (e1 i hi)
      · rename_i he
        simp only [he, if_false]
        exact e3 id k' e

theorem sees_lt (hF : Sees F w) {p : Addr} {v : Value} (e : F p = some v) : p.block < w.heap.size := cell_lt (hF p v e)

/-- a new variable -/
theorem Sim.newBlk (S : Sim P T M F0 w0 F ρ n σ h o a w) {d : Nat} {k : Blk} {ob : Obj} (hd : look d h = none) (hn : d < n) (hb : RepB F (w.alloc ob) w.heap.size k) {tv : TV} {y : Value}
    (hr : RepT F (fun i => if i = d then w.heap.size else ρ i) tv y) (hw : wfT ((d, k) :: h) tv) :
    Sim P T M F0 w0 F (fun i => if i = d then w.heap.size else ρ i) n (upd σ (some d) tv) ((d, k) :: h) (Go.Ab.remo d o) (a.put (some d) y) (w.alloc ob) := by
  have hx : Ext F w F (w.alloc ob) := ⟨Le.refl F, ⟨fun p v e => by
    rw [World.cell?_of_block (w := w) (Below.heap_alloc w ob _ (sees_lt S.sees e))]; exact S.sees p v e, fun b xs e => by
    obtain ⟨ck, hb⟩ := S.sees.m b xs e
    exact ⟨ck, (Below.heap_alloc w ob _ (map_lt S.sees e)).trans hb⟩⟩, fun _ _ e => .inl e, fun _ _ e => .inl e, (Below.refl _ _).alloc (Nat.le_refl _) _⟩
  have S1 := S.ext hx
  refine Sim.putr (Sim.bind S1 hn hd hb (S.hM _ S.bel.size) (by simp) (fun id k' e => Nat.ne_of_lt (S.hp id k' e).2.2) (fun j e c hj i hi u hu => ?_)) hr hw hn
  obtain ⟨v, e1, ⟨m, xs, e2, _⟩, _⟩ := S.ow j e c hj
  have : v = u := by have := e1 i hi; rw [hu] at this; exact (Option.some.inj this).symm
  subst this
  intro he
  exact absurd (e2.lt _ he).2 (by omega)

/-- a local block is written -/
theorem Sim.write (S : Sim P T M F0 w0 F ρ n σ h o a w) {id : Nat} {k0 k : Blk} (hk0 : look id h = some k0) {w' : World}
    (hos : w'.os = w.os) (htp : w'.tape = w.tape) (hou : w'.output = w.output) (hsz : w'.heap.size = w.heap.size) (hbl : ∀ j, j ≠ ρ id → w'.heap[j]? = w.heap[j]?)
    (hF : ∀ p v, F p = some v → p.block ≠ ρ id) (hFm : F.m (ρ id) = none) (hk : RepB F w' (ρ id) k) : Sim P T M F0 w0 F ρ n σ (seth id k h) o a w' := by
  have hlook : ∀ id', look id' (seth id k h) = if id' = id then some k else look id' h := by
    have : ∀ (h : List (Nat × Blk)), look id h ≠ none → ∀ id', look id' (seth id k h) = if id' = id then some k else look id' h := by
      intro h
      induction h with
      | nil => intro hh; exact absurd rfl hh
      | cons x r ih =>
        obtain ⟨j, b⟩ := x
        intro hh id'
        simp only [seth]
        by_cases hj : id = j
        · subst hj
          simp only [if_true]
          rw [look_cons, look_cons]
          split
          · rfl
          · rfl
        · rw [if_neg hj, look_cons, look_cons]
          rw [look_cons, if_neg hj] at hh
          rw [ih hh id']
          by_cases h1 : id' = j
          · subst h1
            simp [Ne.symm hj]
          · simp [h1]
    exact this h (by rw [hk0]; simp)
  have hnone : ∀ id', look id' h ≠ none → look id' (seth id k h) ≠ none := fun id' hh => by
    rw [hlook]; split
    · simp
    · exact hh
  have hother : ∀ id' k', look id' h = some k' → id' ≠ id → ρ id' ≠ ρ id := fun id' k' e hne heq => hne (S.inj id' id k' k0 e hk0 heq)
  have hBid := (S.hp id k0 hk0).2.1
  have hrepb : ∀ b k', RepB F w b k' → b ≠ ρ id → RepB F w' b k' := fun b k' hr hne => by
    cases k' with
    | var cs => obtain ⟨xs, ty, e1, e2⟩ := hr; exact ⟨xs, ty, (hbl b hne).trans e1, e2⟩
    | con cs => exact hr
    | map es => obtain ⟨xs, ck, e1, e2⟩ := hr; exact ⟨xs, ck, (hbl b hne).trans e1, e2⟩
  refine { n := S.n, df := S.df, sees := ⟨fun p v e => ?_, fun b xs e => by
    obtain ⟨ck, hb⟩ := S.sees.m b xs e
    exact ⟨ck, (hbl b fun he => by subst he; rw [hFm] at e; cases e).trans hb⟩⟩, lay := S.lay, le := S.le, new := S.new, newm := S.newm, bel := ?_, hM := S.hM, tm := S.tm, wf := ?_, hp := ?_, nn := S.nn, z := ?_, inj := ?_, ow := ?_, od := S.od }
  rotate_left 4
  · intro k' e
    rw [hlook] at e
    split at e
    · rename_i he; subst he; exact S.z k0 hk0
    · exact S.z k' e
  rotate_left 2
  · rw [World.cell?_of_block (w := w) (hbl p.block (hF p v e))]; exact S.sees p v e
  · exact S.bel.trans ⟨hos, htp, hou, by omega, fun q hq hm => hbl q (fun e => hm (e ▸ hBid))⟩
  · intro i tv e
    have hw := S.wf i tv e
    cases tv with
    | p id' off => exact hnone id' hw
    | m id' => exact hnone id' hw
    | s id' off m size => exact hnone id' hw
    | v y => trivial
    | u => trivial
  · intro id' k' e
    rw [hlook] at e
    split at e
    · rename_i he
      cases e
      subst he
      exact ⟨hk, hBid, (by rw [hsz]; exact (S.hp id' k0 hk0).2.2)⟩
    · rename_i he
      obtain ⟨r1, r2, r3⟩ := S.hp id' k' e
      exact ⟨hrepb _ _ r1 (hother id' k' e he), r2, (by rw [hsz]; exact r3)⟩
  · intro id1 id2 k1 k2 e1 e2 heq
    have g : ∀ id' k', look id' (seth id k h) = some k' → ∃ k'', look id' h = some k'' := fun id' k' e => by
      rw [hlook] at e
      split at e
      · rename_i he; subst he; exact ⟨k0, hk0⟩
      · exact ⟨k', e⟩
    obtain ⟨k1', e1'⟩ := g id1 k1 e1
    obtain ⟨k2', e2'⟩ := g id2 k2 e2
    exact S.inj id1 id2 k1' k2' e1' e2' heq
  · intro j e c hj
    obtain ⟨v, e1, ⟨m, xs, e2, e3⟩, e4⟩ := S.ow j e c hj
    have hne := e4 id k0 hk0
    refine ⟨v, e1, ⟨m, xs, ?_, e3⟩, fun id' k' e => ?_⟩
    · refine e2.kept (row := some (ρ id)) ⟨hos, htp, hou, by omega, fun q hq hq' => hbl q (fun e' => hq' (by rw [e']))⟩ ?_
      cases hv : v.ownBlock with
      | none => exact .inl rfl
      | some g => right; rw [hv] at hne; exact hne
    · rw [hlook] at e
      split at e
      · rename_i he; subst he; exact hne
      · exact e4 id' k' e

theorem ownOf_some {i : Nat} {e : TypeId} : ∀ {o : List (TypeId × List Nat)}, ownOf i o = some e → ∃ (j : Nat) (c : List Nat), o[j]? = some (e, c) ∧ i ∈ c
  | [], h => by cases h
  | (e', c') :: r, h => by
    simp only [ownOf] at h
    split at h
    · rename_i hc
      cases h
      exact ⟨0, c', rfl, by simpa using hc⟩
    · obtain ⟨j, c, h1, h2⟩ := ownOf_some h
      exact ⟨j + 1, c, by simpa using h1, h2⟩
theorem delo_not {i : Nat} {o : List (TypeId × List Nat)} (j : Nat) (e : TypeId) (c : List Nat) (hj : (delo i o)[j]? = some (e, c)) : i ∉ c := by
  simp only [delo, List.getElem?_map, Option.map_eq_some_iff] at hj
  obtain ⟨⟨e', c'⟩, h1, h2⟩ := hj
  split at h2
  · simp only [Prod.mk.injEq] at h2; obtain ⟨_, rfl⟩ := h2; simp
  · rename_i hc
    simp only [Prod.mk.injEq] at h2
    obtain ⟨_, rfl⟩ := h2
    simpa using hc
theorem delo_mem {i k : Nat} {o : List (TypeId × List Nat)} (j : Nat) (e : TypeId) (c : List Nat) (hj : (delo i o)[j]? = some (e, c)) (hk : k ∈ c) : o[j]? = some (e, c) ∧ i ∉ c := by
  refine ⟨?_, delo_not j e c hj⟩
  simp only [delo, List.getElem?_map, Option.map_eq_some_iff] at hj
  obtain ⟨⟨e', c'⟩, h1, h2⟩ := hj
  split at h2
  · simp only [Prod.mk.injEq] at h2; obtain ⟨_, rfl⟩ := h2; simp at hk
  · simp only [Prod.mk.injEq] at h2
    obtain ⟨rfl, rfl⟩ := h2
    exact h1

/-- an owner more: a temporary that holds a row of its own -/
theorem Sim.newOwn (S : Sim P T M F0 w0 F ρ n σ h o a w) {d : Nat} {e : TypeId} {v : Value} (hv : a.tmps[d]? = some v) (ho : Own F w M e (P.cellsOf e) v)
    (hloc : ∀ id b, look id h = some b → v.ownBlock ≠ some (ρ id))
    (hoth : ∀ (j : Nat) e c, o[j]? = some (e, c) → ∀ i ∈ c, ∀ u g, a.tmps[i]? = some u → v.ownBlock = some g → u.ownBlock ≠ some g) :
    Sim P T M F0 w0 F ρ n σ h ((e, [d]) :: o) a w := by
  refine { S with ow := ?_, od := ?_ }
  · intro j e' c hj
    cases j with
    | zero =>
      simp only [List.getElem?_cons_zero, Option.some.injEq, Prod.mk.injEq] at hj
      obtain ⟨rfl, rfl⟩ := hj
      exact ⟨v, fun i hi => by simp at hi; subst hi; exact hv, ho, hloc⟩
    | succ j => exact S.ow j e' c (by simpa using hj)
  · intro j j' e1 c1 e2 c2 hne hj hj' i hi i' hi' u u' g hu hu' hg
    cases j with
    | zero =>
      cases j' with
      | zero => exact absurd rfl hne
      | succ j' =>
        simp only [List.getElem?_cons_zero, Option.some.injEq, Prod.mk.injEq] at hj
        obtain ⟨rfl, rfl⟩ := hj
        simp only [List.mem_singleton] at hi
        subst hi
        rw [hv] at hu; cases hu
        exact hoth j' e2 c2 (by simpa using hj') i' hi' u' g hu' hg
    | succ j =>
      cases j' with
      | zero =>
        simp only [List.getElem?_cons_zero, Option.some.injEq, Prod.mk.injEq] at hj'
        obtain ⟨rfl, rfl⟩ := hj'
        simp only [List.mem_singleton] at hi'
        subst hi'
        rw [hv] at hu'; cases hu'
        intro hg'
        exact hoth j e1 c1 (by simpa using hj) i hi u g hu hg' hg
      | succ j' => exact S.od j j' e1 c1 e2 c2 (by omega) (by simpa using hj) (by simpa using hj') i hi i' hi' u u' g hu hu' hg
end Go.Ab


namespace Go.Ab
open Go.RowKit
variable {P : Program} {T : Lay}
variable {w : World} {M : Nat → Prop} {F0 F : Frz} {w0 : World} {ρ : Nat → Nat} {a : Act} {st : St} {op : Oper}

/-- the state of a frame and a state of the calculus -/
def SimS (P : Program) (T : Lay) (M : Nat → Prop) (F0 : Frz) (w0 : World) (F : Frz) (ρ : Nat → Nat) (st : St) (a : Act) (w : World) : Prop := Sim P T M F0 w0 F ρ st.n st.σ st.h st.o a w

theorem putK_sound {K : St → Prop} {d : Option Tmp} {tv : TV} {x : Value} (S : SimS P T M F0 w0 F ρ st a w) (hr : RepT F ρ tv x) (hw : wfT st.h tv) (hk : putK st d tv K) :
    ∃ st', SimS P T M F0 w0 F ρ st' (a.put d x) w ∧ K st' := by
  cases d with
  | none => exact ⟨st, S, hk⟩
  | some d =>
    refine ⟨_, ?_, hk.2⟩
    unfold SimS
    rw [σ_cons]
    exact Sim.putr S hr hw hk.1

theorem frz1_look (id : Nat) : ∀ (h : List (Nat × Blk)) (i : Nat), look i (frz1 id h) = if i = id then (look i h).map frzB else look i h
  | [], i => by simp [frz1, look]
  | (j, b) :: r, i => by
    simp only [frz1]
    by_cases hj : id = j
    · subst hj
      rw [if_pos rfl, look_cons, look_cons]
      by_cases hi : i = id
      · simp [hi]
      · simp [hi]
    · rw [if_neg hj, look_cons, look_cons, frz1_look id r i]
      by_cases hi : i = j
      · subst hi
        simp [Ne.symm hj]
      · simp [hi]
theorem frz1_none (id : Nat) (h : List (Nat × Blk)) (i : Nat) : look i (frz1 id h) = none ↔ look i h = none := by
  rw [frz1_look]; split <;> simp
theorem frz1_wf {id : Nat} {h : List (Nat × Blk)} {tv : TV} (hw : wfT h tv) : wfT (frz1 id h) tv := by
  cases tv with
  | p i off => exact fun e => hw ((frz1_none id h i).1 e)
  | m i => exact fun e => hw ((frz1_none id h i).1 e)
  | s i off m size => exact fun e => hw ((frz1_none id h i).1 e)
  | v x => trivial
  | u => trivial

theorem frz1_sound (S : SimS P T M F0 w0 F ρ st a w) (id : Nat) : ∃ F', SimS P T M F0 w0 F' ρ { st with h := frz1 id st.h } a w := by
  have same : (∀ i, look i (frz1 id st.h) = look i st.h) → ∃ F', SimS P T M F0 w0 F' ρ { st with h := frz1 id st.h } a w := fun hs =>
    ⟨F, { S with
      wf := fun i tv e => frz1_wf (S.wf i tv e)
      hp := fun i b e => S.hp i b (by rw [← hs i]; exact e)
      z := fun b e => S.z b (by rw [← hs]; exact e)
      inj := fun i i' b b' e e' => S.inj i i' b b' (by rw [← hs i]; exact e) (by rw [← hs i']; exact e')
      ow := fun j e c hj => by
        obtain ⟨v, h1, h2, h3⟩ := S.ow j e c hj
        exact ⟨v, h1, h2, fun i b e => h3 i b (by rw [← hs i]; exact e)⟩ }⟩
  cases hk : look id st.h with
  | none =>
    refine same fun i => ?_
    · rw [frz1_look]
      split
      · rename_i he; subst he; rw [hk]; rfl
      · rfl
  | some b =>
    cases b with
    | con cs =>
      refine same fun i => ?_
      · rw [frz1_look]
        split
        · rename_i he; subst he; rw [hk]; rfl
        · rfl
    | map es =>
      refine same fun i => ?_
      · rw [frz1_look]
        split
        · rename_i he; subst he; rw [hk]; rfl
        · rfl
    | var cs =>
      obtain ⟨⟨xs, ty, h1, h2, h3, h4, h5⟩, hB, hlt⟩ := S.hp id _ hk
      have hcell : ∀ q, w.cell? ⟨ρ id, q, none⟩ = xs[q]? := fun q => by simp [World.cell?, h1]
      have hle : Le F ⟨fun p => if p.block = ρ id then w.cell? p else F p, F.m⟩ := ⟨fun p v e => by
        show (if p.block = ρ id then w.cell? p else F p) = some v
        rw [if_neg (h5 p v e)]; exact e, fun _ _ e => e⟩
      have hcase : ∀ p v, (if p.block = ρ id then w.cell? p else F p) = some v → F p = some v ∨ p.block = ρ id := fun p v e => by
        split at e
        · rename_i hb; exact .inr hb
        · exact .inl e
      have hinj : ∀ i b, look i st.h = some b → i ≠ id → ρ i ≠ ρ id := fun i b e hne he => hne (S.inj i id b _ e hk he)
      refine ⟨⟨fun p => if p.block = ρ id then w.cell? p else F p, F.m⟩, ?_⟩
      refine { n := S.n, df := S.df, sees := ⟨fun p v e => ?_, S.sees.m⟩, lay := S.lay, le := S.le.trans hle, new := fun p v e => ?_, newm := S.newm, bel := S.bel, hM := S.hM, tm := fun i tv e => ?_, wf := fun i tv e => frz1_wf (S.wf i tv e), hp := ?_, nn := S.nn, z := ?_, inj := ?_, ow := ?_, od := S.od }
      rotate_left 4
      · intro k e
        replace e : look 999999 (frz1 id st.h) = some k := e
        cases hb : look 999999 st.h with
        | none => rw [(frz1_none id st.h 999999).2 hb] at e; cases e
        | some b' => exact S.z b' hb
      rotate_left 2
      · have e' : (if p.block = ρ id then w.cell? p else F p) = some v := e
        split at e'
        · exact e'
        · exact S.sees p v e'
      · rcases hcase p v e with e' | e'
        · exact S.new p v e'
        · exact .inr (by rw [e']; exact hB)
      · obtain ⟨x, g1, g2⟩ := S.tm i tv e
        exact ⟨x, g1, g2.mono hle⟩
      · intro i b e
        replace e : look i (frz1 id st.h) = some b := e
        rw [frz1_look] at e
        split at e
        · rename_i he
          subst he
          rw [hk] at e
          simp only [Option.map_some, Option.some.injEq] at e
          subst e
          refine ⟨⟨fun j => xs.getD j undef, h3, fun j c hj => ?_, fun j c hj => ?_⟩, hB, hlt⟩
          · have hjl : j < xs.size := Nat.lt_of_lt_of_le (List.getElem?_eq_some_iff.1 hj).1 h2
            show (if (⟨ρ i, j, none⟩ : Addr).block = ρ i then w.cell? ⟨ρ i, j, none⟩ else _) = _
            rw [if_pos rfl, hcell]
            simp [hjl]
          · have hjl : j < xs.size := Nat.lt_of_lt_of_le (List.getElem?_eq_some_iff.1 hj).1 h2
            refine (h4 j c _ hj ?_).mono hle
            simp [hjl]
        · rename_i he
          obtain ⟨g1, g2, g3⟩ := S.hp i b e
          refine ⟨?_, g2, g3⟩
          have hne := hinj i b e he
          cases b with
          | var cs' =>
            obtain ⟨xs', ty', k1, k2, k3, k4, k5⟩ := g1
            refine ⟨xs', ty', k1, k2, k3, fun j c x e1 e2 => (k4 j c x e1 e2).mono hle, fun p v hp => ?_⟩
            rcases hcase p v hp with e' | e'
            · exact k5 p v e'
            · rw [e']; exact Ne.symm hne
          | con cs' =>
            obtain ⟨g, k1, k2, k3⟩ := g1
            exact ⟨g, k1, fun j c e => hle _ _ (k2 j c e), fun j c e => (k3 j c e).mono hle⟩
          | map es =>
            obtain ⟨xs', ck, k1, k0, k2, k3⟩ := g1
            exact ⟨xs', ck, k1, k0, k2, fun j k v x e1 e2 => ⟨((k3 j k v x e1 e2).1).mono hle, ((k3 j k v x e1 e2).2).mono hle⟩⟩
      · have g : ∀ i b, look i (frz1 id st.h) = some b → ∃ b', look i st.h = some b' := fun i b e => by
          cases hb : look i st.h with
          | none => rw [(frz1_none id st.h i).2 hb] at e; cases e
          | some b' => exact ⟨b', rfl⟩
        intro i i' b b' e e' he
        obtain ⟨c, hc⟩ := g i b e
        obtain ⟨c', hc'⟩ := g i' b' e'
        exact S.inj i i' c c' hc hc' he
      · intro j e c hj
        obtain ⟨v, g1, ⟨m, ys, g2, g3⟩, g4⟩ := S.ow j e c hj
        refine ⟨v, g1, ⟨m, ys, g2, fun g hg => ⟨(g3 g hg).1, fun p u hp hpg => ?_⟩⟩, fun i b hb => ?_⟩
        · rcases hcase p u hp with e' | e'
          · exact (g3 g hg).2 p u e' hpg
          · exact absurd (by rw [hg, ← hpg, e']) (g4 id _ hk)
        · replace hb : look i (frz1 id st.h) = some b := hb
          cases hb' : look i st.h with
          | none => rw [(frz1_none id st.h i).2 hb'] at hb; cases hb
          | some b' => exact g4 i b' hb'
theorem frzC_sound : ∀ (l : List Operand) {h : List (Nat × Blk)} {F : Frz}, SimS P T M F0 w0 F ρ { st with h := h } a w → ∃ F', SimS P T M F0 w0 F' ρ { st with h := frzC st.σ l h } a w
  | [], h, F, S => ⟨F, S⟩
  | x :: r, h, F, S => by
    simp only [frzC]
    split
    · rename_i id off _
      obtain ⟨F', S'⟩ := frz1_sound S id
      exact frzC_sound r S'
    · exact frzC_sound r S
theorem frzR_sound : ∀ (l : List Oper) {h : List (Nat × Blk)} {F : Frz}, SimS P T M F0 w0 F ρ { st with h := h } a w → ∃ F', SimS P T M F0 w0 F' ρ { st with h := frzR st.σ l h } a w
  | [], h, F, S => ⟨F, S⟩
  | x :: r, h, F, S => by
    simp only [frzR]
    split
    · rename_i cap _
      obtain ⟨F', S'⟩ := frzC_sound cap.toList S
      exact frzR_sound r S'
    · exact frzR_sound r S

theorem nu_ne {r : Option TV} {tv : TV} (h : nu r = some tv) : tv ≠ .u := by
  unfold nu at h; split at h
  · cases h
  · rename_i hne; intro he; subst he; exact hne h

theorem movK_sound {K : St → Prop} {x : Operand} {d : Option Tmp} (S : SimS P T M F0 w0 F ρ st a w) (hk : movK st x d K) : ∃ st', SimS P T M F0 w0 F ρ st' (a.put d (a.eval x)) w ∧ K st' := by
  unfold movK at hk
  split at hk
  · exact ⟨st, S, hk⟩
  · rename_i tv d hx
    have hx' := nu_some hx
    have hr := S.opr x tv hx'
    have hw := S.wfo x tv hx'
    split at hk
    · rename_i i
      refine ⟨_, ?_, hk.2⟩
      unfold SimS
      rw [σ_cons]
      have S1 := Sim.putr S hr hw hk.1
      by_cases hid : i = d
      · simp only [if_pos hid]; exact S1
      · simp only [if_neg hid]
        refine S1.addo (fun j e c hj => remo_not j e c hj) ?_
        have hsz : d < a.tmps.size := by rw [S.n]; exact hk.1
        rw [put_get hsz, put_get hsz, if_pos rfl, if_neg hid]
        obtain ⟨y, e1, _⟩ := S.tm i tv hx'
        rw [e1]
        simp [Act.eval, e1]
    · refine ⟨_, ?_, hk.2⟩
      unfold SimS
      rw [σ_cons]
      exact Sim.putr S hr hw hk.1
  · exact hk.elim

theorem evK_sound {K : St → Prop} (S : SimS P T M F0 w0 F ρ st a w) (hk : evK P op st K) {next : Act → World → Prop} {Q : Exit → Act → World → Prop}
    (k : ∀ F' ρ' st' a' w', SimS P T M F0 w0 F' ρ' st' a' w' → K st' → next a' w') : op.wp P a w next Q := by
  unfold evK at hk
  have G := Sim.good S
  split at hk
  · rename_i tv htv
    obtain ⟨x, hr, hx⟩ := evq_sound (P := P) G op htv
    unfold Oper.wp
    rw [hr]
    obtain ⟨st', S', hK⟩ := putK_sound S hx (evq_wf S.wfo htv) hk
    exact k F ρ st' _ w S' hK
  · split at hk
    · rename_i v hv
      obtain ⟨x, F', w', hr, he, hx⟩ := evb_sound (P := P) G op hv
      unfold Oper.wp
      rw [hr]
      obtain ⟨st', S', hK⟩ := putK_sound (tv := .v v) (Sim.ext S he) hx trivial hk
      exact k F' ρ st' _ w' S' hK
    · exact hk.elim

theorem retK_sound {K : St → Prop} {d : Option Tmp} {r : V} (S : SimS P T M F0 w0 F ρ st a w) {F' : Frz} {w' : World} {y : Value} (hx : Ext F w F' w') (hr : Rep F' r y) {own : Option TypeId}
    (ho : ∀ e, own = some e → Own F' w' (fun g => w.heap.size ≤ g) e (P.cellsOf e) y) (hk : retK st d K r own) : ∃ st', SimS P T M F0 w0 F' ρ st' (a.put d y) w' ∧ K st' := by
  have S1 := Sim.ext S hx
  cases own with
  | none => exact putK_sound (tv := .v r) S1 hr trivial hk
  | some e =>
    cases d with
    | none => exact ⟨st, S1, hk⟩
    | some d =>
      refine ⟨_, ?_, hk.2⟩
      unfold SimS
      rw [σ_cons]
      have S2 := Sim.putr (tv := .v r) S1 hr trivial hk.1
      have hsz : d < a.tmps.size := by rw [S.n]; exact hk.1
      obtain ⟨m, xs, h1, h2⟩ := ho e rfl
      have hge := fun g hg => (h2 g hg)
      refine S2.newOwn (v := y) (by rw [put_get hsz, if_pos rfl]) ⟨m, xs, h1, fun g hg => ⟨S.hM g (Nat.le_trans S.bel.size (h2 g hg).1), (h2 g hg).2⟩⟩ (fun id b hb e' => ?_) (fun j e' c hj i hi u g hu hg hg' => ?_)
      · have := (hge _ e').1
        have := (S.hp id b hb).2.2
        omega
      · have hne : i ≠ d := fun he => remo_not j e' c hj (he ▸ hi)
        rw [put_get hsz, if_neg hne] at hu
        simp only [remo, List.getElem?_map, Option.map_eq_some_iff] at hj
        obtain ⟨⟨e2, c2⟩, h3, h4⟩ := hj
        simp only [Prod.mk.injEq] at h4
        obtain ⟨rfl, rfl⟩ := h4
        obtain ⟨v, g1, ⟨m2, ys, g2, _⟩, _⟩ := S.ow j e2 c2 h3
        have hv := g1 i (List.mem_filter.1 hi).1
        rw [hu] at hv; cases hv
        have := (g2.lt _ hg').2
        have := (hge _ hg).1
        omega

theorem newK_sound {K : St → Prop} {d : Option Tmp} {size : Nat} {es : List (List V)} (S : SimS P T M F0 w0 F ρ st a w) {F' : Frz} {w' : World} {y : Value} (hx : Ext F w F' w') (hn : New F' w' w.heap.size size es y) (hk : newK st d K size es) :
    ∃ ρ' st', SimS P T M F0 w0 F' ρ' st' (a.put d y) w' ∧ K st' := by
  have S1 := Sim.ext S hx
  cases d with
  | none => exact hk.elim
  | some d =>
    obtain ⟨h1, h2, h3, h4⟩ := hk
    rcases hn with ⟨he, hr⟩ | ⟨b, cap, rfl, g1, g2, g3, g4, g5, g6⟩
    · refine ⟨ρ, _, ?_, h3 he⟩
      unfold SimS
      rw [σ_cons]
      exact Sim.putr (tv := .v (.slice size [])) S1 hr trivial h1
    · refine ⟨fun i => if i = d then b else ρ i, _, ?_, h4 g3⟩
      unfold SimS
      rw [σ_cons]
      refine Sim.putr (tv := .s d 0 es.length size) (Sim.bind S1 h1 h2 g6 (S.hM _ (Nat.le_trans S.bel.size g4)) g5 (fun id k' e => ?_) (fun j e c hj i hi u hu => ?_)) ?_ ?_ h1
      · have := (S.hp id k' e).2.2; omega
      · obtain ⟨v, e1, ⟨m, xs, e2, _⟩, _⟩ := S.ow j e c hj
        have : v = u := by have := e1 i hi; rw [hu] at this; exact (Option.some.inj this).symm
        subst this
        intro he
        exact absurd (e2.lt _ he).2 (by omega)
      · exact ⟨cap, g1, g2, List.length_pos_iff.2 g3, by simp⟩
      · simp [wfT, look_same]

/-- the knowledge of a block is written anew -/
theorem Sim.know (S : SimS P T M F0 w0 F ρ st a w) {id : Nat} {cs : List V} {k : Blk} (hk0 : look id st.h = some (.var cs)) (hk : RepB F w (ρ id) k) : SimS P T M F0 w0 F ρ { st with h := seth id k st.h } a w := by
  obtain ⟨⟨xs, ty, h1, h2, h3, h4, h5⟩, _⟩ := S.hp id _ hk0
  exact Sim.write S hk0 rfl rfl rfl rfl (fun _ _ => rfl) h5 (nomap S.sees h1) hk

theorem seth_seth (id : Nat) (b b' : Blk) : ∀ h : List (Nat × Blk), seth id b (seth id b' h) = seth id b h
  | [] => rfl
  | (j, x) :: r => by
    simp only [seth]
    split
    · rename_i he; simp [seth, he]
    · rename_i he; simp [seth, he, seth_seth id b b' r]
theorem seth_look (id : Nat) (b : Blk) : ∀ h : List (Nat × Blk), look id h ≠ none → look id (seth id b h) = some b
  | [], hh => absurd rfl hh
  | (j, x) :: r, hh => by
    simp only [seth]
    split
    · rename_i he; subst he; exact look_same _ _ _
    · rename_i he
      rw [look_cons, if_neg he]
      rw [look_cons, if_neg he] at hh
      exact seth_look id b r hh

/-- more is known of maps that stay -/
theorem Sim.more {n : Nat} {σ : Sto} {h : List (Nat × Blk)} {o : List (TypeId × List Nat)} (S : Sim P T M F0 w0 F ρ n σ h o a w) {F' : Frz} (hle : Le F F') (hc : ∀ p v, F' p = some v → F p = some v) (hs : Sees F' w)
    (hm : ∀ b xs, F'.m b = some xs → F.m b = some xs ∨ M b) (hl : ∀ id es, look id h = some (.map es) → F'.m (ρ id) = none) : Sim P T M F0 w0 F' ρ n σ h o a w where
  n := S.n
  df := S.df
  sees := hs
  lay := S.lay
  le := S.le.trans hle
  new := fun p v e => S.new p v (hc p v e)
  newm := fun b xs e => (hm b xs e).elim (S.newm b xs) .inr
  bel := S.bel
  hM := S.hM
  tm := fun i tv e => by obtain ⟨x, h1, h2⟩ := S.tm i tv e; exact ⟨x, h1, h2.mono hle⟩
  wf := S.wf
  hp := fun id b e => by
    obtain ⟨h1, h2, h3⟩ := S.hp id b e
    refine ⟨?_, h2, h3⟩
    cases b with
    | var cs =>
      obtain ⟨xs, ty, k1, k2, k3, k4, k5⟩ := h1
      exact ⟨xs, ty, k1, k2, k3, fun j c x e1 e2 => (k4 j c x e1 e2).mono hle, fun p v hp => k5 p v (hc p v hp)⟩
    | con cs =>
      obtain ⟨g, k1, k2, k3⟩ := h1
      exact ⟨g, k1, fun j c e => hle _ _ (k2 j c e), fun j c e => (k3 j c e).mono hle⟩
    | map es =>
      obtain ⟨xs, ck, k1, _, k2, k3⟩ := h1
      exact ⟨xs, ck, k1, hl id es e, k2, fun j k v x e1 e2 => ⟨((k3 j k v x e1 e2).1).mono hle, ((k3 j k v x e1 e2).2).mono hle⟩⟩
  nn := S.nn
  z := S.z
  inj := S.inj
  ow := fun j e c hj => by
    obtain ⟨v, h1, ⟨m, xs, h2, h3⟩, h4⟩ := S.ow j e c hj
    exact ⟨v, h1, ⟨m, xs, h2, fun g hg => ⟨(h3 g hg).1, fun p u hp => (h3 g hg).2 p u (hc p u hp)⟩⟩, h4⟩
  od := S.od
theorem seth_other (id : Nat) (b : Blk) : ∀ (h : List (Nat × Blk)) (i : Nat), i ≠ id → look i (seth id b h) = look i h
  | [], _, _ => rfl
  | (j, x) :: r, i, hi => by
    simp only [seth]
    split
    · rename_i he; subst he; rw [look_cons, look_cons, if_neg hi, if_neg hi]
    · rw [look_cons, look_cons, seth_other id b r i hi]
/-- a local map is written no more -/
theorem Sim.frzM (S : SimS P T M F0 w0 F ρ st a w) {id : Nat} {es : List (V × V)} (hb : look id st.h = some (.map es)) :
    ∃ F', SimS P T M F0 w0 F' ρ { st with h := seth id (.con []) st.h } a w ∧ ∃ xs, F'.m (ρ id) = some xs ∧ xs.size = es.length ∧ ∀ (j : Nat) k v x, es[j]? = some (k, v) → xs[j]? = some x → Rep F' k x.key ∧ Rep F' v x.val := by
  obtain ⟨⟨xs, ck, b1, b0, b2, b3⟩, hB, hlt⟩ := S.hp id _ hb
  have hF : ∀ p u, F p = some u → p.block ≠ ρ id := fun p u hp he => by
    have := S.sees p u hp
    unfold World.cell? at this
    rw [he, b1] at this
    cases this
  have S1 := Sim.write S hb (w' := w) (k := .con []) rfl rfl rfl rfl (fun _ _ => rfl) hF b0 ⟨fun _ => undef, by simp, by simp, by simp⟩
  have hle : Le F ⟨F.c, fun b => if b = ρ id then some xs else F.m b⟩ := ⟨fun _ _ e => e, fun b ys e => by
    show (if b = ρ id then some xs else F.m b) = some ys
    split
    · rename_i he; subst he; rw [b0] at e; cases e
    · exact e⟩
  refine ⟨⟨F.c, fun b => if b = ρ id then some xs else F.m b⟩, ?_, xs, if_pos rfl, b2, fun j k v x e1 e2 => ⟨((b3 j k v x e1 e2).1).mono hle, ((b3 j k v x e1 e2).2).mono hle⟩⟩
  refine Sim.more S1 hle (fun _ _ e => e) ⟨S.sees.c, fun b ys e => ?_⟩ (fun b ys e => ?_) (fun id' es' e => ?_)
  · replace e : (if b = ρ id then some xs else F.m b) = some ys := e
    split at e
    · rename_i he; cases e; subst he; exact ⟨ck, b1⟩
    · exact S.sees.m b ys e
  · replace e : (if b = ρ id then some xs else F.m b) = some ys := e
    split at e
    · rename_i he; subst he; exact .inr hB
    · exact .inl e
  · by_cases hi : id' = id
    · subst hi
      rw [seth_look id' _ st.h (by rw [hb]; simp)] at e
      cases e
    · rw [seth_other id _ st.h id' hi] at e
      have hne : ρ id' ≠ ρ id := fun he => hi (S.inj id' id _ _ e hb he)
      show (if ρ id' = ρ id then some xs else F.m (ρ id')) = none
      rw [if_neg hne]
      obtain ⟨⟨_, _, _, h0, _⟩, _⟩ := S.hp id' _ e
      exact h0

/-- a call has written one block -/
theorem Sim.extX (S : SimS P T M F0 w0 F ρ st a w) {id : Nat} {cs cs' : List V} (hk0 : look id st.h = some (.var cs)) {F' : Frz} {w' : World} (hx : ExtX (ρ id) F w F' w') (hk : RepB F' w' (ρ id) (.var cs')) :
    SimS P T M F0 w0 F' ρ { st with h := seth id (.var cs') st.h } a w' := by
  obtain ⟨⟨xs, ty, h1, h2, h3, h4, h5⟩, hM, hlt⟩ := S.hp id _ hk0
  have hk' := hk
  obtain ⟨xs', ty', g1, g2, g3, g4, g5⟩ := hk
  let w1 : World := { w with heap := w.heap.setIfInBounds (ρ id) (.cells xs' ty' (0, 0)) }
  have hw1 : w1.heap[ρ id]? = some (.cells xs' ty' (0, 0)) := by simp [w1, hlt]
  have hw1o : ∀ j, j ≠ ρ id → w1.heap[j]? = w.heap[j]? := fun j hj => by simp [w1, Array.getElem?_setIfInBounds_ne (Ne.symm hj)]
  have S1 : SimS P T M F0 w0 F ρ { st with h := seth id (.var []) st.h } a w1 :=
    Sim.write S hk0 rfl rfl rfl (by simp [w1]) hw1o h5 (nomap S.sees h1) ⟨xs', ty', hw1, by simp, by simp, by simp, h5⟩
  have hE : Ext F w1 F' w' := ⟨hx.le, hx.fr, fun p v e => by have := hx.new p v e; simpa [w1] using this, fun p v e => by have := hx.newm p v e; simpa [w1] using this,
    ⟨hx.os, hx.tape, hx.output, by have := hx.size; simpa [w1] using this, fun q hq => by
      have hq' : q < w.heap.size := by simpa [w1] using hq
      by_cases he : q = ρ id
      · subst he; rw [hw1, g1]
      · rw [hw1o q he]; exact hx.block q hq' he⟩⟩
  have S2 := Sim.ext S1 hE
  have := Sim.know (st := { st with h := seth id (.var []) st.h }) S2 (cs := []) (seth_look id _ st.h (by rw [hk0]; simp)) hk'
  simp only [seth_seth] at this
  exact this

theorem tvsOf_sound {ρa : Operand → Option TV} {ρc : Operand → Value} {F : Frz} {ρ : Nat → Nat} (G : ∀ x tv, ρa x = some tv → RepT F ρ tv (ρc x)) : ∀ (l : List Operand) {ts : List TV}, tvsOf ρa l = some ts →
    ts.length = l.length ∧ ∀ (j : Nat) t x, ts[j]? = some t → (l.map ρc)[j]? = some x → RepT F ρ t x
  | [], ts, e => by simp only [tvsOf, Option.some.injEq] at e; subst e; simp
  | y :: r, ts, e => by
    simp only [tvsOf] at e
    split at e
    · rename_i v vs h1 h2
      cases e
      obtain ⟨hl, hh⟩ := tvsOf_sound G r h2
      refine ⟨by simp [hl], fun j t x e1 e2 => ?_⟩
      cases j with
      | zero => simp at e1 e2; subst e1 e2; exact G y _ h1
      | succ j => exact hh j t x (by simpa using e1) (by simpa using e2)
    · cases e
theorem only_re {id : Nat} {F : Frz} {ρ : Nat → Nat} : ∀ {ts : List TV}, only id ts = true → ∀ (j : Nat) t x, ts[j]? = some t → RepT F ρ t x → RepT F (fun _ => ρ id) (re 999999 t) x
  | [], _, j, t, x, e, _ => by simp at e
  | .v y :: r, h, j, t, x, e, hr => by
    cases j with
    | zero => simp at e; subst e; exact hr
    | succ j => exact only_re (ts := r) h j t x (by simpa using e) hr
  | .p i off :: r, h, j, t, x, e, hr => by
    simp only [only, Bool.and_eq_true] at h
    cases j with
    | zero =>
      simp at e; subst e
      have := Nat.eq_of_beq_eq_true h.1
      subst this; exact hr
    | succ j => exact only_re (ts := r) h.2 j t x (by simpa using e) hr
  | .s i off n size :: r, h, j, t, x, e, hr => by
    simp only [only, Bool.and_eq_true] at h
    cases j with
    | zero =>
      simp at e; subst e
      have := Nat.eq_of_beq_eq_true h.1
      subst this; exact hr
    | succ j => exact only_re (ts := r) h.2 j t x (by simpa using e) hr
  | .m _ :: r, h, _, _, _, _, _ => by cases h
  | .u :: r, h, _, _, _, _, _ => by cases h
theorem re_rep {F : Frz} {ρ : Nat → Nat} {id : Nat} {r : TV} {y : Value} (ho : only 999999 [r] = true) (h : RepT F (fun _ => ρ id) r y) : RepT F ρ (re id r) y := by
  cases r with
  | v x => exact h
  | p i off => exact h
  | s i off n size => exact h
  | m i => cases ho
  | u => cases ho

theorem callM_sound {k : St → TV → Prop} {c : Go.Call} {f : Operand} {g : FuncId} {cap : List V} {ts : List TV} (S : SimS P T M F0 w0 F ρ st a w) (ho : op.op = .call c) (hc : c.callee = .value f)
    (hf : vOf (opv st.σ f) = some (.func g cap)) (hts : tvsOf (opv st.σ) c.args.toList = some ts) (hk : CallM P T g ts cap st k) {next : Act → World → Prop} {Q : Exit → Act → World → Prop}
    (kk : ∀ F' w' y st' tv, SimS P T M F0 w0 F' ρ st' a w' → RepT F' ρ tv y → wfT st'.h tv → k st' tv → next (a.put op.dst y) w') : op.wp P a w next Q := by
  have G := Sim.good S
  have hfv := G.v hf
  generalize hfx : a.eval f = fx at hfv
  cases hfv with
  | func hl hh =>
    rename_i xs
    obtain ⟨hl2, hh2⟩ := tvsOf_sound G.opr _ hts
    obtain ⟨id, cs, cs', r, q1, q2, q3, hden, q4⟩ := hk
    have hargs : RepsT F (ρ id) (ts.map (re 999999) ++ cap.map .v) ((c.args.toList.map a.eval) ++ xs.toList) := by
      refine ⟨by simp [hl, hl2], fun j v x e1 e2 => ?_⟩
      by_cases hj : j < ts.length
      · rw [List.getElem?_append_left (by simpa using hj)] at e1
        rw [List.getElem?_append_left (by rw [List.length_map]; omega)] at e2
        simp only [List.getElem?_map, Option.map_eq_some_iff] at e1
        obtain ⟨t, e1, rfl⟩ := e1
        exact only_re q2 j t x e1 (hh2 j t x e1 e2)
      · rw [List.getElem?_append_right (by rw [List.length_map]; omega)] at e1
        rw [List.getElem?_append_right (by rw [List.length_map]; omega)] at e2
        rw [List.length_map] at e1
        rw [List.length_map, ← hl2] at e2
        simp only [List.getElem?_map, Option.map_eq_some_iff] at e1
        obtain ⟨t, e1, rfl⟩ := e1
        exact hh _ t x e1 (by simpa using e2)
    have hrun : ∀ (he : Enters P g), (execOp a.eval op).run P w = .ok (.enter g ((c.args.toList.map a.eval) ++ xs.toList).toArray) w := by
      intro he
      have := he ((c.args.map a.eval) ++ xs) w
      have harr : ((c.args.toList.map a.eval) ++ xs.toList).toArray = (c.args.map a.eval) ++ xs := by
        apply Array.ext'
        simp
      rw [harr, ← this]
      simp [execOp, ho, resolve, hc, hfx, Deferred.ofValue, invoke]
    unfold Oper.wp
    rw [hrun hden.1]
    refine (hden.2 w F (ρ id) _ S.sees (S.laid) (S.hp id _ q1).1 hargs).mono ?_
    rintro e w' ⟨y, F', rfl, hx, hb, hr⟩
    refine kk F' w' y _ _ (Sim.extX S q1 hx hb) (re_rep q3 hr) ?_ q4
    have hne : look id (seth id (.var cs') st.h) ≠ none := by rw [seth_look id _ _ (by rw [q1]; simp)]; simp
    cases r with
    | v x => trivial
    | p i off => exact hne
    | s i off n size => exact hne
    | m i => trivial
    | u => trivial

theorem call_sound {K : V → Option TypeId → Prop} {KN : Nat → List (List V) → Prop} {c : Go.Call} {f : Operand} {g : FuncId} {cap vs : List V} (S : SimS P T M F0 w0 F ρ st a w) (ho : op.op = .call c) (hc : c.callee = .value f)
    (hf : vOf (opv st.σ f) = some (.func g cap)) (hvs : vsOf (opv st.σ) c.args.toList = some vs) (hk : Call P T g (vs ++ cap) K KN) {next : Act → World → Prop} {Q : Exit → Act → World → Prop}
    (k : ∀ F' w' y r own, Ext F w F' w' → Rep F' r y → (∀ e, own = some e → Own F' w' (fun g => w.heap.size ≤ g) e (P.cellsOf e) y) → K r own → next (a.put op.dst y) w')
    (kn : ∀ F' w' y size es, Ext F w F' w' → New F' w' w.heap.size size es y → KN size es → next (a.put op.dst y) w') : op.wp P a w next Q := by
  have G := Sim.good S
  have hfv := G.v hf
  generalize hfx : a.eval f = fx at hfv
  cases hfv with
  | func hl hh =>
    rename_i xs
    obtain ⟨hl2, hh2⟩ := vsOf_sound G hvs
    have hargs : Reps F (vs ++ cap) ((c.args.toList.map a.eval) ++ xs.toList) := by
      refine ⟨by simp [hl, hl2], fun j v x e1 e2 => ?_⟩
      by_cases hj : j < vs.length
      · rw [List.getElem?_append_left hj] at e1
        rw [List.getElem?_append_left (by rw [List.length_map]; omega)] at e2
        exact hh2 j v x e1 e2
      · rw [List.getElem?_append_right (by omega)] at e1
        rw [List.getElem?_append_right (by rw [List.length_map]; omega)] at e2
        rw [List.length_map, ← hl2] at e2
        exact hh _ v x e1 (by simpa using e2)
    have hrun : ∀ (he : Enters P g), (execOp a.eval op).run P w = .ok (.enter g ((c.args.toList.map a.eval) ++ xs.toList).toArray) w := by
      intro he
      have := he ((c.args.map a.eval) ++ xs) w
      have harr : ((c.args.toList.map a.eval) ++ xs.toList).toArray = (c.args.map a.eval) ++ xs := by
        apply Array.ext'
        simp
      rw [harr, ← this]
      simp [execOp, ho, resolve, hc, hfx, Deferred.ofValue, invoke]
    unfold Oper.wp
    rcases hk with ⟨r, hden, hk⟩ | ⟨r, e, hden, hk⟩ | ⟨size, es, hden, hk⟩
    · rw [hrun hden.1]
      refine (hden.2 w F _ S.sees (S.laid) hargs).mono ?_
      rintro e w' ⟨y, F', rfl, hx, hr⟩
      exact k F' w' y r none hx hr (fun e he => by cases he) hk
    · rw [hrun hden.1]
      refine (hden.2 w F _ S.sees (S.laid) hargs).mono ?_
      rintro e' w' ⟨y, F', rfl, hx, hr, hown⟩
      exact k F' w' y r (some e) hx hr (fun e he => by cases he; exact hown) hk
    · rw [hrun hden.1]
      refine (hden.2 w F _ S.sees (S.laid) hargs).mono ?_
      rintro e' w' ⟨y, F', rfl, hx, hn⟩
      exact kn F' w' y size es hx hn hk

/-- the cells of a slice, in one list -/
def flat (m size : Nat) (g : Nat → Nat → Value) : List Value := (List.range (m * size)).map fun q => g (q / size) (q % size)
theorem flat_length (m size : Nat) (g : Nat → Nat → Value) : (flat m size g).length = m * size := by simp [flat]
theorem flat_get {m size : Nat} {g : Nat → Nat → Value} {i j : Nat} (hi : i < m) (hj : j < size) : (flat m size g)[i * size + j]? = some (g i j) := by
  have hlt : i * size + j < m * size := by
    have : (i + 1) * size ≤ m * size := Nat.mul_le_mul_right _ hi
    rw [Nat.add_mul] at this; omega
  have h1 : (i * size + j) / size = i := by
    rw [Nat.mul_comm, Nat.mul_add_div (by omega), Nat.div_eq_of_lt hj]; simp
  have h2 : (i * size + j) % size = j := by
    rw [Nat.mul_comm, Nat.mul_add_mod, Nat.mod_eq_of_lt hj]
  simp [flat, hlt, h1, h2]
theorem flat_inv {m size : Nat} {g : Nat → Nat → Value} {q : Nat} {u : Value} (h : (flat m size g)[q]? = some u) : ∃ i j, i < m ∧ j < size ∧ q = i * size + j ∧ u = g i j := by
  have hlt : q < m * size := by
    have := (List.getElem?_eq_some_iff.1 h).1
    rwa [flat_length] at this
  have hs : 0 < size := by
    rcases Nat.eq_zero_or_pos size with h0 | h0
    · subst h0; simp at hlt
    · exact h0
  refine ⟨q / size, q % size, (Nat.div_lt_iff_lt_mul hs).2 hlt, Nat.mod_lt _ hs, ?_, ?_⟩
  · rw [Nat.mul_comm]; exact (Nat.div_add_mod q size).symm
  · simp [flat, hlt] at h; exact h.symm

/-- a slice's cells as they lie -/
theorem slice_cells {size : Nat} {es : List (List V)} {x : Value} (hF : Sees F w) (h : Rep F (.slice size es) x) :
    ∃ g : Nat → Nat → Value, ((x = .slice none 0 0 ∧ es.length = 0) ∨ ∃ a c, x = .slice (some a) es.length c ∧ ∀ j u, (flat es.length size g)[j]? = some u → w.cell? (a.add j) = some u) ∧
      (∀ u ∈ flat es.length size g, u.oneCell' = true) ∧ (∀ e ∈ es, e.length = size) ∧ (∀ e ∈ es, ∀ c ∈ e, c.one = true) ∧
      ∀ (i j : Nat) e c, es[i]? = some e → e[j]? = some c → Rep F c (g i j) := by
  rcases rep_slice_inv h with ⟨rfl, rfl⟩ | ⟨a, cap, g, rfl, hc, hm, hs, ho, hg, hr⟩
  · exact ⟨fun _ _ => undef, .inl ⟨rfl, rfl⟩, by simp [flat], by simp, by simp, by simp⟩
  · have key : ∀ i j, i < es.length → j < size → ∃ e c, es[i]? = some e ∧ e[j]? = some c := fun i j hi hj => by
      have he := List.getElem?_eq_getElem hi
      have hl := hs es[i] (List.getElem_mem hi)
      exact ⟨es[i], es[i][j]'(by omega), he, List.getElem?_eq_getElem (by omega)⟩
    refine ⟨g, .inr ⟨a, cap, rfl, fun q u hq => ?_⟩, fun u hu => ?_, hs, ho, hr⟩
    · obtain ⟨i, j, hi, hj, rfl, rfl⟩ := flat_inv hq
      obtain ⟨e, c, h1, h2⟩ := key i j hi hj
      exact hF _ _ (hg i j e c h1 h2)
    · obtain ⟨q, hq⟩ := List.getElem?_of_mem hu
      obtain ⟨i, j, hi, hj, rfl, rfl⟩ := flat_inv hq
      obtain ⟨e, c, h1, h2⟩ := key i j hi hj
      exact (hr i j e c h1 h2).one (ho e (List.mem_of_getElem? h1) c (List.mem_of_getElem? h2))

theorem appK_sound {K : St → Prop} {c : Go.Call} (S : SimS P T M F0 w0 F ρ st a w) (ho : op.op = .call c) (hc : c.callee = .builtin .append) (hk : appK P op c st K)
    {next : Act → World → Prop} {Q : Exit → Act → World → Prop} (k : ∀ F' ρ' st' a' w', SimS P T M F0 w0 F' ρ' st' a' w' → K st' → next a' w') : op.wp P a w next Q := by
  have G := Sim.good S
  unfold appK at hk
  split at hk
  · rename_i s x t t' d h1 h2 hd
    split at hk
    · rename_i htt
      subst htt
      split at hk
      · rename_i e size hsl
        obtain ⟨hu, hsz, hz⟩ := slV_some hsl
        split at hk
        · rename_i es io xsv hS hX
          obtain ⟨hzc, happ, hdn, hK⟩ := hk
          obtain ⟨inf, hi⟩ := info_of_cells (P := P) (t := e) (by omega)
          have hisz : inf.size = size := by rw [← hsz]; simp [Program.cellsOf, hi]
          have hiby : inf.bytes = P.bytesOf e := by simp [Program.bytesOf, hi]
          have hzz : ∃ z, inf.zero = some z ∧ z.cells.size = size := by
            unfold ZeroOk zeroV at hzc
            rw [hi] at hzc
            simp only [Option.bind_some, Option.map_eq_some_iff] at hzc
            exact hzc
          obtain ⟨z, hz1, hz2⟩ := hzz
          -- the row that is appended to
          have hrow : ∃ xs0, w.ownsRow 0 e size (a.eval s) es.length xs0 ∧ (∀ g, (a.eval s).ownBlock = some g → M g) ∧ (∀ g, (a.eval s).ownBlock = some g → ∀ p u, F p = some u → p.block = g → p.off < es.length * size) ∧
              (∀ id b, look id st.h = some b → (a.eval s).ownBlock ≠ some (ρ id)) ∧
              (∀ (j : Nat) e c, (owner io st.o)[j]? = some (e, c) → ∀ i ∈ c, ∀ u g, a.tmps[i]? = some u → (a.eval s).ownBlock = some g → u.ownBlock ≠ some g) ∧
              (∀ e ∈ es, e.length = size) ∧ (∀ e ∈ es, ∀ c ∈ e, c.one = true) ∧
              ∀ (i j : Nat) e c, es[i]? = some e → e[j]? = some c → ∃ u, xs0[i * size + j]? = some u ∧ Rep F c u := by
            unfold appS at hS
            split at hS
            · rename_i hv
              cases hS
              have := rep_val_inv (G.v hv)
              rw [this]
              exact ⟨[], World.ownsRow_nil w 0 e size, by simp [Value.ownBlock], by simp [Value.ownBlock], by simp [Value.ownBlock], by simp [Value.ownBlock], by simp, by simp, by simp⟩
            · rename_i s' es' hv
              split at hS
              · rename_i i
                split at hS
                · rename_i hcond
                  cases hS
                  obtain ⟨rfl, hown⟩ := hcond
                  obtain ⟨j0, c0, hj0, hi0⟩ := ownOf_some hown
                  obtain ⟨v, hv1, ⟨m, xs0, hv2, hv3⟩, hv4⟩ := S.ow j0 e c0 hj0
                  have hev : a.eval (.tmp i) = v := by simp [Act.eval, hv1 i hi0]
                  have hrep := G.v hv
                  rw [hev] at hrep ⊢
                  rw [hsz] at hv2 hv3
                  have hm : m = es.length := by
                    obtain ⟨aa, cc, hvv⟩ := rep_slice_len hrep
                    rcases hv2.2 with ⟨e1, e2⟩ | ⟨g, cap, cur, e1, _⟩
                    · rw [e1] at hvv; simp only [Value.slice.injEq] at hvv; omega
                    · rw [e1] at hvv; simp only [Value.slice.injEq] at hvv; exact hvv.2.1
                  subst hm
                  obtain ⟨gg, hc1, hc2, hc3, hc4, hc5⟩ := slice_cells S.sees hrep
                  refine ⟨xs0, hv2, fun g hg => (hv3 g hg).1, fun g hg => (hv3 g hg).2, hv4, ?_, hc3, hc4, fun i' j e' c e1 e2 => ?_⟩
                  · intro j' e' c' hj' i' hi' u g hu hg
                    obtain ⟨q1, q2⟩ := delo_mem j' e' c' hj' hi'
                    refine S.od j0 j' e c0 e' c' (fun he => ?_) hj0 q1 i hi0 i' hi' v u g (hv1 i hi0) hu hg
                    subst he
                    rw [hj0] at q1
                    cases q1
                    exact q2 hi0
                  · have hi'lt := (List.getElem?_eq_some_iff.1 e1).1
                    have hjlt : j < s' := by
                      have := (List.getElem?_eq_some_iff.1 e2).1
                      rw [hc3 e' (List.mem_of_getElem? e1)] at this; exact this
                    refine ⟨gg i' j, ?_, hc5 i' j e' c e1 e2⟩
                    have hfl := flat_get (g := gg) hi'lt hjlt
                    rcases hc1 with ⟨_, h0⟩ | ⟨aa, cc, hvv, hcell⟩
                    · omega
                    · have hw := hcell _ _ hfl
                      have hob : v.ownBlock = some aa.block := by rw [hvv]; rfl
                      have hxl : i' * s' + j < xs0.length := by
                        rw [hv2.1]
                        have : (i' + 1) * s' ≤ es.length * s' := Nat.mul_le_mul_right _ hi'lt
                        rw [Nat.add_mul] at this; omega
                      have hcx := hv2.cells hob _ _ (List.getElem?_eq_getElem hxl)
                      have haa : aa = ⟨aa.block, 0, none⟩ := by
                        rcases hv2.2 with ⟨e1, e2⟩ | ⟨g, cap, cur, e1, _⟩
                        · rw [e1] at hvv; simp at hvv
                        · rw [e1] at hvv; simp only [Value.slice.injEq, Option.some.injEq] at hvv; rw [← hvv.1]
                      rw [haa] at hw
                      rw [hw] at hcx
                      rw [List.getElem?_eq_getElem hxl, ← Option.some.inj hcx]
                · cases hS
              · cases hS
            · cases hS
          obtain ⟨xs0, r1, rM, r2, r3, r4, r5, r6, r7⟩ := hrow
          -- what is appended
          have hnew : ∃ g : Nat → Nat → Value, ((a.eval x = .slice none 0 0 ∧ xsv.length = 0) ∨ ∃ ad c, a.eval x = .slice (some ad) xsv.length c ∧ ∀ j u, (flat xsv.length size g)[j]? = some u → w.cell? (ad.add j) = some u) ∧
              (∀ u ∈ flat xsv.length size g, u.oneCell' = true) ∧ (∀ e ∈ xsv, e.length = size) ∧ (∀ e ∈ xsv, ∀ c ∈ e, c.one = true) ∧
              ∀ (i j : Nat) e c, xsv[i]? = some e → e[j]? = some c → Rep F c (g i j) := by
            unfold appX at hX
            split at hX
            · rename_i hv
              cases hX
              have := rep_val_inv (G.v hv)
              exact ⟨fun _ _ => undef, .inl ⟨this, rfl⟩, by simp [flat], by simp, by simp, by simp⟩
            · rename_i s' es' hv
              split at hX
              · rename_i hss
                cases hX
                subst hss
                exact slice_cells S.sees (G.v hv)
              · cases hX
            · cases hX
          obtain ⟨gx, n1, n2, n3, n4, n5⟩ := hnew
          obtain ⟨v', w', hrun, hown, hat⟩ := run_append2 (P := P) w 0 t op.type e inf z size (P.bytesOf e) hu hi hz1 hisz hiby hz2 (by omega) (a.eval s) es.length xs0 r1 (a.eval x) xsv.length (flat xsv.length size gx) (flat_length _ _ _) n1 n2 happ.1 happ.2 (Nat.zero_le _)
          have hrunop : (execOp a.eval op).run P w = .ok (.value v') w' := by
            have ha : c.args = #[s, x] := by apply Array.ext'; simpa using h1
            have hb : c.argTypes = #[t, t] := by apply Array.ext'; simpa using h2
            simp only [execOp, ho, resolve, hc, ha, hb, Sem.run_bind, Sem.run_pure, Result.andThen_ok, invoke, builtin, List.map_toArray, List.map_cons, List.map_nil]
            rw [hrun]
            rfl
          have S1 : Sim P T M F0 w0 F ρ st.n st.σ st.h (owner io st.o) a w := by
            cases io with
            | none => exact S
            | some i => exact Sim.delo S i
          obtain ⟨F', f1, f2, f3, f4, f5, f6⟩ := Sim.grow S1 r1 rM r2 r3 r4 hown hat
          have hlen : es.length + xsv.length = (es ++ xsv).length := by simp
          have hrep : Rep F' (.slice size (es ++ xsv)) v' := by
            rcases hown.2 with ⟨e1, e2⟩ | ⟨g, cap, cur, e1, e2, e3, e4, e5, _⟩
            · have : es ++ xsv = [] := List.eq_nil_of_length_eq_zero (by omega)
              rw [this, e1]
              exact .snil
            · have hob : v'.ownBlock = some g := by rw [e1]; rfl
              have hcell := f6 g hob
              rw [e1, hlen]
              have hall : ∀ (i j : Nat) e c, (es ++ xsv)[i]? = some e → e[j]? = some c → ∃ u, (xs0 ++ flat xsv.length size gx)[i * size + j]? = some u ∧ Rep F' c u := fun i j e' c g1 g2 => by
                by_cases hi' : i < es.length
                · rw [List.getElem?_append_left hi'] at g1
                  obtain ⟨u, u1, u2⟩ := r7 i j e' c g1 g2
                  have hl := (List.getElem?_eq_some_iff.1 u1).1
                  exact ⟨u, by rw [List.getElem?_append_left hl]; exact u1, u2.mono f1⟩
                · rw [List.getElem?_append_right (by omega)] at g1
                  have hilt := (List.getElem?_eq_some_iff.1 g1).1
                  have hjlt : j < size := by
                    have := (List.getElem?_eq_some_iff.1 g2).1
                    rw [n3 e' (List.mem_of_getElem? g1)] at this; exact this
                  refine ⟨gx (i - es.length) j, ?_, (n5 _ j e' c g1 g2).mono f1⟩
                  have hmul : es.length * size ≤ i * size := Nat.mul_le_mul_right _ (by omega)
                  rw [List.getElem?_append_right (by rw [r1.1]; omega), r1.1, ← flat_get (g := gx) hilt hjlt]
                  congr 1
                  rw [Nat.sub_mul]; omega
              refine .slice (fun i j => ((xs0 ++ flat xsv.length size gx)[i * size + j]?).getD undef) (by rw [← hlen]; exact e4) e5 (fun e he => ?_) (fun e he => ?_) (fun i j e c g1 g2 => ?_) (fun i j e c g1 g2 => ?_)
              · rcases List.mem_append.1 he with he | he
                · exact r5 e he
                · exact n3 e he
              · rcases List.mem_append.1 he with he | he
                · exact r6 e he
                · exact n4 e he
              · obtain ⟨u, u1, u2⟩ := hall i j e c g1 g2
                rw [add_plain, Nat.zero_add, hcell _ u u1, u1]
                rfl
              · obtain ⟨u, u1, u2⟩ := hall i j e c g1 g2
                simp only [u1, Option.getD_some]
                exact u2
          unfold Oper.wp
          rw [hrunop]
          have S3 := Sim.putr (d := d) (tv := .v (.slice size (es ++ xsv))) f2 hrep trivial hdn
          have hszt : d < a.tmps.size := by rw [S.n]; exact hdn
          rw [← hsz] at f3
          have S4 := S3.newOwn (v := v') (e := e) (by rw [put_get hszt, if_pos rfl]) f3 f4 (fun j e' c' hj i hi u g hu hg => by
            have hne : i ≠ d := fun he => remo_not j e' c' hj (he ▸ hi)
            rw [put_get hszt, if_neg hne] at hu
            simp only [remo, List.getElem?_map, Option.map_eq_some_iff] at hj
            obtain ⟨⟨e2, c2⟩, h3, h4⟩ := hj
            simp only [Prod.mk.injEq] at h4
            obtain ⟨rfl, rfl⟩ := h4
            exact f5 j e2 c2 h3 i (List.mem_filter.1 hi).1 u g hu hg)
          show next (a.put op.dst v') w'
          rw [hd]
          refine k F' ρ _ _ w' ?_ hK
          unfold SimS
          rw [σ_cons]
          exact S4
        · exact hk.elim
      · exact hk.elim
    · exact hk.elim
  · exact hk.elim
theorem flatten_getA {size : Nat} : ∀ {es : List (List V)} (_ : ∀ e ∈ es, e.length = size) {q : Nat} {c : V}, es.flatten[q]? = some c → ∃ e, es[q / size]? = some e ∧ e[q % size]? = some c
  | [], _, q, c, h => by simp at h
  | e :: r, hs, q, c, h => by
    have he := hs e (by simp)
    rw [List.flatten_cons] at h
    by_cases hq : q < e.length
    · rw [List.getElem?_append_left hq] at h
      rw [Nat.div_eq_of_lt (by omega), Nat.mod_eq_of_lt (by omega)]
      exact ⟨e, rfl, h⟩
    · rw [List.getElem?_append_right (by omega)] at h
      obtain ⟨e', h1, h2⟩ := flatten_getA (size := size) (es := r) (fun x hx => hs x (by simp [hx])) h
      rw [he] at h1 h2
      have hpos : 0 < size := by
        rcases Nat.eq_zero_or_pos size with h0 | h0
        · subst h0
          have hl : ∀ (r : List (List V)), (∀ x ∈ r, x.length = 0) → r.flatten = [] := fun r => by
            induction r with
            | nil => intro _; rfl
            | cons y r ih =>
              intro hy
              rw [List.flatten_cons, ih fun x hx => hy x (by simp [hx]), List.eq_nil_of_length_eq_zero (hy y (by simp))]; rfl
          rw [hl r fun x hx => hs x (by simp [hx])] at h
          simp at h
        · exact h0
      have e1 : q / size = (q - size) / size + 1 := by
        rw [← Nat.add_div_right _ hpos]; congr 1; omega
      have e2 : q % size = (q - size) % size := by
        rw [← Nat.add_mod_right (q - size) size]; congr 1; omega
      exact ⟨e', by rw [e1, List.getElem?_cons_succ]; exact h1, by rw [e2]; exact h2⟩
theorem flatten_lenA {size : Nat} : ∀ {es : List (List V)} (_ : ∀ e ∈ es, e.length = size), es.flatten.length = es.length * size
  | [], _ => by simp
  | e :: r, hs => by
    rw [List.flatten_cons, List.length_append, flatten_lenA fun x hx => hs x (by simp [hx]), hs e (by simp), List.length_cons, Nat.add_mul, Nat.one_mul, Nat.add_comm]

/-- an append onto an empty row of the call's own makes a local row -/
theorem appL_sound {K : St → Prop} {c : Go.Call} (S : SimS P T M F0 w0 F ρ st a w) (ho : op.op = .call c) (hc : c.callee = .builtin .append) (hk : appL P op c st K)
    {next : Act → World → Prop} {Q : Exit → Act → World → Prop} (k : ∀ F' ρ' st' a' w', SimS P T M F0 w0 F' ρ' st' a' w' → K st' → next a' w') : op.wp P a w next Q := by
  have G := Sim.good S
  unfold appL at hk
  split at hk
  · rename_i s x t t' d h1 h2 hd
    split at hk
    · rename_i htt
      subst htt
      split at hk
      · rename_i e size hsl
        obtain ⟨hu, hsz, hz⟩ := slV_some hsl
        split at hk
        · rename_i io xsv hS hX
          obtain ⟨hpos, hzc, happ, hdn, hdh, hK⟩ := hk
          have hne : xsv ≠ [] := List.length_pos_iff.1 hpos
          obtain ⟨inf, hi⟩ := info_of_cells (P := P) (t := e) (by omega)
          have hisz : inf.size = size := by rw [← hsz]; simp [Program.cellsOf, hi]
          have hiby : inf.bytes = P.bytesOf e := by simp [Program.bytesOf, hi]
          have hzz : ∃ z, inf.zero = some z ∧ z.cells.size = size := by
            unfold ZeroOk zeroV at hzc
            rw [hi] at hzc
            simp only [Option.bind_some, Option.map_eq_some_iff] at hzc
            exact hzc
          obtain ⟨z, hz1, hz2⟩ := hzz
          have hrow : w.ownsRow 0 e size (a.eval s) 0 [] ∧ (∀ g, (a.eval s).ownBlock = some g → M g) ∧ (∀ g, (a.eval s).ownBlock = some g → ∀ p u, F p = some u → p.block ≠ g) ∧
              (∀ id b, look id st.h = some b → (a.eval s).ownBlock ≠ some (ρ id)) ∧
              (∀ (j : Nat) e c, (owner io st.o)[j]? = some (e, c) → ∀ i ∈ c, ∀ u g, a.tmps[i]? = some u → (a.eval s).ownBlock = some g → u.ownBlock ≠ some g) := by
            unfold appS at hS
            split at hS
            · rename_i hv
              cases hS
              have := rep_val_inv (G.v hv)
              rw [this]
              exact ⟨World.ownsRow_nil w 0 e size, by simp [Value.ownBlock], by simp [Value.ownBlock], by simp [Value.ownBlock], by simp [Value.ownBlock]⟩
            · rename_i s' es' hv
              split at hS
              · rename_i i
                split at hS
                · rename_i hcond
                  cases hS
                  obtain ⟨rfl, hown⟩ := hcond
                  obtain ⟨j0, c0, hj0, hi0⟩ := ownOf_some hown
                  obtain ⟨v, hv1, ⟨m, xs0, hv2, hv3⟩, hv4⟩ := S.ow j0 e c0 hj0
                  have hev : a.eval (.tmp i) = v := by simp [Act.eval, hv1 i hi0]
                  have hrep := G.v hv
                  rw [hev] at hrep ⊢
                  rw [hsz] at hv2 hv3
                  have hm : m = 0 := by
                    obtain ⟨aa, cc, hvv⟩ := rep_slice_len hrep
                    rcases hv2.2 with ⟨e1, e2⟩ | ⟨g, cap, cur, e1, _⟩
                    · exact e2
                    · rw [e1] at hvv; simp only [Value.slice.injEq] at hvv; exact hvv.2.1
                  subst hm
                  have hx0 : xs0 = [] := List.eq_nil_of_length_eq_zero (by rw [hv2.1]; simp)
                  subst hx0
                  refine ⟨hv2, fun g hg => (hv3 g hg).1, fun g hg p u hp hpg => ?_, hv4, ?_⟩
                  · have := (hv3 g hg).2 p u hp hpg
                    omega
                  · intro j' e' c' hj' i' hi' u g hu hg
                    obtain ⟨q1, q2⟩ := delo_mem j' e' c' hj' hi'
                    refine S.od j0 j' e c0 e' c' (fun he => ?_) hj0 q1 i hi0 i' hi' v u g (hv1 i hi0) hu hg
                    subst he
                    rw [hj0] at q1
                    cases q1
                    exact q2 hi0
                · cases hS
              · cases hS
            · cases hS
          obtain ⟨r1, rM, r2, r3, r4⟩ := hrow
          -- what is appended
          have hnew : ∃ g : Nat → Nat → Value, ((a.eval x = .slice none 0 0 ∧ xsv.length = 0) ∨ ∃ ad c, a.eval x = .slice (some ad) xsv.length c ∧ ∀ j u, (flat xsv.length size g)[j]? = some u → w.cell? (ad.add j) = some u) ∧
              (∀ u ∈ flat xsv.length size g, u.oneCell' = true) ∧ (∀ e ∈ xsv, e.length = size) ∧ (∀ e ∈ xsv, ∀ c ∈ e, c.one = true) ∧
              ∀ (i j : Nat) e c, xsv[i]? = some e → e[j]? = some c → Rep F c (g i j) := by
            unfold appX at hX
            split at hX
            · rename_i hv
              cases hX
              have := rep_val_inv (G.v hv)
              exact ⟨fun _ _ => undef, .inl ⟨this, rfl⟩, by simp [flat], by simp, by simp, by simp⟩
            · rename_i s' es' hv
              split at hX
              · rename_i hss
                cases hX
                subst hss
                exact slice_cells S.sees (G.v hv)
              · cases hX
            · cases hX
          obtain ⟨gx, n1, n2, n3, n4, n5⟩ := hnew
          obtain ⟨v', w', hrun, hown, hat⟩ := run_append2 (P := P) w 0 t op.type e inf z size (P.bytesOf e) hu hi hz1 hisz hiby hz2 (by omega) (a.eval s) 0 [] r1 (a.eval x) xsv.length (flat xsv.length size gx) (flat_length _ _ _) n1 n2 (by rw [Nat.zero_add]; exact happ.1) (by rw [Nat.zero_add]; exact happ.2) (Nat.zero_le _)
          have hrunop : (execOp a.eval op).run P w = .ok (.value v') w' := by
            have ha : c.args = #[s, x] := by apply Array.ext'; simpa using h1
            have hb : c.argTypes = #[t, t] := by apply Array.ext'; simpa using h2
            simp only [execOp, ho, resolve, hc, ha, hb, Sem.run_bind, Sem.run_pure, Result.andThen_ok, invoke, builtin, List.map_toArray, List.map_cons, List.map_nil]
            rw [hrun]
            rfl
          have S1 : SimS P T M F0 w0 F ρ { st with o := owner io st.o } a w := by
            cases io with
            | none => exact S
            | some i => exact Sim.delo S i
          simp only [Nat.zero_add, List.nil_append] at hown
          have hxl : 0 < xsv.length := List.length_pos_iff.2 hne
          rcases hown.2 with ⟨e1, e2⟩ | ⟨g, cap, cur, e1, e2, e3, e4, e5, e6, e7⟩
          · omega
          have hob : v'.ownBlock = some g := by rw [e1]; rfl
          have hcur : ∀ (q : Nat) c u, xsv.flatten[q]? = some c → cur[q]? = some u → Rep F c u := fun q c u g1 g2 => by
            obtain ⟨e', q1, q2⟩ := flatten_getA n3 g1
            have hil := (List.getElem?_eq_some_iff.1 q1).1
            have hjl : q % size < size := by
              have := (List.getElem?_eq_some_iff.1 q2).1
              rwa [n3 e' (List.mem_of_getElem? q1)] at this
            have hf := flat_get (g := gx) hil hjl
            have hqq : q / size * size + q % size = q := by rw [Nat.mul_comm]; exact Nat.div_add_mod q size
            rw [hqq] at hf
            have hql := (List.getElem?_eq_some_iff.1 hf).1
            rw [flat_length] at hql
            have hg2 : cur.toList[q]? = some u := by simpa using g2
            rw [← e7, List.getElem?_take, if_pos hql, hg2] at hf
            cases hf
            exact n5 _ _ e' c q1 q2
          have hlen : xsv.flatten.length ≤ cur.size := by
            rw [flatten_lenA n3, e6]; exact Nat.mul_le_mul_right _ e4
          have hones : ∀ c ∈ xsv.flatten, c.one = true := fun c hc' => by
            obtain ⟨e', h3, h4⟩ := List.mem_flatten.1 hc'
            exact n4 e' h3 c h4
          unfold Oper.wp
          rw [hrunop]
          show next (a.put op.dst v') w'
          rw [hd]
          rcases hat with ⟨hq, hg⟩ | ⟨hq, hg⟩
          · -- in place
            have hog : (a.eval s).ownBlock = some g := by rw [← hq]; exact hob
            have hglt := (r1.lt g hog).2
            have hg0 : ∃ cur0, w.heap[g]? = some (.cells cur0 e (0, 0)) := by
              rcases r1.2 with ⟨z1, z2⟩ | ⟨g', cap', cur0, z1, z2, z3, _⟩
              · rw [z1] at hog; cases hog
              · rw [z1] at hog
                have : g' = g := Option.some.inj hog
                subst this
                exact ⟨cur0, z3⟩
            obtain ⟨cur0, hg0⟩ := hg0
            have S2 : SimS P T M F0 w0 F (fun i => if i = d then g else ρ i) { st with h := (d, .var []) :: st.h, o := owner io st.o } a w :=
              Sim.bind S1 hdn hdh ⟨cur0, e, hg0, Nat.zero_le _, by simp, by simp, fun p u hp => r2 g hog p u hp⟩ (rM g hog) hglt (fun id k' hk' he => r3 id k' hk' (he ▸ hog)) (fun j e' c hj i hi u hu => r4 j e' c hj i hi u g hu hog)
            have hsee : Sees F w' := ⟨fun p u hp => by
              rw [World.cell?_of_block (w := w) (hg.block p.block (sees_lt S.sees hp) (by rw [hog]; exact fun h => r2 g hog p u hp (Option.some.inj h)))]; exact S.sees p u hp, fun b xs hb => by
              obtain ⟨ck, hb'⟩ := S.sees.m b xs hb
              refine ⟨ck, (hg.block b (map_lt S.sees hb) (by rw [hog]; intro h; have := Option.some.inj h; subst this; rw [hg0] at hb'; cases hb')).trans hb'⟩⟩
            have hx : ExtX g F w F w' := ⟨Le.refl F, hsee, fun _ _ h => .inl h, fun _ _ h => .inl h, hg.os, hg.tape, hg.output, hg.size, fun q hq' hne' => hg.block q hq' (by rw [hog]; exact fun h => hne' (Option.some.inj h))⟩
            have S3 := Sim.extX (id := d) (cs := []) (cs' := xsv.flatten) S2 (look_same _ _ _) (by simp only [if_true]; exact hx) (by simp only [if_true]; exact ⟨cur, e, e3, hlen, hones, hcur, fun p u hp => r2 g hog p u hp⟩)
            refine k F (fun i => if i = d then g else ρ i) _ _ _ ?_ hK
            unfold SimS
            rw [σ_cons]
            refine Sim.putr (tv := .s d 0 xsv.length size) (h := (d, .var xsv.flatten) :: st.h) ?_ ⟨cap, e4, e5, hxl, by rw [e1]; simp⟩ (by simp [wfT, look_same]) hdn
            have := S3
            simp only [seth, if_true] at this
            exact this
          · -- a new row
            have hgs : g = w.heap.size := by rw [hob] at hq; exact Option.some.inj hq
            have hx : Ext F w F w' := ⟨Le.refl F, ⟨fun p u hp => by
              rw [World.cell?_of_block (w := w) (hg.block p.block (sees_lt S.sees hp) (by simp))]; exact S.sees p u hp, fun b xs hb => by
              obtain ⟨ck, hb'⟩ := S.sees.m b xs hb
              exact ⟨ck, (hg.block b (map_lt S.sees hb) (by simp)).trans hb'⟩⟩, fun _ _ h => .inl h, fun _ _ h => .inl h, ⟨hg.os, hg.tape, hg.output, hg.size, fun q hq' => hg.block q hq' (by simp)⟩⟩
            have hN : New F w' w.heap.size size xsv v' := .inr ⟨g, cap, e1, e4, e5, hne, by omega, (hown.lt g hob).2, ⟨cur, e, e3, hlen, hones, hcur, fun p u hp => by have := sees_lt S.sees hp; omega⟩⟩
            obtain ⟨ρ', st', S', hK'⟩ := newK_sound (K := K) (d := some d) S1 hx hN ⟨hdn, hdh, fun h => absurd h hne, fun _ => hK⟩
            exact k F ρ' st' _ _ S' hK'
        · exact hk.elim
      · exact hk.elim
    · exact hk.elim
  · exact hk.elim
end Go.Ab


namespace Go.Ab
open Go.RowKit
variable {P : Program} {T : Lay}
variable {w : World} {M : Nat → Prop} {F0 F : Frz} {w0 : World} {ρ : Nat → Nat} {a : Act} {st : St} {op : Oper}

theorem newRow_run (e : TypeId) (xs : Array Value) (w : World) : (newRow e xs).run P w = .ok ⟨w.heap.size, 0, none⟩ (w.alloc (.cells xs e)) := rfl

/-- a block made of cells, as a variable -/
theorem repB_new (hF : Sees F w) {cs : List V} {xs : Array Value} {e : TypeId} (h1 : xs.size = cs.length) (h2 : ∀ c ∈ cs, c.one = true) (h3 : ∀ (j : Nat) c x, cs[j]? = some c → xs[j]? = some x → Rep F c x) :
    RepB F (w.alloc (.cells xs e)) w.heap.size (.var cs) :=
  ⟨xs, e, heap_alloc_new w _, Nat.le_of_eq h1.symm, h2, h3, fun _ _ hp => Nat.ne_of_lt (sees_lt hF hp)⟩

/-- a block may be forgotten, with all that points into it -/
theorem forget_sound (S : SimS P T M F0 w0 F ρ st a w) (d : Nat) : SimS P T M F0 w0 F ρ { st with t := unT d st.t, h := unH d st.h } a w := by
  have hh : ∀ i b, look i (unH d st.h) = some b → look i st.h = some b := fun i b e => by
    rw [unH_look] at e
    split at e
    · cases e
    · exact e
  exact { n := S.n, df := S.df, sees := S.sees, lay := S.lay, le := S.le, new := S.new, newm := S.newm, bel := S.bel, hM := S.hM, od := S.od, nn := S.nn
          tm := fun i tv e => S.tm i tv (unT_look e).1
          wf := fun i tv e => by
            obtain ⟨h1, h2⟩ := unT_look e
            have := S.wf i tv h1
            cases tv with
            | v x => trivial
            | u => trivial
            | p id off => simp only [tvOn, beq_eq_false_iff_ne, ne_eq] at h2; simp only [wfT] at this ⊢; rw [unH_look, if_neg h2]; exact this
            | m id => simp only [tvOn, beq_eq_false_iff_ne, ne_eq] at h2; simp only [wfT] at this ⊢; rw [unH_look, if_neg h2]; exact this
            | s id off n z => simp only [tvOn, beq_eq_false_iff_ne, ne_eq] at h2; simp only [wfT] at this ⊢; rw [unH_look, if_neg h2]; exact this
          hp := fun id b e => S.hp id b (hh id b e)
          z := fun b e => S.z b (hh _ b e)
          inj := fun id id' b b' e e' => S.inj id id' b b' (hh id b e) (hh id' b' e')
          ow := fun j e c hj => by
            obtain ⟨v, q1, q2, q3⟩ := S.ow j e c hj
            exact ⟨v, q1, q2, fun id b e => q3 id b (hh id b e)⟩ }
theorem newvar_sound {K : St → Prop} (S : SimS P T M F0 w0 F ρ st a w) {d : Nat} {cs : List V} {xs : Array Value} {e : TypeId} (h1 : xs.size = cs.length) (h2 : ∀ c ∈ cs, c.one = true)
    (h3 : ∀ (j : Nat) c x, cs[j]? = some c → xs[j]? = some x → Rep F c x) (hd : look d st.h = none) (hn : d < st.n)
    (hK : K { st with t := (d, .p d 0) :: st.t, h := (d, .var cs) :: st.h, o := remo d st.o }) :
    ∃ ρ' st', SimS P T M F0 w0 F ρ' st' (a.put (some d) (.pointer (some ⟨w.heap.size, 0, none⟩))) (w.alloc (.cells xs e)) ∧ K st' := by
  refine ⟨fun i => if i = d then w.heap.size else ρ i, _, ?_, hK⟩
  unfold SimS
  rw [σ_cons]
  exact Sim.newBlk S hd hn (repB_new S.sees h1 h2 h3) (tv := .p d 0) (by simp [RepT]) (by simp [wfT, look_same])

theorem keyEq_same {k k' : V} {x x' : Value} (hk : Rep F k x) (hk' : Rep F k' x') (e : keyEq k k' = some true) : x' = x := by
  unfold keyEq at e
  split at e
  · split at e
    · rename_i hjk
      simp only [Option.some.injEq, decide_eq_true_eq] at e
      subst hjk e
      rw [rep_val_inv hk, rep_val_inv hk']
    · cases e
  · rename_i a b0
    simp only [Option.some.injEq, beq_iff_eq] at e
    subst e
    rw [rep_str_inv hk, rep_str_inv hk']
  · cases e

theorem sameBits_key {kt : TypeId} {k : V} {x : Value} (hk : Rep F k x) (ht : keyT P kt k = true) (m : Nat) : Instr.sameBits (m + 1) x x = true := by
  unfold keyT at ht
  split at ht
  · have := rep_val_inv hk; subst this; simp [Instr.sameBits]
  · have := rep_str_inv hk; subst this
    simp only [Instr.sameBits]
    exact (MapKept.bytes_beq _ _).2 rfl
  · cases ht

theorem upsert_run {k v : V} {x y : Value} {kt : TypeId} {d : TypeDesc} (hk : Rep F k x) (hv : Rep F v y) (ht : keyT P kt k = true) (hu : P.underlying kt = some d) (ck : Nat) :
    ∀ (es : List (V × V)) (xs : List MapEntry) (n : Nat) {es' : List (V × V)}, xs.length = es.length → (∀ (j : Nat) k' v' z, es[j]? = some (k', v') → xs[j]? = some z → Rep F k' z.key ∧ Rep F v' z.val) → upsert k v es = some es' →
      (∃ i z, Instr.findNow d x xs n = some (some (n + i, z.val)) ∧ xs[i]? = some z ∧ z.key = x ∧ (xs.modify i fun e => { e with key := x, val := y }).length = es'.length ∧
          ∀ (j : Nat) k' v' q, es'[j]? = some (k', v') → (xs.modify i fun e => { e with key := x, val := y })[j]? = some q → Rep F k' q.key ∧ Rep F v' q.val) ∨
      (Instr.findNow d x xs n = some none ∧ (xs ++ [({ key := x, val := y, born := ck } : MapEntry)]).length = es'.length ∧
          ∀ (j : Nat) k' v' q, es'[j]? = some (k', v') → (xs ++ [({ key := x, val := y, born := ck } : MapEntry)])[j]? = some q → Rep F k' q.key ∧ Rep F v' q.val)
  | [], [], n, es', _, _, e => by
    simp [upsert] at e; subst e
    refine .inr ⟨rfl, rfl, fun j k' v' q e1 e2 => ?_⟩
    cases j with
    | zero => simp at e1 e2; obtain ⟨rfl, rfl⟩ := e1; subst e2; exact ⟨hk, hv⟩
    | succ j => simp at e1
  | [], _ :: _, _, _, hl, _, _ => by simp at hl
  | _ :: _, [], _, _, hl, _, _ => by simp at hl
  | (k', v') :: es, z :: xs, n, es', hl, hh, e => by
    obtain ⟨h1, h2⟩ := hh 0 k' v' z rfl rfl
    simp only [upsert] at e
    cases hb : keyEq k k' with
    | none => rw [hb] at e; cases e
    | some b =>
      rw [hb] at e
      have hs := keyEq_now hk h1 ht hu hb
      cases b with
      | true =>
        simp only [Option.some.injEq] at e
        subst e
        refine .inl ⟨0, z, by simp [Instr.findNow, hs], rfl, keyEq_same hk h1 hb, by simpa using hl, fun j a b q e1 e2 => ?_⟩
        cases j with
        | zero => simp at e1 e2; obtain ⟨rfl, rfl⟩ := e1; subst e2; exact ⟨hk, hv⟩
        | succ j => simp at e1 e2; exact hh (j + 1) a b q (by simpa using e1) (by simpa using e2)
      | false =>
        simp only [Option.map_eq_some_iff] at e
        obtain ⟨es'', he, rfl⟩ := e
        rcases upsert_run hk hv ht hu ck es xs (n + 1) (by simpa using hl) (fun j a b c e1 e2 => hh (j + 1) a b c (by simpa using e1) (by simpa using e2)) he with ⟨i, q, g1, g2, g3, g4, g5⟩ | ⟨g1, g2, g3⟩
        · refine .inl ⟨i + 1, q, by simp [Instr.findNow, hs, g1, Nat.add_assoc, Nat.add_comm 1 i], by simpa using g2, g3, by simpa using g4, fun j a b c e1 e2 => ?_⟩
          cases j with
          | zero => simp at e1 e2; obtain ⟨rfl, rfl⟩ := e1; subst e2; exact ⟨h1, h2⟩
          | succ j => simp at e1 e2; exact g5 j a b c e1 (by simpa using e2)
        · refine .inr ⟨by simp [Instr.findNow, hs, g1], by simpa using g2, fun j a b c e1 e2 => ?_⟩
          cases j with
          | zero => simp at e1 e2; obtain ⟨rfl, rfl⟩ := e1; subst e2; exact ⟨h1, h2⟩
          | succ j => exact g3 j a b c (by simpa using e1) (by simpa using e2)

theorem store_run {b off : Nat} {ty t : TypeId} {xs : Array Value} {x : Value} {n : Nat} {inf : TypeInfo} (hi : P.info? t = some inf) (h : w.heap[b]? = some (.cells xs ty (0, 0))) (hn : x.cells.size = n) (hs : P.cellsOf t = n) (hfit : off + n ≤ xs.size)
    (h1 : ∀ u ∈ x.cells.toList, u.oneCell' = true) :
    (Instr.storeAt t (.pointer (some ⟨b, off, none⟩)) x).run P w = .ok () (w.setRow b (xs.toList.take off ++ x.cells.toList ++ xs.toList.drop (off + n)).toArray) := by
  have hst := run_storeCells_at P b off ty x.cells.toList 0 xs w h (by simp; omega) h1
  have hl : x.cells.toList.length = n := by simpa using hn
  simp only [Nat.add_zero, hl] at hst
  simp [Instr.storeAt, Instr.sureAddr, storeVar, run_sizeOf' hi, hs, hn, hst]

theorem clearK_sound {K : St → Prop} {c : Go.Call} (S : SimS P T M F0 w0 F ρ st a w) (ho : op.op = .call c) (hc : c.callee = .builtin .clear) (hk : clearK P op c st K)
    {next : Act → World → Prop} {Q : Exit → Act → World → Prop} (k : ∀ F' ρ' st' a' w', SimS P T M F0 w0 F' ρ' st' a' w' → K st' → next a' w') : op.wp P a w next Q := by
  have G := Sim.good S
  unfold clearK at hk
  split at hk
  · rename_i x t h1 h2 h3
    have hx1 : c.args = #[x] := by apply Array.ext'; simpa using h1
    have ht1 : c.argTypes = #[t] := by apply Array.ext'; simpa using h2
    split at hk
    · rename_i e size s hsl hx
      obtain ⟨hu, hsz, _⟩ := slV_some hsl
      obtain ⟨aa, cc, hv⟩ := rep_slice_len (show Rep F (.slice s []) (a.eval x) from S.opr x _ hx)
      unfold Oper.wp
      have : (execOp a.eval op).run P w = .ok (.value (.tuple #[])) w := by
        simp only [execOp, ho, resolve, hc, hx1, ht1, Sem.run_bind, Sem.run_pure, Result.andThen_ok, invoke, builtin, List.map_toArray, List.map_cons, List.map_nil, hv]
        cases aa <;> simp [Builtin.clear_, run_underlying hu]
      rw [this]
      show next (a.put op.dst _) _
      rw [h3]
      exact k F ρ st _ w S hk.2
    · rename_i e size id off n s hsl hx
      obtain ⟨hu, hsz, _⟩ := slV_some hsl
      split at hk
      · rename_i cs zs hb hz
        obtain ⟨rfl, hzl, hfit, hK⟩ := hk
        obtain ⟨z, z1, z2, z3, z4⟩ := zeroCs_some (P := P) (F := F) (w := w) hz
        obtain ⟨cap, q1, q2, q3, hv⟩ := show ∃ cap, n ≤ cap ∧ cap ≤ maxLen ∧ 0 < n ∧ a.eval x = _ from S.opr x _ hx
        obtain ⟨⟨xs, ty, b1, b2, b3, b4, b5⟩, hM, hlt⟩ := S.hp id _ hb
        have hz1 : ∀ u ∈ (Builtin.zeroCells z.cells n).toList, u.oneCell' = true := fun u hu => by
          simp only [Builtin.zeroCells, Array.toList_map, Array.toList_range, List.mem_map, List.mem_range] at hu
          obtain ⟨i, hi, rfl⟩ := hu
          have hpos : 0 < z.cells.size := by
            rcases Nat.eq_zero_or_pos z.cells.size with h0 | h0
            · rw [h0] at hi; omega
            · exact h0
          have hm : i % z.cells.size < z.cells.size := Nat.mod_lt _ hpos
          rw [show z.cells[i % z.cells.size]! = z.cells[i % z.cells.size] from getElem!_pos z.cells (i % z.cells.size) hm]
          have hm' : i % z.cells.size < zs.length := by rw [← z2]; exact hm
          exact (z4 _ _ _ (List.getElem?_eq_getElem hm') (Array.getElem?_eq_getElem hm)).one (z3 _ (List.getElem_mem hm'))
        have hzlen : (Builtin.zeroCells z.cells n).toList.length = n * s := by simp [Builtin.zeroCells, z2, hzl]
        have hst := run_storeCells_at P (ρ id) off ty (Builtin.zeroCells z.cells n).toList 0 xs w b1 (by rw [hzlen]; omega) hz1
        simp only [Nat.add_zero] at hst
        unfold Oper.wp
        have : (execOp a.eval op).run P w = .ok (.value (.tuple #[])) (w.setRow (ρ id) (xs.toList.take off ++ (Builtin.zeroCells z.cells n).toList ++ xs.toList.drop (off + (Builtin.zeroCells z.cells n).toList.length)).toArray) := by
          simp only [execOp, ho, resolve, hc, hx1, ht1, Sem.run_bind, Sem.run_pure, Result.andThen_ok, invoke, builtin, List.map_toArray, List.map_cons, List.map_nil, hv]
          obtain ⟨m, rfl⟩ : ∃ m, n = m + 1 := ⟨n - 1, by omega⟩
          simp [Builtin.clear_, run_underlying hu, z1, hst]
        rw [this]
        show next (a.put op.dst _) _
        rw [h3]
        refine k F ρ _ a _ ?_ hK
        refine Sim.write S hb rfl rfl rfl (by simp) (fun j hj => setRow_other w (ρ id) j _ hj) b5 (nomap S.sees b1) ⟨_, ty, setRow_heap w (ρ id) xs _ ty _ b1, ?_, fun c hc => b3 c (List.mem_of_mem_take hc), fun j c y e1 e2 => ?_, b5⟩
        · simp only [List.size_toArray, List.length_append, List.length_take, List.length_drop, Array.length_toList]
          omega
        · rw [List.getElem?_take] at e1
          split at e1
          · rename_i hj
            simp only [List.getElem?_toArray] at e2
            rw [List.append_assoc, List.getElem?_append_left (by simp; omega), List.getElem?_take, if_pos hj] at e2
            exact b4 j c y e1 (by simpa using e2)
          · cases e1
      · exact hk.elim
    · exact hk.elim
  · exact hk.elim

set_option maxHeartbeats 1000000 in
theorem stepO_sound {K : St → Prop} (S : SimS P T M F0 w0 F ρ st a w) (hk : stepO P T op st K) {next : Act → World → Prop} {Q : Exit → Act → World → Prop}
    (k : ∀ F' ρ' st' a' w', SimS P T M F0 w0 F' ρ' st' a' w' → K st' → next a' w') : op.wp P a w next Q := by
  have G := Sim.good S
  unfold stepO at hk
  split at hk
  · rename_i t n parts hop
    split at hk
    · rename_i hn0
      subst hn0
      split at hk
      · rename_i e size hsl
        obtain ⟨h0, hk⟩ := hk
        obtain ⟨hu, hsz, hz⟩ := slV_some hsl
        obtain ⟨inf, hi⟩ := info_of_cells (P := P) (t := e) (by omega)
        obtain rfl : parts = #[] := Array.eq_empty_of_size_eq_zero h0
        unfold Oper.wp
        have : (execOp a.eval op).run P w = .ok (.value (.slice (some ⟨w.heap.size, 0, none⟩) 0 0)) (w.alloc (.cells #[] e)) := by
          unfold execOp; rw [hop]
          have hr0 : Array.map (fun _ => (default : Value)) (Array.range 0) = #[] := by apply Array.ext'; simp
          simp [Instr.buildSlice, run_underlying hu, run_sizeOf' hi, Instr.fill, newRow_run, hr0]
        rw [this]
        have hx : Ext F w F (w.alloc (.cells #[] e)) := ⟨Le.refl F, ⟨fun p v e' => by
          rw [World.cell?_of_block (w := w) (Below.heap_alloc w _ _ (sees_lt S.sees e'))]; exact S.sees p v e', fun b xs e' => by
          obtain ⟨ck, hb⟩ := S.sees.m b xs e'
          exact ⟨ck, (Below.heap_alloc w _ _ (map_lt S.sees e')).trans hb⟩⟩, fun _ _ e => .inl e, fun _ _ e => .inl e, (Below.refl _ _).alloc (Nat.le_refl _) _⟩
        obtain ⟨st', S', hK'⟩ := retK_sound (y := .slice (some ⟨w.heap.size, 0, none⟩) 0 0) S hx (Rep.slice (es := []) (fun _ _ => undef) (by simp) (by simp) (by simp) (by simp) (by simp) (by simp)) (fun e' he => by
          cases he
          refine ⟨0, [], ⟨by simp, .inr ⟨w.heap.size, 0, #[], rfl, Nat.zero_le _, heap_alloc_new w _, Nat.le_refl _, Nat.zero_le _, by simp, by simp⟩⟩, fun g hg => ?_⟩
          simp only [Value.ownBlock, Option.some.injEq] at hg
          subst hg
          exact ⟨Nat.le_refl _, fun p v hp hb => absurd (sees_lt S.sees hp) (by omega)⟩) hk
        exact k F ρ st' _ _ S' hK'
      · exact hk.elim
    · exact evK_sound S hk k
  · rename_i cap hop
    obtain ⟨F', S'⟩ := frzC_sound (h := st.h) cap.toList S
    exact evK_sound S' hk k
  · rename_i x hop
    obtain ⟨st', S', hK⟩ := movK_sound S hk
    unfold Oper.wp
    have : (execOp a.eval op).run P w = .ok (.value (a.eval x)) w := by unfold execOp; rw [hop]; rfl
    rw [this]
    exact k F ρ st' _ w S' hK
  · rename_i x hop
    obtain ⟨st', S', hK⟩ := movK_sound S hk
    unfold Oper.wp
    have : (execOp a.eval op).run P w = .ok (.value (a.eval x)) w := by unfold execOp; rw [hop]; rfl
    rw [this]
    exact k F ρ st' _ w S' hK
  · rename_i e x hop
    split at hk
    · rename_i d v hd hv
      obtain ⟨h1, h2, h3, hK⟩ := hk
      obtain ⟨c1, c2, c3⟩ := cells_of_rep (G.v hv) h1
      obtain ⟨ρ', st', S', hK'⟩ := newvar_sound (e := e) S c1 c2 c3 h2 h3 hK
      unfold Oper.wp
      have : (execOp a.eval op).run P w = .ok (.value (.pointer (some ⟨w.heap.size, 0, none⟩))) (w.alloc (.cells (a.eval x).cells e)) := by unfold execOp; rw [hop]; rfl
      rw [this]
      show next (a.put op.dst _) _
      rw [hd]
      exact k F ρ' st' _ _ S' hK'
    · exact hk.elim
  · rename_i e hop
    split at hk
    · rename_i d zs hd hz
      obtain ⟨z, z1, z2, z3, z4⟩ := zeroCs_some (P := P) (F := F) (w := w) hz
      obtain ⟨ρ', st', S', hK'⟩ : ∃ ρ' st', SimS P T M F0 w0 F ρ' st' (a.put (some d) (.pointer (some ⟨w.heap.size, 0, none⟩))) (w.alloc (.cells z.cells e)) ∧ K st' := by
        split at hk
        · rename_i h2
          obtain ⟨h3, hK⟩ := hk
          exact newvar_sound (e := e) S z2 z3 z4 h2 h3 hK
        · obtain ⟨h3, hK⟩ := hk
          exact newvar_sound (st := { st with t := unT d st.t, h := unH d st.h }) (e := e) (forget_sound S d) z2 z3 z4 (by show look d (unH d st.h) = none; rw [unH_look, if_pos rfl]) h3 hK
      unfold Oper.wp
      have : (execOp a.eval op).run P w = .ok (.value (.pointer (some ⟨w.heap.size, 0, none⟩))) (w.alloc (.cells z.cells e)) := by
        unfold execOp; rw [hop]
        simp [Instr.alloc, z1, newVar, newRow_run]
      rw [this]
      show next (a.put op.dst _) _
      rw [hd]
      exact k F ρ' st' _ _ S' hK'
    · exact hk.elim
  · rename_i t ad x hop
    split at hk
    · rename_i id off v hp hv
      split at hk
      · rename_i cs hb
        obtain ⟨h1, h2, h3, h4, h5, hK⟩ := hk
        obtain ⟨c1, c2, c3⟩ := cells_of_rep (G.v hv) h1
        obtain ⟨⟨xs, ty, b1, b2, b3, b4, b5⟩, hB, hlt⟩ := S.hp id _ hb
        have hev := show a.eval ad = _ from S.opr ad _ hp
        obtain ⟨inf, hi⟩ := Option.isSome_iff_exists.1 h3
        have h1c : ∀ u ∈ (a.eval x).cells.toList, u.oneCell' = true := fun u hu => by
          obtain ⟨j, hj⟩ := List.getElem?_of_mem hu
          have hj' : (a.eval x).cells[j]? = some u := by simpa using hj
          have hlt := (Array.getElem?_eq_some_iff.1 hj').1
          have hc := List.getElem?_eq_getElem (l := v.cells) (i := j) (by omega)
          exact (c3 j _ u hc hj').one (c2 _ (List.mem_of_getElem? hc))
        have hrun := store_run (P := P) (w := w) (x := a.eval x) (t := t) (off := off) hi b1 c1 h2.symm (by omega) h1c
        unfold Oper.wp
        have : (execOp a.eval op).run P w = .ok .skip (w.setRow (ρ id) (xs.toList.take off ++ (a.eval x).cells.toList ++ xs.toList.drop (off + v.cells.length)).toArray) := by
          unfold execOp; rw [hop]
          simp only [hev, Sem.run_bind]
          rw [hrun]
          rfl
        rw [this]
        show next (a.put op.dst undef) _
        rw [h5]
        refine k F ρ _ a _ ?_ hK
        have hget : ∀ (j : Nat), (xs.toList.take off ++ (a.eval x).cells.toList ++ xs.toList.drop (off + v.cells.length))[j]? = if off ≤ j ∧ j < off + v.cells.length then (a.eval x).cells[j - off]? else xs[j]? := fun j => by
          have hcl : (a.eval x).cells.toList.length = v.cells.length := by simpa using c1
          have hxl : cs.length ≤ xs.toList.length := by simpa using b2
          by_cases g1 : j < off
          · rw [if_neg (by omega), List.append_assoc, List.getElem?_append_left (by simp; omega), List.getElem?_take, if_pos g1]; simp
          · by_cases g2 : j < off + v.cells.length
            · rw [if_pos (by omega), List.append_assoc, List.getElem?_append_right (by simp; omega), List.getElem?_append_left (by simp; omega)]
              simp
              congr 1; omega
            · rw [if_neg (by omega), List.append_assoc, List.getElem?_append_right (by simp; omega), List.getElem?_append_right (by simp; omega), List.getElem?_drop]
              simp
              congr 1; omega
        refine Sim.write S hb rfl rfl rfl (by simp) (fun j hj => setRow_other w (ρ id) j _ hj) b5 (nomap S.sees b1) ⟨_, ty, setRow_heap w (ρ id) xs _ ty _ b1, ?_, ?_, ?_, b5⟩
        · rw [setAt_length h4]
          simp only [List.size_toArray, List.length_append, List.length_take, List.length_drop, Array.length_toList, c1]
          omega
        · intro c hc
          obtain ⟨j, hj⟩ := List.getElem?_of_mem hc
          rw [setAt_get h4] at hj
          split at hj
          · exact c2 c (List.mem_of_getElem? hj)
          · exact b3 c (List.mem_of_getElem? hj)
        · intro j c y e1 e2
          simp only [List.getElem?_toArray] at e2
          rw [hget] at e2
          rw [setAt_get h4] at e1
          split at e1
          · rename_i hin
            rw [if_pos hin] at e2
            exact c3 _ c y e1 e2
          · rename_i hin
            rw [if_neg hin] at e2
            exact b4 j c y e1 e2
      · exact hk.elim
    · exact hk.elim
  · rename_i t hop
    split at hk
    · rename_i d hd
      obtain ⟨h1, h2, hK⟩ := hk
      unfold Oper.wp
      have : (execOp a.eval op).run P w = .ok (.value (.map (some w.heap.size))) (w.alloc (.map #[] 0)) := by
        unfold execOp; rw [hop]
        rfl
      rw [this]
      show next (a.put op.dst _) _
      rw [hd]
      refine k F (fun i => if i = d then w.heap.size else ρ i) _ _ _ ?_ hK
      unfold SimS
      rw [σ_cons]
      exact Sim.newBlk (k := .map []) (ob := .map #[] 0) S h1 h2 ⟨#[], 0, heap_alloc_new w _, nomap_new S.sees, rfl, by simp⟩ (tv := .m d) (by simp [RepT]) (by simp [wfT, look_same])
    · exact hk.elim
  · rename_i t m kk x hop
    split at hk
    · rename_i kt et id kv v hmk hm hkv hv
      split at hk
      · rename_i es hb
        split at hk
        · rename_i es' hup
          obtain ⟨h1, h2, hK⟩ := hk
          have hev := show a.eval m = _ from S.opr m _ hm
          obtain ⟨⟨xs, ck, b1, b0, b2, b3⟩, hB, hlt⟩ := S.hp id _ hb
          have hu : P.underlying t = some (.map kt et) := by
            unfold mapKV at hmk
            split at hmk
            · rename_i a b hu; cases hmk; exact hu
            · cases hmk
          have hkd : ∃ d, P.underlying kt = some d := by
            unfold keyT at h1
            cases hd : P.underlying kt with
            | none => rw [hd] at h1; cases kv <;> simp at h1
            | some d => exact ⟨d, rfl⟩
          obtain ⟨d, hd⟩ := hkd
          have hck := fun em => checkKey_plain em 9999 hd h1 (a.eval kk) w
          have hF : ∀ p u, F p = some u → p.block ≠ ρ id := fun p u hp he => by
            have := S.sees p u hp
            unfold World.cell? at this
            rw [he, b1] at this
            cases this
          have hrun : ∃ xs' ck', (Instr.mapUpdate t (a.eval m) (a.eval kk) (a.eval x)).run P w = .ok () { w with heap := w.heap.setIfInBounds (ρ id) (.map xs' ck') } ∧ xs'.size = es'.length ∧
              ∀ (j : Nat) k' v' q, es'[j]? = some (k', v') → xs'[j]? = some q → Rep F k' q.key ∧ Rep F v' q.val := by
            have hset : ∀ ob, (setObj (ρ id) ob).run P w = .ok () { w with heap := w.heap.setIfInBounds (ρ id) ob } := fun ob => by
              unfold setObj
              simp only [Sem.run]
              rw [b1]
            rcases upsert_run (F := F) (G.v hkv) (G.v hv) h1 hd ck es xs.toList 0 (by simpa using b2) (fun j a b c e1 e2 => b3 j a b c e1 (by simpa using e2)) hup with ⟨i, z, g1, g2, g3, g4, g5⟩ | ⟨g1, g2, g3⟩
            · refine ⟨xs.modify i fun e => { e with key := a.eval kk, val := a.eval x }, ck, ?_, by simpa using g4, fun j a b c e1 e2 => g5 j a b c e1 ?_⟩
              · have hz : xs[i]? = some z := by simpa using g2
                have hstay : (Instr.keyThatStays z.key (a.eval kk)).run P w = .ok (a.eval kk) w := by
                  rw [g3]
                  simp [Instr.keyThatStays, sameBits_key (G.v hkv) h1 9999]
                simp [Instr.mapUpdate, run_underlying hu, hev, getObj_map b1, hck, Instr.findKey, run_underlying hd, g1, hz, hstay, hset]
              · rw [← Array.toList_modify, Array.getElem?_toList]; exact e2
            · refine ⟨xs.push { key := a.eval kk, val := a.eval x, born := ck }, ck + 1, ?_, by simpa using g2, fun j a b c e1 e2 => g3 j a b c e1 ?_⟩
              · simp [Instr.mapUpdate, run_underlying hu, hev, getObj_map b1, hck, Instr.findKey, run_underlying hd, g1, hset]
              · rw [← Array.toList_push, Array.getElem?_toList]; exact e2
          obtain ⟨xs', ck', r1, r2, r3⟩ := hrun
          unfold Oper.wp
          have : (execOp a.eval op).run P w = .ok .skip { w with heap := w.heap.setIfInBounds (ρ id) (.map xs' ck') } := by
            unfold execOp; rw [hop]
            simp only [Sem.run_bind]
            rw [r1]
            rfl
          rw [this]
          show next (a.put op.dst undef) _
          rw [h2]
          refine k F ρ _ a _ ?_ hK
          refine Sim.write S hb rfl rfl rfl (by simp) (fun j hj => ?_) hF b0 ⟨xs', ck', ?_, b0, r2, r3⟩
          · simp [Array.getElem?_setIfInBounds_ne (Ne.symm hj)]
          · simp [hlt]
        · exact hk.elim
      · exact hk.elim
    · exact hk.elim
  · rename_i c hop
    split at hk
    · rename_i f hc
      split at hk
      · rename_i g cap vs hf hvs
        refine call_sound S hop hc hf hvs hk (fun F' w' y r own hx hr ho hK => ?_) (fun F' w' y size es hx hn hK => ?_)
        · obtain ⟨st', S', hK'⟩ := retK_sound S hx hr ho hK
          exact k F' ρ st' _ w' S' hK'
        · obtain ⟨ρ', st', S', hK'⟩ := newK_sound S hx hn hK
          exact k F' ρ' st' _ w' S' hK'
      · rename_i g cap hf _
        split at hk
        · rename_i ts hts
          refine callM_sound S hop hc hf hts hk fun F' w' y st' tv S' hr hw hK => ?_
          obtain ⟨st'', S'', hK'⟩ := putK_sound S' hr hw hK
          exact k F' ρ st'' _ w' S'' hK'
        · exact hk.elim
      · exact hk.elim
    · rename_i hc
      rcases appO_or hk with hk | hk
      · exact appK_sound S hop hc hk k
      · exact appL_sound S hop hc hk k
    · rename_i hc
      exact clearK_sound S hop hc hk k
    · exact evK_sound S hk k
  · rename_i o t x y _ hop
    split at hk
    · rename_i size hx hy
      have hb := rep_val_inv (G.v hy)
      obtain ⟨a0, c0, ha⟩ := rep_slice_len (G.v hx)
      simp only [List.length_nil] at ha
      unfold nilK at hk
      split at hk
      · obtain ⟨hs, hk⟩ := hk
        obtain ⟨e', hu⟩ := slV_isSome hs
        have hr : (execOp a.eval op).run P w = .ok (.value (.bool a0.isNone)) w := by
          unfold execOp; rw [hop]
          exact execOp_v (by rw [ha, hb]; simp [eqGuard, binOp_eql (equal_slice_nil hu a0 0 c0 w) rfl])
        unfold Oper.wp
        rw [hr]
        obtain ⟨st', S', hK⟩ := putK_sound (tv := .v (.val (.bool a0.isNone))) S (.val _) trivial (hk _)
        exact k F ρ st' _ w S' hK
      · obtain ⟨hs, hk⟩ := hk
        obtain ⟨e', hu⟩ := slV_isSome hs
        have hr : (execOp a.eval op).run P w = .ok (.value (.bool (!a0.isNone))) w := by
          unfold execOp; rw [hop]
          exact execOp_v (by rw [ha, hb]; simp [eqGuard, binOp_neq (equal_slice_nil hu a0 0 c0 w) rfl])
        unfold Oper.wp
        rw [hr]
        obtain ⟨st', S', hK⟩ := putK_sound (tv := .v (.val (.bool (!a0.isNone)))) S (.val _) trivial (hk _)
        exact k F ρ st' _ w S' hK
      · exact hk.elim
    · exact evK_sound S hk k
  · exact evK_sound S hk k
end Go.Ab
