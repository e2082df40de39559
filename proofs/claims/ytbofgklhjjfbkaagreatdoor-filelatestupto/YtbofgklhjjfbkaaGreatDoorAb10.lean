/-
  What a function is to denote; the state of a frame; quiet operations at a state; regions that draw their order.
-/
import Derived.Test.YtbofgklhjjfbkaaGreatDoorAb9
namespace Go.Ab
open Go.RowKit
/-- memory that lies from the beginning: cells, and rows that are known whole -/
structure Lay where
  f : Frz
  r : Nat → Option (Array Value)
variable {P : Program} {T : Lay}

def Enters (P : Program) (f : FuncId) : Prop := ∀ args w, (callFunc f args).run P w = .ok (.enter f args) w

/-- values that stand for arguments -/
def Reps (F : Frz) (vs : List V) (xs : List Value) : Prop := xs.length = vs.length ∧ ∀ (j : Nat) v x, vs[j]? = some v → xs[j]? = some x → Rep F v x

def Laid (T : Lay) (F : Frz) (w : World) : Prop :=
  Le T.f F ∧ ∀ g xs, T.r g = some xs → (∃ ty fz, w.heap[g]? = some (.cells xs ty fz)) ∧ ∃ o v, F ⟨g, o, none⟩ = some v

/-- Called with values that stand for 'args', in whatever memory, f returns what stands for r, and has only added memory. -/
def Den (P : Program) (T : Lay) (f : FuncId) (args : List V) (r : V) : Prop :=
  Enters P f ∧ ∀ (w : World) (F : Frz) (xs : List Value), Sees F w → Laid T F w → Reps F args xs →
    Calls P f xs.toArray w fun e w' => ∃ y F', e = .returned y ∧ Ext F w F' w' ∧ Rep F' r y

/-- a slice that nobody else may write or append to -/
def Own (F : Frz) (w : World) (M : Nat → Prop) (e : TypeId) (size : Nat) (y : Value) : Prop :=
  ∃ n xs, w.ownsRow 0 e size y n xs ∧ ∀ g, y.ownBlock = some g → M g ∧ ∀ p v, F p = some v → p.block = g → p.off < n * size

/-- nothing has changed but what may -/
structure BelM (M : Nat → Prop) (w w' : World) : Prop where
  os : w'.os = w.os
  tape : w'.tape = w.tape
  output : w'.output = w.output
  size : w.heap.size ≤ w'.heap.size
  block : ∀ q, q < w.heap.size → ¬ M q → w'.heap[q]? = w.heap[q]?
theorem BelM.refl (M : Nat → Prop) (w : World) : BelM M w w := ⟨rfl, rfl, rfl, Nat.le_refl _, fun _ _ _ => rfl⟩
theorem BelM.trans {M : Nat → Prop} {w w' w'' : World} (h : BelM M w w') (k : BelM M w' w'') : BelM M w w'' :=
  ⟨k.os.trans h.os, k.tape.trans h.tape, k.output.trans h.output, Nat.le_trans h.size k.size, fun q hq hm => (k.block q (Nat.lt_of_lt_of_le hq h.size) hm).trans (h.block q hq hm)⟩
theorem BelM.of {M : Nat → Prop} {w w' : World} (h : Below w.heap.size w w') : BelM M w w' := ⟨h.os, h.tape, h.output, h.size, fun q hq _ => h.block q hq⟩

def DenO (P : Program) (T : Lay) (f : FuncId) (args : List V) (e : TypeId) (r : V) : Prop :=
  Enters P f ∧ ∀ (w : World) (F : Frz) (xs : List Value), Sees F w → Laid T F w → Reps F args xs →
    Calls P f xs.toArray w fun en w' => ∃ y F', en = .returned y ∧ Ext F w F' w' ∧ Rep F' r y ∧ Own F' w' (fun g => w.heap.size ≤ g) e (P.cellsOf e) y

theorem DenO.den {f : FuncId} {args : List V} {e : TypeId} {r : V} (h : DenO P T f args e r) : Den P T f args r :=
  ⟨h.1, fun w F xs h1 h0 h2 => (h.2 w F xs h1 h0 h2).mono fun _ _ ⟨y, F', e1, e2, e3, _⟩ => ⟨y, F', e1, e2, e3⟩⟩

/-- a row that nobody has looked at; es its elements -/
def New (F : Frz) (w : World) (lo size : Nat) (es : List (List V)) (y : Value) : Prop :=
  (es = [] ∧ Rep F (.slice size []) y) ∨ ∃ b cap, y = .slice (some ⟨b, 0, none⟩) es.length cap ∧ es.length ≤ cap ∧ cap ≤ maxLen ∧ es ≠ [] ∧ lo ≤ b ∧ b < w.heap.size ∧ RepB F w b (.var es.flatten)
def DenN (P : Program) (T : Lay) (f : FuncId) (args : List V) (size : Nat) (es : List (List V)) : Prop :=
  Enters P f ∧ ∀ (w : World) (F : Frz) (xs : List Value), Sees F w → Laid T F w → Reps F args xs →
    Calls P f xs.toArray w fun en w' => ∃ y F', en = .returned y ∧ Ext F w F' w' ∧ New F' w' w.heap.size size es y

/-- What has been added, and one block written. -/
structure ExtX (b : Nat) (F : Frz) (w : World) (F' : Frz) (w' : World) : Prop where
  le : Le F F'
  fr : Sees F' w'
  new : ∀ p v, F' p = some v → F p = some v ∨ w.heap.size ≤ p.block
  newm : ∀ b xs, F'.m b = some xs → F.m b = some xs ∨ w.heap.size ≤ b
  os : w'.os = w.os
  tape : w'.tape = w.tape
  output : w'.output = w.output
  size : w.heap.size ≤ w'.heap.size
  block : ∀ q, q < w.heap.size → q ≠ b → w'.heap[q]? = w.heap[q]?

/-- values, some of which point into the block b -/
def RepsT (F : Frz) (b : Nat) (ts : List TV) (xs : List Value) : Prop := xs.length = ts.length ∧ ∀ (j : Nat) t x, ts[j]? = some t → xs[j]? = some x → RepT F (fun _ => b) t x
/-- A call that may write one block: cs its cells before, cs' behind. In the arguments and in the result the block is number 0. -/
def DenM (P : Program) (T : Lay) (f : FuncId) (cs : List V) (args : List TV) (cs' : List V) (r : TV) : Prop :=
  Enters P f ∧ ∀ (w : World) (F : Frz) (b : Nat) (xs : List Value), Sees F w → Laid T F w → RepB F w b (.var cs) → RepsT F b args xs →
    Calls P f xs.toArray w fun en w' => ∃ y F', en = .returned y ∧ ExtX b F w F' w' ∧ RepB F' w' b (.var cs') ∧ RepT F' (fun _ => b) r y

/-- the same, known less well: a nil slice is an empty one -/
inductive Wk : V → V → Prop
  | refl (v : V) : Wk v v
  | nil (n : Nat) : Wk (.val (.slice none 0 0)) (.slice n [])
  | tup {vs us : List V} (hl : vs.length = us.length) (h : ∀ (j : Nat) v u, vs[j]? = some v → us[j]? = some u → Wk v u) : Wk (.tup vs) (.tup us)
  | agg {vs us : List V} (hl : vs.length = us.length) (ho : ∀ c ∈ us, c.one = true) (h : ∀ (j : Nat) v u, vs[j]? = some v → us[j]? = some u → Wk v u) : Wk (.agg vs) (.agg us)
  | slice {size : Nat} {es us : List (List V)} (hl : es.length = us.length) (hs : ∀ e ∈ us, e.length = size) (ho : ∀ e ∈ us, ∀ c ∈ e, c.one = true)
      (h : ∀ (i j : Nat) e u v c, es[i]? = some e → us[i]? = some u → e[j]? = some v → u[j]? = some c → Wk v c) : Wk (.slice size es) (.slice size us)
theorem get_of_len {α β : Type} {l : List α} {m : List β} (hl : l.length = m.length) {j : Nat} {y : β} (h : m[j]? = some y) : ∃ x, l[j]? = some x := by
  have := (List.getElem?_eq_some_iff.1 h).1
  exact ⟨_, List.getElem?_eq_getElem (by omega)⟩
theorem rep_wk {F : Frz} {v u : V} (h : Wk v u) : ∀ {x : Value}, Rep F v x → Rep F u x := by
  induction h with
  | refl v => exact id
  | nil n => intro x hx; rw [rep_val_inv hx]; exact .snil
  | tup hl h ih =>
    intro x hx
    cases hx with
    | tup hl' h' =>
      refine .tup (hl'.trans hl) fun j c y e1 e2 => ?_
      obtain ⟨v, hv⟩ := get_of_len hl e1
      exact ih j v c hv e1 (h' j v y hv e2)
  | agg hl ho h ih =>
    intro x hx
    cases hx with
    | agg hl' ho' h' =>
      refine .agg (hl'.trans hl) ho fun j c y e1 e2 => ?_
      obtain ⟨v, hv⟩ := get_of_len hl e1
      exact ih j v c hv e1 (h' j v y hv e2)
  | @slice size es us hl hs ho h ih =>
    intro x hx
    rcases rep_slice_inv hx with ⟨rfl, he⟩ | ⟨a, cap, g, rfl, hc, hm, hs', ho', hg, hr⟩
    · subst he
      rw [List.eq_nil_of_length_eq_zero hl.symm]
      exact .snil
    · rw [hl] at hc ⊢
      have get : ∀ (i j : Nat) (u : List V) (c : V), us[i]? = some u → u[j]? = some c → ∃ e v, es[i]? = some e ∧ e[j]? = some v := fun i j u c e1 e2 => by
        obtain ⟨e, he⟩ := get_of_len hl e1
        have h1 := hs' e (List.mem_of_getElem? he)
        have h2 := hs u (List.mem_of_getElem? e1)
        obtain ⟨v, hv⟩ := get_of_len (h1.trans h2.symm) e2
        exact ⟨e, v, he, hv⟩
      refine .slice g hc hm hs ho (fun i j u c e1 e2 => ?_) (fun i j u c e1 e2 => ?_)
      · obtain ⟨e, v, he, hv⟩ := get i j u c e1 e2
        exact hg i j e v he hv
      · obtain ⟨e, v, he, hv⟩ := get i j u c e1 e2
        exact ih i j e u v c he e1 hv e2 (hr i j e v he hv)
theorem Wk.t2 {a b c d : V} (h : Wk a b) (h' : Wk c d) : Wk (.tup [a, c]) (.tup [b, d]) := .tup rfl fun j v u e1 e2 => by
  match j with
  | 0 => simp at e1 e2; subst e1 e2; exact h
  | 1 => simp at e1 e2; subst e1 e2; exact h'
  | j + 2 => simp at e1
theorem Wk.t3 {a b c d e f : V} (h : Wk a b) (h' : Wk c d) (h'' : Wk e f) : Wk (.tup [a, c, e]) (.tup [b, d, f]) := .tup rfl fun j v u e1 e2 => by
  match j with
  | 0 => simp at e1 e2; subst e1 e2; exact h
  | 1 => simp at e1 e2; subst e1 e2; exact h'
  | 2 => simp at e1 e2; subst e1 e2; exact h''
  | j + 3 => simp at e1
theorem Wk.of {a b : V} (h : a = b) : Wk a b := h ▸ .refl a
inductive Wks : List V → List V → Prop
  | nil : Wks [] []
  | cons {a b : V} {l m : List V} (h : Wk a b) (t : Wks l m) : Wks (a :: l) (b :: m)
theorem Wks.rep {F : Frz} {l m : List V} (h : Wks l m) : ∀ {xs : List Value}, Reps F l xs → Reps F m xs := by
  induction h with
  | nil => exact id
  | cons h t ih =>
    rintro xs ⟨h1, h2⟩
    match xs, h1 with
    | x :: xs, h1 =>
      have := ih (xs := xs) ⟨by simpa using h1, fun j v y e1 e2 => h2 (j + 1) v y (by simpa using e1) (by simpa using e2)⟩
      refine ⟨by simp [this.1], fun j v y e1 e2 => ?_⟩
      cases j with
      | zero => simp at e1 e2; subst e1 e2; exact rep_wk h (h2 0 _ _ rfl rfl)
      | succ j => exact this.2 j v y (by simpa using e1) (by simpa using e2)
theorem Den.wk {f : FuncId} {args args' : List V} {r : V} (h : Den P T f args r) (hw : Wks args' args) : Den P T f args' r :=
  ⟨h.1, fun w F xs h1 h2 h3 => h.2 w F xs h1 h2 (hw.rep h3)⟩
theorem DenO.wk {f : FuncId} {args args' : List V} {e : TypeId} {r : V} (h : DenO P T f args e r) (hw : Wks args' args) : DenO P T f args' e r :=
  ⟨h.1, fun w F xs h1 h2 h3 => h.2 w F xs h1 h2 (hw.rep h3)⟩
theorem Den.out {f : FuncId} {args : List V} {r r' : V} (h : Den P T f args r) (hw : Wk r r') : Den P T f args r' :=
  ⟨h.1, fun w F xs h1 h0 h2 => (h.2 w F xs h1 h0 h2).mono fun _ _ ⟨y, F', e1, e2, e3⟩ => ⟨y, F', e1, e2, rep_wk hw e3⟩⟩

abbrev Sto := Nat → Option TV

def opv (σ : Sto) : Operand → Option TV
  | .tmp i => σ i
  | .const v => bif okVal v then some (.v (ofVal v)) else none
  | .func f => some (.v (.func f []))
  | .global _ => none

def upd (σ : Sto) (d : Option Tmp) (tv : TV) : Sto :=
  match d with
  | none => σ
  | some d => fun i => if i = d then some tv else σ i

def Yields (P : Program) (T : Lay) (σ : Sto) (h : List (Nat × Blk)) (o : Oper) (tv : TV) : Prop :=
  evq P (opv σ) h o.op = some tv ∨ (∃ v, evb P (opv σ) o.op = some v ∧ tv = .v v) ∨
  ∃ c f g cap vs r, o.op = .call c ∧ c.callee = .value f ∧ vOf (opv σ f) = some (.func g cap) ∧ vsOf (opv σ) c.args.toList = some vs ∧ Den P T g (vs ++ cap) r ∧ tv = .v r

/-- a pointer to a local block that there is -/
def wfT (h : List (Nat × Blk)) : TV → Prop
  | .p id _ => look id h ≠ none
  | .m id => look id h ≠ none
  | .s id _ _ _ => look id h ≠ none
  | _ => True

theorem wf_map {h : List (Nat × Blk)} {r : Option V} {tv : TV} (e : r.map TV.v = some tv) : wfT h tv := by
  simp only [Option.map_eq_some_iff] at e
  obtain ⟨v, _, rfl⟩ := e
  trivial

theorem evq_wf {h : List (Nat × Blk)} {ρ : Operand → Option TV} {op : Op} {tv : TV} (hh : ∀ x tv, ρ x = some tv → wfT h tv) (e : evq P ρ h op = some tv) : wfT h tv := by
  unfold evq at e
  split at e
  · exact hh _ _ (nu_some e)
  · exact hh _ _ (nu_some e)
  · split at e
    · rename_i t _
      cases t
      · exact hh _ _ (nu_some e)
      · exact hh _ _ (nu_some e)
    · cases e
  · simp only [Option.bind_eq_some_iff] at e
    obtain ⟨cs, _, e⟩ := e
    exact wf_map e
  · split at e
    · cases e; trivial
    · rename_i id o' _ hx
      cases e
      exact hh _ (.p id o') hx
    · cases e
  · split at e
    · exact wf_map e
    · cases e
  · split at e
    · split at e
      · simp only [Option.map_eq_some_iff] at e
        obtain ⟨v, _, rfl⟩ := e
        trivial
      · cases e
    · rename_i id off m size _ _ hx _
      split at e
      · simp only [Option.map_eq_some_iff] at e
        obtain ⟨v, _, rfl⟩ := e
        exact hh _ (.s id off m size) hx
      · cases e
    · cases e
  · split at e
    · exact wf_map e
    · cases e
  · split at e
    · exact wf_map e
    · rename_i id off m size _ _ hx _ _
      split at e
      · simp only [Option.map_eq_some_iff] at e
        obtain ⟨⟨a, b⟩, _, rfl⟩ := e
        simp only [cutS]
        split
        · trivial
        · exact hh _ (.s id off m size) hx
      · cases e
    · cases e
  · split at e
    · split at e
      · split at e
        · exact wf_map e
        · cases e
      · cases e
    · exact wf_map e
    · cases e
  · split at e
    · cases e; trivial
    · cases e
  · split at e
    · cases e; trivial
    · cases e
  · split at e
    · exact wf_map e
    · cases e
  · split at e
    · exact wf_map e
    · cases e
  · split at e
    · simp only [Option.map_eq_some_iff] at e
      obtain ⟨v, _, rfl⟩ := e
      trivial
    · cases e
  · split at e
    · split at e
      · split at e
        · simp only [Option.map_eq_some_iff] at e
          obtain ⟨v, _, rfl⟩ := e
          trivial
        · cases e
      · cases e
    · cases e
  · split at e
    · split at e
      · exact wf_map e
      · cases e
    · cases e
  · cases e

/-- the state of a frame, as it stands for an abstract one -/
structure Sim (P : Program) (T : Lay) (M : Nat → Prop) (F0 : Frz) (w0 : World) (F : Frz) (ρ : Nat → Nat) (n : Nat) (σ : Sto) (h : List (Nat × Blk)) (o : List (TypeId × List Nat)) (a : Act) (w : World) : Prop where
  n : a.tmps.size = n
  df : a.defers = []
  sees : Sees F w
  lay : Laid T F0 w0 ∧ ∀ g, T.r g ≠ none → ¬ M g
  le : Le F0 F
  new : ∀ p v, F p = some v → F0 p = some v ∨ M p.block
  newm : ∀ b xs, F.m b = some xs → F0.m b = some xs ∨ M b
  bel : BelM M w0 w
  hM : ∀ j, w0.heap.size ≤ j → M j
  tm : ∀ i tv, σ i = some tv → ∃ x, a.tmps[i]? = some x ∧ RepT F ρ tv x
  wf : ∀ i tv, σ i = some tv → wfT h tv
  hp : ∀ id k, look id h = some k → RepB F w (ρ id) k ∧ M (ρ id) ∧ ρ id < w.heap.size
  nn : a.tmps.size ≤ 999999
  z : ∀ k, look 999999 h = some k → ρ 999999 < w0.heap.size
  inj : ∀ id id' k k', look id h = some k → look id' h = some k' → ρ id = ρ id' → id = id'
  ow : ∀ (j : Nat) e c, o[j]? = some (e, c) → ∃ v, (∀ i ∈ c, a.tmps[i]? = some v) ∧ Own F w M e (P.cellsOf e) v ∧ ∀ id k, look id h = some k → v.ownBlock ≠ some (ρ id)
  od : ∀ (j j' : Nat) e c e' c', j ≠ j' → o[j]? = some (e, c) → o[j']? = some (e', c') → ∀ i ∈ c, ∀ i' ∈ c', ∀ v v' g, a.tmps[i]? = some v → a.tmps[i']? = some v' → v.ownBlock = some g → v'.ownBlock ≠ some g

variable {M : Nat → Prop} {F0 F : Frz} {w0 w : World} {ρ : Nat → Nat} {n : Nat} {σ : Sto} {h : List (Nat × Blk)} {o : List (TypeId × List Nat)} {a : Act}

theorem Sim.opr (S : Sim P T M F0 w0 F ρ n σ h o a w) (x : Operand) (tv : TV) (e : opv σ x = some tv) : RepT F ρ tv (a.eval x) := by
  cases x with
  | tmp i =>
    obtain ⟨y, h1, h2⟩ := S.tm i tv e
    have : a.eval (.tmp i) = y := by simp [Act.eval, h1]
    rw [this]; exact h2
  | const v =>
    simp only [opv, cond_eq_ite] at e
    split at e
    · rename_i hv; cases e; exact rep_ofVal F v hv
    · cases e
  | func f =>
    simp only [opv, Option.some.injEq] at e
    subst e
    exact .func rfl (by simp)
  | global g => cases e

theorem Sim.laid (S : Sim P T M F0 w0 F ρ n σ h o a w) : Laid T F w := by
  refine ⟨S.lay.1.1.trans S.le, fun g xs e => ?_⟩
  obtain ⟨⟨ty, fz, h1⟩, off, v, h2⟩ := S.lay.1.2 g xs e
  have hlt : g < w0.heap.size := by
    rcases Nat.lt_or_ge g w0.heap.size with h | h
    · exact h
    · rw [Array.getElem?_eq_none h] at h1; cases h1
  exact ⟨⟨ty, fz, (S.bel.block g hlt (S.lay.2 g (by rw [e]; simp))).trans h1⟩, off, v, S.le _ _ h2⟩
theorem Sim.good (S : Sim P T M F0 w0 F ρ n σ h o a w) : Good F w ρ h (opv σ) a.eval := ⟨S.sees, fun id k e => (S.hp id k e).1, S.opr⟩

theorem Own.ext {F F' : Frz} {w w' : World} {e : TypeId} {size : Nat} {y : Value} (h : Own F w M e size y) (hx : Ext F w F' w') : Own F' w' M e size y := by
  obtain ⟨m, xs, h1, h2⟩ := h
  have hlt := h1.lt
  refine ⟨m, xs, h1.kept (row := none) ⟨hx.bel.os, hx.bel.tape, hx.bel.output, hx.bel.size, fun k hk _ => hx.bel.block k hk⟩ (by cases y.ownBlock <;> simp), fun g hg => ⟨(h2 g hg).1, fun p v hp hpg => ?_⟩⟩
  rcases hx.new p v hp with e' | e'
  · exact (h2 g hg).2 p v e' hpg
  · have := (hlt g hg).2; omega

/-- memory has been added -/
theorem Sim.ext {F' : Frz} {w' : World} (S : Sim P T M F0 w0 F ρ n σ h o a w) (hx : Ext F w F' w') : Sim P T M F0 w0 F' ρ n σ h o a w' where
  n := S.n
  df := S.df
  sees := hx.fr
  lay := S.lay
  le := S.le.trans hx.le
  new := fun p v e => (hx.new p v e).elim (S.new p v) (fun hb => .inr (S.hM _ (Nat.le_trans S.bel.size hb)))
  newm := fun p v e => (hx.newm p v e).elim (S.newm p v) (fun hb => .inr (S.hM _ (Nat.le_trans S.bel.size hb)))
  bel := S.bel.trans (.of hx.bel)
  hM := S.hM
  tm := fun i tv e => by obtain ⟨x, h1, h2⟩ := S.tm i tv e; exact ⟨x, h1, h2.mono hx.le⟩
  wf := S.wf
  hp := fun id k e => ⟨(S.hp id k e).1.ext hx, (S.hp id k e).2.1, Nat.lt_of_lt_of_le (S.hp id k e).2.2 hx.bel.size⟩
  nn := S.nn
  z := S.z
  inj := S.inj
  ow := fun j e c hj => by obtain ⟨v, h1, h2, h3⟩ := S.ow j e c hj; exact ⟨v, h1, h2.ext hx, h3⟩
  od := S.od

theorem put_get {a : Act} {d i : Nat} {x : Value} (hd : d < a.tmps.size) : (a.put (some d) x).tmps[i]? = if i = d then some x else a.tmps[i]? := by
  simp only [Act.put]
  by_cases h : i = d
  · subst h; simp [hd]
  · rw [if_neg h, Array.getElem?_setIfInBounds_ne (by omega)]

/-- a temporary that owns nothing is written -/
theorem Sim.put (S : Sim P T M F0 w0 F ρ n σ h o a w) {d : Option Tmp} {tv : TV} {x : Value} (hr : RepT F ρ tv x) (hw : wfT h tv) (hd : ∀ d', d = some d' → d' < n ∧ ∀ (j : Nat) e c, o[j]? = some (e, c) → d' ∉ c) :
    Sim P T M F0 w0 F ρ n (upd σ d tv) h o (a.put d x) w := by
  cases d with
  | none => exact S
  | some d =>
    obtain ⟨h1, h2⟩ := hd d rfl
    have hsz : d < a.tmps.size := by rw [S.n]; exact h1
    have hg := fun i => put_get (a := a) (i := i) (x := x) hsz
    refine { n := by simpa [Act.put] using S.n, df := S.df, sees := S.sees, lay := S.lay, le := S.le, new := S.new, newm := S.newm, bel := S.bel, hM := S.hM, tm := ?_, wf := ?_, hp := S.hp, nn := (by simpa [Act.put] using S.nn), z := S.z, inj := S.inj, ow := ?_, od := ?_ }
    · intro i tv' e
      simp only [upd] at e
      split at e
      · rename_i hi
        cases e
        exact ⟨x, by rw [hg, if_pos hi], hr⟩
      · rename_i hi
        obtain ⟨y, e1, e2⟩ := S.tm i tv' e
        exact ⟨y, by rw [hg, if_neg hi]; exact e1, e2⟩
    · intro i tv' e
      simp only [upd] at e
      split at e
      · cases e; exact hw
      · exact S.wf i tv' e
    · intro j e c hj
      obtain ⟨v, e1, e2⟩ := S.ow j e c hj
      exact ⟨v, fun i hi => by
        have hne : i ≠ d := fun he => h2 j e c hj (he ▸ hi)
        rw [hg, if_neg hne]; exact e1 i hi, e2⟩
    · intro j j' e c e' c' hne hj hj' i hi i' hi' v v' g e1 e2
      have n1 : i ≠ d := fun he => h2 j e c hj (he ▸ hi)
      have n2 : i' ≠ d := fun he => h2 j' e' c' hj' (he ▸ hi')
      rw [hg, if_neg n1] at e1
      rw [hg, if_neg n2] at e2
      exact S.od j j' e c e' c' hne hj hj' i hi i' hi' v v' g e1 e2

theorem Sim.wfo (S : Sim P T M F0 w0 F ρ n σ h o a w) (x : Operand) (tv : TV) (e : opv σ x = some tv) : wfT h tv := by
  cases x with
  | tmp i => exact S.wf i tv e
  | const v =>
    simp only [opv, cond_eq_ite] at e
    split at e
    · cases e; trivial
    · cases e
  | func f => simp only [opv, Option.some.injEq] at e; subst e; trivial
  | global g => cases e
theorem Sim.yields_wf (S : Sim P T M F0 w0 F ρ n σ h o a w) {op : Oper} {tv : TV} (hy : Yields P T σ h op tv) : wfT h tv := by
  rcases hy with hy | ⟨v, hy, rfl⟩ | ⟨c, f, g, cap, vs, r, ho, hc, hf, hvs, hden, rfl⟩
  · exact evq_wf S.wfo hy
  · trivial
  · trivial

/-- One quiet operation, in the model. -/
theorem yields_wp (S : Sim P T M F0 w0 F ρ n σ h o a w) {op : Oper} {tv : TV} (hy : Yields P T σ h op tv) {next : Act → World → Prop} {Q : Exit → Act → World → Prop}
    (k : ∀ x F' w', Ext F w F' w' → RepT F' ρ tv x → next (a.put op.dst x) w') : op.wp P a w next Q := by
  have G := S.good
  rcases hy with hy | ⟨v, hy, rfl⟩ | ⟨c, f, g, cap, vs, r, ho, hc, hf, hvs, hden, rfl⟩
  · obtain ⟨x, hr, hx⟩ := evq_sound (P := P) G op hy
    unfold Oper.wp
    rw [hr]
    exact k x F w (Ext.refl S.sees) hx
  · obtain ⟨x, F', w', hr, he, hx⟩ := evb_sound (P := P) G op hy
    unfold Oper.wp
    rw [hr]
    exact k x F' w' he hx
  · have hfv := G.v hf
    generalize hfx : a.eval f = fx at hfv
    cases hfv with
    | func hl hh =>
      rename_i xs
      obtain ⟨hl2, hh2⟩ := vsOf_sound G hvs
      have hrun : (execOp a.eval op).run P w = .ok (.enter g ((c.args.toList.map a.eval) ++ xs.toList).toArray) w := by
        have := hden.1 ((c.args.map a.eval) ++ xs) w
        have harr : ((c.args.toList.map a.eval) ++ xs.toList).toArray = (c.args.map a.eval) ++ xs := by
          apply Array.ext'
          simp
        rw [harr, ← this]
        simp [execOp, ho, resolve, hc, hfx, Deferred.ofValue, invoke]
      unfold Oper.wp
      rw [hrun]
      refine (hden.2 w F ((c.args.toList.map a.eval) ++ xs.toList) S.sees (S.laid) ⟨by simp [hl, hl2], fun j v x e1 e2 => ?_⟩).mono ?_
      · by_cases hj : j < vs.length
        · rw [List.getElem?_append_left hj] at e1
          rw [List.getElem?_append_left (by rw [List.length_map]; omega)] at e2
          exact hh2 j v x e1 e2
        · rw [List.getElem?_append_right (by omega)] at e1
          rw [List.getElem?_append_right (by rw [List.length_map]; omega)] at e2
          rw [List.length_map, ← hl2] at e2
          exact hh _ v x e1 (by simpa using e2)
      · rintro e w' ⟨y, F', rfl, hx, hr⟩
        exact k y F' w' hx hr
end Go.Ab
