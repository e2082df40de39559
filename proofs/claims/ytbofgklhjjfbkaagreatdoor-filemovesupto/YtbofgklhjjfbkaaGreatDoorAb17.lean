/-
  Regions, code, functions.
-/
import Derived.Test.YtbofgklhjjfbkaaGreatDoorAb16
namespace Go.Ab
open Go.RowKit
variable {P : Program} {T : Lay}

/-- both ways -/
def gsel (b : Bool) (A C : Prop) : Prop := (b = true → A) ∧ (b = false → C)
theorem gsel_true (A C : Prop) : gsel true A C = A := by simp [gsel]
theorem gsel_false (A C : Prop) : gsel false A C = C := by simp [gsel]

/-- a region in the text's order -/
def awO (P : Program) (T : Lay) (l : List Oper) : List Oper → St → (St → Prop) → Prop
  | [], st, K => K st
  | o :: rest, st, K => match gdV l o st.σ with
    | none => False
    | some b => gsel b (stepO P T o st fun st' => awO P T l rest st' K) (putK st o.dst .u fun st' => awO P T l rest st' K)

/-- a call's result is laid; what follows is kept closed -/
def retD (st : St) (d : Option Tmp) (K : St → Prop) : V → Option TypeId → Prop := fun r _ => K { st with t := match d with | none => st.t | some d => (d, .v r) :: st.t }
/-- one quiet operation of a region that draws its order -/
def stepD (P : Program) (T : Lay) (op : Oper) (st : St) (K : St → Prop) : Prop :=
  match op.op with
  | .call c => match c.callee with
    | .value f => match vOf (opv st.σ f), vsOf (opv st.σ) c.args.toList with
      | some (.func g cap), some vs => Call P T g (vs ++ cap) (retD st op.dst K) (fun _ _ => False)
      | _, _ => False
    | _ => match evq P (opv st.σ) st.h op.op with
      | some tv => K { st with t := match op.dst with | none => st.t | some d => (d, tv) :: st.t }
      | none => False
  | _ => match evq P (opv st.σ) st.h op.op with
    | some tv => K { st with t := match op.dst with | none => st.t | some d => (d, tv) :: st.t }
    | none => match evb P (opv st.σ) op.op with
      | some v => K { st with t := match op.dst with | none => st.t | some d => (d, .v v) :: st.t }
      | none => False

def awD (P : Program) (T : Lay) (l : List Oper) : List Oper → St → (St → Prop) → Prop
  | [], st, K => K st
  | o :: rest, st, K => match gdV l o st.σ with
    | none => False
    | some b => gsel b (stepD P T o st fun st' => awD P T l rest st' K) (awD P T l rest { st with t := match o.dst with | none => st.t | some d => (d, .u) :: st.t } K)

/-- where all is quiet: nothing that owns is written -/
def dstsB (n : Nat) (o : List (TypeId × List Nat)) (l : List Oper) : Bool :=
  l.all fun op => match op.dst with
    | none => true
    | some d => Nat.blt d n && o.all fun x => !x.2.contains d

variable {w : World} {M : Nat → Prop} {F0 F : Frz} {w0 : World} {ρ : Nat → Nat} {a : Act} {st : St}

theorem dstsB_ok {n : Nat} {o : List (TypeId × List Nat)} {l : List Oper} (h : dstsB n o l = true) : dstsOk n o l := by
  intro op hop d hd
  have := List.all_eq_true.1 h op hop
  simp only [hd, Bool.and_eq_true] at this
  refine ⟨by simpa [Nat.blt_eq] using this.1, fun j e c hj hdc => ?_⟩
  have h2 := List.all_eq_true.1 this.2 (e, c) (List.mem_of_getElem? hj)
  simp [hdc] at h2

theorem σ_put (st : St) (d : Option Tmp) (tv : TV) : ({ st with t := match d with | none => st.t | some d => (d, tv) :: st.t } : St).σ = upd st.σ d tv := by
  cases d with
  | none => rfl
  | some d => exact σ_cons st d tv st.h st.o

theorem stepD_yields {op : Oper} {K : St → Prop} (h : stepD P T op st K) : ∃ tv, Yields P T st.σ st.h op tv ∧ K { st with t := match op.dst with | none => st.t | some d => (d, tv) :: st.t } := by
  unfold stepD at h
  split at h
  · rename_i c hop
    split at h
    · rename_i f hc
      split at h
      · rename_i g cap vs hf hvs
        rcases h with ⟨r, hd, hk⟩ | ⟨r, e, hd, hk⟩ | ⟨_, _, _, h⟩
        · exact ⟨.v r, .inr (.inr ⟨c, f, g, cap, vs, r, hop, hc, hf, hvs, hd, rfl⟩), hk⟩
        · exact ⟨.v r, .inr (.inr ⟨c, f, g, cap, vs, r, hop, hc, hf, hvs, hd.den, rfl⟩), hk⟩
        · exact h.elim
      · exact h.elim
    · split at h
      · rename_i tv htv; exact ⟨tv, .inl htv, h⟩
      · exact h.elim
  · split at h
    · rename_i tv htv; exact ⟨tv, .inl htv, h⟩
    · split at h
      · rename_i v hv; exact ⟨.v v, .inr (.inl ⟨v, hv, rfl⟩), h⟩
      · exact h.elim

theorem awD_awQ {l : List Oper} {K : St → Prop} : ∀ {rest : List Oper} {st : St}, awD P T l rest st K → awQ P T l st.h (fun σ => ∃ st', st'.n = st.n ∧ st'.h = st.h ∧ st'.o = st.o ∧ σ = st'.σ ∧ K st') rest st.σ
  | [], st, h => ⟨st, rfl, rfl, rfl, rfl, h⟩
  | o :: rest, st, h => by
    simp only [awD] at h
    cases hg : gdV l o st.σ with
    | none => rw [hg] at h; exact h.elim
    | some b =>
      rw [hg] at h
      simp only at h
      cases b with
      | true =>
        rw [gsel_true] at h
        obtain ⟨tv, hy, hk⟩ := stepD_yields h
        have := awD_awQ hk
        rw [σ_put] at this
        exact ⟨tv, .inl ⟨hg, hy⟩, this⟩
      | false =>
        rw [gsel_false] at h
        have := awD_awQ h
        rw [σ_put] at this
        exact ⟨.u, .inr ⟨hg, rfl⟩, this⟩

theorem drawn_sound {id : Nat} {ops : Array Oper} {K : St → Prop} (hm : P.follows .mixedOrders = true) (hB : Region.lexB .any ops = true) (hd : dstsB st.n st.o ops.toList = true)
    (S : SimS P T M F0 w0 F ρ st a w) (h : awD P T ops.toList ops.toList st K) {Q : Exit → Act → World → Prop}
    (k : ∀ F' ρ' st' a' w', SimS P T M F0 w0 F' ρ' st' a' w' → K st' → Q .normal a' w') : (Code.region id ops true).wp P Q a w := by
  refine region_draw (Q := fun σ => ∃ st', st'.n = st.n ∧ st'.h = st.h ∧ st'.o = st.o ∧ σ = st'.σ ∧ K st') hm hB (dstsB_ok hd) S (fun F' σ' a' w' S' hq => ?_) (awD_awQ h)
  obtain ⟨st', h1, h2, h3, h4, h5⟩ := hq
  refine k F' ρ st' a' w' ?_ h5
  unfold SimS
  rw [h1, h2, h3, ← h4]
  exact S'

theorem wpOps_of_awO {ops : Array Oper} {K : St → Prop} {Q : Exit → Act → World → Prop} (k : ∀ F' ρ' st' a' w', SimS P T M F0 w0 F' ρ' st' a' w' → K st' → Q .normal a' w') :
    ∀ (rest : List Oper) (i : Nat) (F : Frz) (ρ : Nat → Nat) (st : St) (a : Act) (w : World), (∀ j, rest[j]? = ops[i + j]?) → SimS P T M F0 w0 F ρ st a w → awO P T ops.toList rest st K →
      wpOps P ops Q (List.range' i rest.length) a w
  | [], i, F, ρ, st, a, w, _, S, h => k F ρ st a w S h
  | o :: rest, i, F, ρ, st, a, w, hl, S, h => by
    have h0 : ops[i]? = some o := by simpa using (hl 0).symm
    have hl' : ∀ j, rest[j]? = ops[i + 1 + j]? := fun j => by have := hl (j + 1); simpa [Nat.add_assoc, Nat.add_comm 1 j] using this
    simp only [awO] at h
    simp only [List.length_cons, List.range'_succ]
    rw [wpOps_cons]
    unfold wpOp
    simp only [h0]
    cases hg : gdV ops.toList o st.σ with
    | none => rw [hg] at h; exact h.elim
    | some b =>
      rw [hg] at h
      simp only at h
      have hw := Sim.wanted S hg
      rw [hw]
      cases b with
      | true =>
        rw [gsel_true] at h
        rw [if_pos rfl]
        exact .inl (stepO_sound S h fun F' ρ' st' a' w' S' hK => wpOps_of_awO k rest (i + 1) F' ρ' st' a' w' hl' S' hK)
      | false =>
        rw [gsel_false] at h
        simp only [Bool.false_eq_true, if_false]
        obtain ⟨st', S', hK⟩ := putK_sound (tv := .u) (x := undef) S rfl trivial h
        exact wpOps_of_awO k rest (i + 1) F ρ st' _ w hl' S' hK

theorem region_sound {id : Nat} {ops : Array Oper} {K : St → Prop} (S : SimS P T M F0 w0 F ρ st a w) (h : awO P T ops.toList ops.toList st K) {Q : Exit → Act → World → Prop}
    (k : ∀ F' ρ' st' a' w', SimS P T M F0 w0 F' ρ' st' a' w' → K st' → Q .normal a' w') : (Code.region id ops false).wp P Q a w := by
  refine wp_region ?_
  have := wpOps_of_awO k ops.toList 0 F ρ st a w (by simp) S h
  simpa [List.range_eq_range'] using this

/-! what a state may forget -/
structure Kp where
  ts : List Nat
  hs : List Nat
  os : List Nat
  ns : List (Nat × TypeId × Nat)

def keepT (hs : List Nat) : List Nat → List (Nat × TV) → Option (List (Nat × TV))
  | [], _ => some []
  | i :: r, t => match look i t, keepT hs r t with
    | some (.v x), some l => some ((i, .v x) :: l)
    | some (.p id off), some l => if hs.contains id = true then some ((i, .p id off) :: l) else none
    | some (.m id), some l => if hs.contains id = true then some ((i, .m id) :: l) else none
    | some (.s id off n size), some l => if hs.contains id = true then some ((i, .s id off n size) :: l) else none
    | _, _ => none
def keepH : List Nat → List (Nat × Blk) → Option (List (Nat × Blk))
  | [], _ => some []
  | i :: r, h => match look i h, keepH r h with
    | some b, some l => some ((i, b) :: l)
    | _, _ => none
def clsOf (i : Nat) : List (TypeId × List Nat) → Option Nat
  | [] => none
  | (_, c) :: r => if c.contains i = true then some 0 else (clsOf i r).map (· + 1)
def keepO (o : List (TypeId × List Nat)) : List Nat → Option (List (TypeId × List Nat))
  | [] => some []
  | i :: r => match ownOf i o, keepO o r with
    | some e, some l => if r.all (fun j => clsOf j o != clsOf i o) = true then some ((e, [i]) :: l) else none
    | _, _ => none
/-- a nil slice owns nothing that another could want -/
def ownNils : List (Nat × TypeId × Nat) → St → Option St
  | [], st => some st
  | (i, e, size) :: r, st => match look i st.t with
    | some (.v (.val (.slice none 0 0))) => ownNils r { st with t := (i, .v (.slice size [])) :: st.t, o := (e, [i]) :: remo i st.o }
    | some (.v (.slice _ _)) => ownNils r st
    | _ => none
def keepS (k : Kp) (st : St) : Option St :=
  match ownNils k.ns st with
  | none => none
  | some st => match keepT k.hs k.ts st.t, keepH k.hs st.h, keepO st.o k.os with
    | some t, some h, some o => some { n := st.n, t := t, h := h, o := o }
    | _, _, _ => none

theorem keepT_look {hs : List Nat} {t : List (Nat × TV)} : ∀ {ts : List Nat} {l : List (Nat × TV)}, keepT hs ts t = some l → ∀ i tv, look i l = some tv → look i t = some tv ∧ (∀ id off, tv = .p id off → id ∈ hs) ∧ (∀ id, tv = .m id → id ∈ hs) ∧ ∀ id off n size, tv = .s id off n size → id ∈ hs
  | [], l, h, i, tv, e => by simp only [keepT, Option.some.injEq] at h; subst h; cases e
  | j :: r, l, h, i, tv, e => by
    simp only [keepT] at h
    split at h
    · rename_i x l' h1 h2
      cases h
      rw [look_cons] at e
      split at e
      · rename_i he; cases e; subst he; exact ⟨h1, (fun _ _ e => by cases e), (fun _ e => by cases e), (fun _ _ _ _ e => by cases e)⟩
      · exact keepT_look h2 i tv e
    · rename_i id off l' h1 h2
      split at h
      · rename_i hc
        cases h
        rw [look_cons] at e
        split at e
        · rename_i he; cases e; subst he; exact ⟨h1, (fun _ _ e => by cases e; simpa using hc), (fun _ e => by cases e), (fun _ _ _ _ e => by cases e)⟩
        · exact keepT_look h2 i tv e
      · cases h
    · rename_i id l' h1 h2
      split at h
      · rename_i hc
        cases h
        rw [look_cons] at e
        split at e
        · rename_i he; cases e; subst he; exact ⟨h1, (fun _ _ e => by cases e), (fun _ e => by cases e; simpa using hc), (fun _ _ _ _ e => by cases e)⟩
        · exact keepT_look h2 i tv e
      · cases h
    · rename_i id off n size l' h1 h2
      split at h
      · rename_i hc
        cases h
        rw [look_cons] at e
        split at e
        · rename_i he; cases e; subst he; exact ⟨h1, (fun _ _ e => by cases e), (fun _ e => by cases e), (fun _ _ _ _ e => by cases e; simpa using hc)⟩
        · exact keepT_look h2 i tv e
      · cases h
    · cases h
theorem keepH_look {h : List (Nat × Blk)} : ∀ {hs : List Nat} {l : List (Nat × Blk)}, keepH hs h = some l → (∀ i b, look i l = some b → look i h = some b) ∧ ∀ i, i ∈ hs → look i l ≠ none
  | [], l, e => by simp only [keepH, Option.some.injEq] at e; subst e; exact ⟨(fun i b e => by cases e), (fun i hi => by cases hi)⟩
  | j :: r, l, e => by
    simp only [keepH] at e
    split at e
    · rename_i b l' h1 h2
      cases e
      obtain ⟨g1, g2⟩ := keepH_look h2
      refine ⟨fun i b' e => ?_, fun i hi => ?_⟩
      · rw [look_cons] at e
        split at e
        · rename_i he; cases e; subst he; exact h1
        · exact g1 i b' e
      · rw [look_cons]
        split
        · simp
        · rename_i hne
          exact g2 i ((List.mem_cons.1 hi).resolve_left hne)
    · cases e
theorem clsOf_some {i : Nat} : ∀ {o : List (TypeId × List Nat)} {e : TypeId}, ownOf i o = some e → ∃ (j : Nat) (c : List Nat), clsOf i o = some j ∧ o[j]? = some (e, c) ∧ i ∈ c
  | [], _, h => by cases h
  | (e', c') :: r, e, h => by
    simp only [ownOf] at h
    simp only [clsOf]
    split at h
    · rename_i hc
      cases h
      exact ⟨0, c', by rw [if_pos hc], rfl, by simpa using hc⟩
    · rename_i hc
      obtain ⟨j, c, h1, h2, h3⟩ := clsOf_some h
      exact ⟨j + 1, c, by rw [if_neg hc, h1]; rfl, by simpa using h2, h3⟩
theorem keepO_spec {o : List (TypeId × List Nat)} : ∀ {os : List Nat} {l : List (TypeId × List Nat)}, keepO o os = some l →
    ∃ f : Nat → Nat, (∀ (j : Nat) e c, l[j]? = some (e, c) → ∃ i, os[j]? = some i ∧ c = [i] ∧ clsOf i o = some (f j) ∧ ∃ c0, o[f j]? = some (e, c0) ∧ i ∈ c0) ∧
      ∀ (j j' : Nat) x x', l[j]? = some x → l[j']? = some x' → f j = f j' → j = j'
  | [], l, h => by
    simp only [keepO, Option.some.injEq] at h
    subst h
    exact ⟨id, fun j e c hj => by simp at hj, fun j j' x x' hj => by simp at hj⟩
  | i :: r, l, h => by
    simp only [keepO] at h
    split at h
    · rename_i e l' h1 h2
      split at h
      · rename_i hc
        cases h
        obtain ⟨f, g1, g2⟩ := keepO_spec h2
        obtain ⟨j0, c0, k1, k2, k3⟩ := clsOf_some h1
        have hall : ∀ i', i' ∈ r → clsOf i' o ≠ some j0 := fun i' hi' => by
          have := List.all_eq_true.1 hc i' hi'
          rw [k1] at this
          simpa using this
        refine ⟨fun j => match j with | 0 => j0 | j + 1 => f j, fun j e' c' hj => ?_, fun j j' x x' hj hj' he => ?_⟩
        · cases j with
          | zero =>
            simp only [List.getElem?_cons_zero, Option.some.injEq, Prod.mk.injEq] at hj
            obtain ⟨rfl, rfl⟩ := hj
            exact ⟨i, rfl, rfl, k1, c0, k2, k3⟩
          | succ j => exact g1 j e' c' (by simpa using hj)
        · cases j with
          | zero =>
            cases j' with
            | zero => rfl
            | succ j' =>
              obtain ⟨i', q1, q2, q3, _⟩ := g1 j' x'.1 x'.2 (by simpa using hj')
              exact absurd (q3.trans (congrArg some he.symm)) (hall i' (List.mem_of_getElem? q1))
          | succ j =>
            cases j' with
            | zero =>
              obtain ⟨i', q1, q2, q3, _⟩ := g1 j x.1 x.2 (by simpa using hj)
              exact absurd (q3.trans (congrArg some he)) (hall i' (List.mem_of_getElem? q1))
            | succ j' => exact congrArg (· + 1) (g2 j j' x x' (by simpa using hj) (by simpa using hj') he)
      · cases h
    · cases h

theorem ownNils_sound : ∀ {ns : List (Nat × TypeId × Nat)} {st st' : St}, ownNils ns st = some st' → SimS P T M F0 w0 F ρ st a w → SimS P T M F0 w0 F ρ st' a w
  | [], st, st', h, S => by simp only [ownNils, Option.some.injEq] at h; subst h; exact S
  | (i, e, size) :: r, st, st', h, S => by
    simp only [ownNils] at h
    split at h
    · rename_i hl
      refine ownNils_sound h ?_
      obtain ⟨x, h1, h2⟩ := S.tm i _ hl
      have hx := rep_val_inv (show Rep F _ x from h2)
      subst hx
      have hsz : i < a.tmps.size := (Array.getElem?_eq_some_iff.1 h1).1
      have S1 := Sim.putr (d := i) (tv := .v (.slice size [])) (x := .slice none 0 0) S Rep.snil trivial (by rw [← S.n]; exact hsz)
      have ha : a.put (some i) (.slice none 0 0) = a := by
        have hv : a.tmps[i] = .slice none 0 0 := by
          have := (Array.getElem?_eq_some_iff.1 h1).2; exact this
        simp only [Act.put]
        congr 1
        apply Array.ext
        · simp
        · intro j g1 g2
          rw [Array.getElem_setIfInBounds]
          split
          · rename_i he; subst he; exact hv.symm
          · rfl
      rw [ha] at S1
      unfold SimS
      rw [σ_cons]
      exact S1.newOwn (v := .slice none 0 0) h1 ⟨0, [], World.ownsRow_nil _ _ _ _, fun g hg => by simp [Value.ownBlock] at hg⟩ (fun id b _ => by simp [Value.ownBlock]) (fun j e c hj k hk u g hu hg => by simp [Value.ownBlock] at hg)
    · exact ownNils_sound h S
    · cases h

theorem keepS_sound {k : Kp} {st st' : St} (h : keepS k st = some st') (S : SimS P T M F0 w0 F ρ st a w) : SimS P T M F0 w0 F ρ st' a w := by
  unfold keepS at h
  split at h
  · cases h
  · rename_i st1 h1
    have S1 := ownNils_sound h1 S
    split at h
    · rename_i t hh o g1 g2 g3
      cases h
      obtain ⟨e1, e2⟩ := keepH_look g2
      obtain ⟨f, f1, f2⟩ := keepO_spec g3
      have S2 := Sim.weako (o' := o) S1 f (fun j e c hj => by
        obtain ⟨i, q1, q2, q3, c0, q4, q5⟩ := f1 j e c hj
        exact ⟨c0, q4, fun i' hi' => by subst q2; simp at hi'; subst hi'; exact q5⟩) (fun j j' e c e' c' i i' hj hj' _ _ he => f2 j j' _ _ hj hj' he)
      exact { n := S2.n, df := S2.df, sees := S2.sees, lay := S2.lay, le := S2.le, new := S2.new, newm := S2.newm, bel := S2.bel, hM := S2.hM, od := S2.od
              tm := fun i tv e => S2.tm i tv (keepT_look g1 i tv e).1
              wf := fun i tv e => by
                obtain ⟨q1, q2, q3, q4⟩ := keepT_look g1 i tv e
                cases tv with
                | p id off => exact e2 id (q2 id off rfl)
                | m id => exact e2 id (q3 id rfl)
                | s id off n size => exact e2 id (q4 id off n size rfl)
                | v x => trivial
                | u => trivial
              hp := fun id b e => S2.hp id b (e1 id b e)
              nn := S2.nn
              z := fun b e => S2.z b (e1 _ b e)
              inj := fun id id' b b' e e' => S2.inj id id' b b' (e1 id b e) (e1 id' b' e')
              ow := fun j e c hj => by
                obtain ⟨v, q1, q2, q3⟩ := S2.ow j e c hj
                exact ⟨v, q1, q2, fun id b e => q3 id b (e1 id b e)⟩ }
    · cases h

/-! code -/
inductive AX where
  | nm
  | ex (id : Nat)
  | rt

/-- what comes behind -/
def sq (A : St → Prop) (Q : AX → St → Prop) : AX → St → Prop
  | .nm, st => A st
  | e, st => Q e st
def blk (id : Nat) (Q : AX → St → Prop) : AX → St → Prop
  | .ex i, st => if i = id then Q .nm st else Q (.ex i) st
  | e, st => Q e st

def aw (P : Program) (T : Lay) : Code → St → (AX → St → Prop) → Prop
  | .skip, st, Q => Q .nm st
  | .region _ ops draw, st, Q => match draw with
    | false => awO P T ops.toList ops.toList st (Q .nm)
    | true => Region.lexB .any ops = true ∧ dstsB st.n st.o ops.toList = true ∧ awD P T ops.toList ops.toList { st with h := frzR st.σ ops.toList st.h } (Q .nm)
  | .seq x y, st, Q => aw P T x st (sq (fun st' => aw P T y st' Q) Q)
  | .cond c x y, st, Q => match vOf (opv st.σ c) with
    | some (.val (.bool b)) => gsel b (aw P T x st Q) (aw P T y st Q)
    | _ => False
  | .block id x, st, Q => aw P T x st (blk id Q)
  | .loop x, st, Q => ∃ (k : Kp) (I : Nat → St → Prop) (n : Nat), (∃ st0, keepS k st = some st0 ∧ I n st0) ∧ ∀ n st, I n st → aw P T x st (sq (fun st' => ∃ m st'', m < n ∧ keepS k st' = some st'' ∧ I m st'') Q)
  | .exit id, st, Q => Q (.ex id) st
  | .ret, st, Q => Q .rt st
  | _, _, _ => False

def toExit : AX → Exit
  | .nm => .normal
  | .ex id => .exit id
  | .rt => .ret

/-- a post over the model's states -/
def Post (P : Program) (T : Lay) (M : Nat → Prop) (F0 : Frz) (w0 : World) (Q : AX → St → Prop) : Exit → Act → World → Prop
  | .normal, a, w => ∃ F ρ st, SimS P T M F0 w0 F ρ st a w ∧ Q .nm st
  | .exit id, a, w => ∃ F ρ st, SimS P T M F0 w0 F ρ st a w ∧ Q (.ex id) st
  | .ret, a, w => ∃ F ρ st, SimS P T M F0 w0 F ρ st a w ∧ Q .rt st
  | _, _, _ => False

theorem aw_sound (hm : P.follows .mixedOrders = true) : ∀ (c : Code) {Q : AX → St → Prop} {F : Frz} {ρ : Nat → Nat} {st : St} {a : Act} {w : World}, SimS P T M F0 w0 F ρ st a w → aw P T c st Q → c.wp P (Post P T M F0 w0 Q) a w
  | .skip, Q, F, ρ, st, a, w, S, h => wp_skip ⟨F, ρ, st, S, h⟩
  | .region id ops draw, Q, F, ρ, st, a, w, S, h => by
    cases draw with
    | false => exact region_sound S h fun F' ρ' st' a' w' S' hK => ⟨F', ρ', st', S', hK⟩
    | true =>
      obtain ⟨F1, S1⟩ := frzR_sound (h := st.h) ops.toList S
      exact drawn_sound (st := { st with h := frzR st.σ ops.toList st.h }) hm h.1 h.2.1 S1 h.2.2 fun F' ρ' st' a' w' S' hK => ⟨F', ρ', st', S', hK⟩
  | .seq x y, Q, F, ρ, st, a, w, S, h => by
    refine wp_seq (wp_mono (aw_sound hm x S h) ?_)
    intro e a' w' hq
    cases e with
    | normal =>
      obtain ⟨F', ρ', st', S', hK⟩ := hq
      exact aw_sound hm y S' hK
    | exit id => exact hq
    | ret => exact hq
    | goto l => exact hq
    | panic c => exact hq
    | outgrown => exact hq
  | .cond c x y, Q, F, ρ, st, a, w, S, h => by
    simp only [aw] at h
    split at h
    · rename_i b hb
      have hv := rep_val_inv (Sim.good S |>.v hb)
      refine wp_cond hv ?_
      cases b with
      | true => rw [gsel_true] at h; exact aw_sound hm x S h
      | false => rw [gsel_false] at h; exact aw_sound hm y S h
    · exact h.elim
  | .block id x, Q, F, ρ, st, a, w, S, h => by
    refine wp_block (wp_mono (aw_sound hm x S h) ?_)
    intro e a' w' hq
    cases e with
    | normal => exact hq
    | exit i =>
      obtain ⟨F', ρ', st', S', hK⟩ := hq
      simp only [blk] at hK
      simp only [Exit.inBlock]
      split
      · rename_i hi; rw [if_pos hi] at hK; exact ⟨F', ρ', st', S', hK⟩
      · rename_i hi; rw [if_neg hi] at hK; exact ⟨F', ρ', st', S', hK⟩
    | ret => exact hq
    | goto l => exact hq
    | panic c => exact hq
    | outgrown => exact hq
  | .loop x, Q, F, ρ, st, a, w, S, h => by
    obtain ⟨kp, I, n, ⟨st0, hk0, hI⟩, hr⟩ := h
    refine wp_loop_ghost (fun n a w => ∃ F ρ st, SimS P T M F0 w0 F ρ st a w ∧ I n st) n ⟨F, ρ, st0, keepS_sound hk0 S, hI⟩ ?_
    rintro n a w ⟨F, ρ, st, S, hI⟩
    refine wp_mono (aw_sound hm x S (hr n st hI)) ?_
    intro e a' w' hq
    cases e with
    | normal =>
      obtain ⟨F', ρ', st', S', m, st'', hlt, hk', hK⟩ := hq
      exact ⟨m, hlt, F', ρ', st'', keepS_sound hk' S', hK⟩
    | exit id => exact hq
    | ret => exact hq
    | goto l => exact hq
    | panic c => exact hq
    | outgrown => exact hq
  | .exit id, Q, F, ρ, st, a, w, S, h => wp_exit ⟨F, ρ, st, S, h⟩
  | .ret, Q, F, ρ, st, a, w, S, h => wp_ret ⟨F, ρ, st, S, h⟩
  | .rangeFunc .., Q, F, ρ, st, a, w, S, h => h.elim
  | .scope _, Q, F, ρ, st, a, w, S, h => h.elim
  | .label _, Q, F, ρ, st, a, w, S, h => h.elim
  | .goto _, Q, F, ρ, st, a, w, S, h => h.elim
  | .refuse _, Q, F, ρ, st, a, w, S, h => h.elim
end Go.Ab
