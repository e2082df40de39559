/-
  Contracts of functions of the program, each by a walk through its code, for all arguments within the bounds that the statements name.
-/
import Derived.Test.YtbofgklhjjfbkaaGreatDoorAb14
namespace Go.Ab
open Go.RowKit
variable {P : Program} {T : Lay}
variable {w : World} {M : Nat → Prop} {F0 F : Frz} {w0 : World} {ρ : Nat → Nat} {a : Act} {st : St} {op : Oper}

/-- the state of a frame and a state of the calculus -/
def SimS (P : Program) (T : Lay) (M : Nat → Prop) (F0 : Frz) (w0 : World) (F : Frz) (ρ : Nat → Nat) (st : St) (a : Act) (w : World) : Prop := Sim P T M F0 w0 F ρ st.n st.σ st.h st.o a w

theorem putK_sound {K : St → Prop} {d : Option Tmp} {tv : TV} {x : Value} (S : SimS P T M F0 w0 F ρ st a w) (hr : RepT F ρ tv x) (hw : wfT st.h tv) (hk : putK st d tv K) :
    ∃ st', SimS P T M F0 w0 F ρ st' (a.put d x) w ∧ K st' := by
  cases d with
  | none => exact ⟨st, S, hk⟩
  | some d =>
    refine ⟨_, ?_, hk.2⟩
    unfold SimS
    rw [σ_cons]
    exact Sim.putr S hr hw hk.1

theorem frz1_look (id : Nat) : ∀ (h : List (Nat × Blk)) (i : Nat), look i (frz1 id h) = if i = id then (look i h).map frzB else look i h
  | [], i => by simp [frz1, look]
  | (j, b) :: r, i => by
    simp only [frz1]
    by_cases hj : id = j
    · subst hj
      rw [if_pos rfl, look_cons, look_cons]
      by_cases hi : i = id
      · simp [hi]
      · simp [hi]
    · rw [if_neg hj, look_cons, look_cons, frz1_look id r i]
      by_cases hi : i = j
      · subst hi
        simp [Ne.symm hj]
      · simp [hi]
theorem frz1_none (id : Nat) (h : List (Nat × Blk)) (i : Nat) : look i (frz1 id h) = none ↔ look i h = none := by
  rw [frz1_look]; split <;> simp
theorem frz1_wf {id : Nat} {h : List (Nat × Blk)} {tv : TV} (hw : wfT h tv) : wfT (frz1 id h) tv := by
  cases tv with
  | p i off => exact fun e => hw ((frz1_none id h i).1 e)
  | m i => exact fun e => hw ((frz1_none id h i).1 e)
  | s i off m size => exact fun e => hw ((frz1_none id h i).1 e)
  | v x => trivial
  | u => trivial

theorem frz1_sound (S : SimS P T M F0 w0 F ρ st a w) (id : Nat) : ∃ F', SimS P T M F0 w0 F' ρ { st with h := frz1 id st.h } a w := by
  have same : (∀ i, look i (frz1 id st.h) = look i st.h) → ∃ F', SimS P T M F0 w0 F' ρ { st with h := frz1 id st.h } a w := fun hs =>
    ⟨F, { S with
      wf := fun i tv e => frz1_wf (S.wf i tv e)
      hp := fun i b e => S.hp i b (by rw [← hs i]; exact e)
      z := fun b e => S.z b (by rw [← hs]; exact e)
      inj := fun i i' b b' e e' => S.inj i i' b b' (by rw [← hs i]; exact e) (by rw [← hs i']; exact e')
      ow := fun j e c hj => by
        obtain ⟨v, h1, h2, h3⟩ := S.ow j e c hj
        exact ⟨v, h1, h2, fun i b e => h3 i b (by rw [← hs i]; exact e)⟩ }⟩
  cases hk : look id st.h with
  | none =>
    refine same fun i => ?_
    · rw [frz1_look]
      split
      · rename_i he; subst he; rw [hk]; rfl
      · rfl
  | some b =>
    cases b with
    | con cs =>
      refine same fun i => ?_
      · rw [frz1_look]
        split
        · rename_i he; subst he; rw [hk]; rfl
        · rfl
    | map es =>
      refine same fun i => ?_
      · rw [frz1_look]
        split
        · rename_i he; subst he; rw [hk]; rfl
        · rfl
    | var cs =>
      obtain ⟨⟨xs, ty, h1, h2, h3, h4, h5⟩, hB, hlt⟩ := S.hp id _ hk
      have hcell : ∀ q, w.cell? ⟨ρ id, q, none⟩ = xs[q]? := fun q => by simp [World.cell?, h1]
      have hle : Le F ⟨fun p => if p.block = ρ id then w.cell? p else F p, F.m⟩ := ⟨fun p v e => by
        show (if p.block = ρ id then w.cell? p else F p) = some v
        rw [if_neg (h5 p v e)]; exact e, fun _ _ e => e⟩
      have hcase : ∀ p v, (if p.block = ρ id then w.cell? p else F p) = some v → F p = some v ∨ p.block = ρ id := fun p v e => by
        split at e
        · rename_i hb; exact .inr hb
        · exact .inl e
      have hinj : ∀ i b, look i st.h = some b → i ≠ id → ρ i ≠ ρ id := fun i b e hne he => hne (S.inj i id b _ e hk he)
      refine ⟨⟨fun p => if p.block = ρ id then w.cell? p else F p, F.m⟩, ?_⟩
      refine { n := S.n, df := S.df, sees := ⟨fun p v e => ?_, S.sees.m⟩, lay := S.lay, le := S.le.trans hle, new := fun p v e => ?_, newm := S.newm, bel := S.bel, hM := S.hM, tm := fun i tv e => ?_, wf := fun i tv e => frz1_wf (S.wf i tv e), hp := ?_, nn := S.nn, z := ?_, inj := ?_, ow := ?_, od := S.od }
      rotate_left 4
      · intro k e
        replace e : look 999999 (frz1 id st.h) = some k := e
        cases hb : look 999999 st.h with
        | none => rw [(frz1_none id st.h 999999).2 hb] at e; cases e
        | some b' => exact S.z b' hb
      rotate_left 2
      · have e' : (if p.block = ρ id then w.cell? p else F p) = some v := e
        split at e'
        · exact e'
        · exact S.sees p v e'
      · rcases hcase p v e with e' | e'
        · exact S.new p v e'
        · exact .inr (by rw [e']; exact hB)
      · obtain ⟨x, g1, g2⟩ := S.tm i tv e
        exact ⟨x, g1, g2.mono hle⟩
      · intro i b e
        replace e : look i (frz1 id st.h) = some b := e
        rw [frz1_look] at e
        split at e
        · rename_i he
          subst he
          rw [hk] at e
          simp only [Option.map_some, Option.some.injEq] at e
          subst e
          refine ⟨⟨fun j => xs.getD j undef, h3, fun j c hj => ?_, fun j c hj => ?_⟩, hB, hlt⟩
          · have hjl : j < xs.size := Nat.lt_of_lt_of_le (List.getElem?_eq_some_iff.1 hj).1 h2
            show (if (⟨ρ i, j, none⟩ : Addr).block = ρ i then w.cell? ⟨ρ i, j, none⟩ else _) = _
            rw [if_pos rfl, hcell]
            simp [hjl]
          · have hjl : j < xs.size := Nat.lt_of_lt_of_le (List.getElem?_eq_some_iff.1 hj).1 h2
            refine (h4 j c _ hj ?_).mono hle
            simp [hjl]
        · rename_i he
          obtain ⟨g1, g2, g3⟩ := S.hp i b e
          refine ⟨?_, g2, g3⟩
          have hne := hinj i b e he
          cases b with
          | var cs' =>
            obtain ⟨xs', ty', k1, k2, k3, k4, k5⟩ := g1
            refine ⟨xs', ty', k1, k2, k3, fun j c x e1 e2 => (k4 j c x e1 e2).mono hle, fun p v hp => ?_⟩
            rcases hcase p v hp with e' | e'
            · exact k5 p v e'
            · rw [e']; exact Ne.symm hne
          | con cs' =>
            obtain ⟨g, k1, k2, k3⟩ := g1
            exact ⟨g, k1, fun j c e => hle _ _ (k2 j c e), fun j c e => (k3 j c e).mono hle⟩
          | map es =>
            obtain ⟨xs', ck, k1, k0, k2, k3⟩ := g1
            exact ⟨xs', ck, k1, k0, k2, fun j k v x e1 e2 => ⟨((k3 j k v x e1 e2).1).mono hle, ((k3 j k v x e1 e2).2).mono hle⟩⟩
      · have g : ∀ i b, look i (frz1 id st.h) = some b → ∃ b', look i st.h = some b' := fun i b e => by
          cases hb : look i st.h with
          | none => rw [(frz1_none id st.h i).2 hb] at e; cases e
          | some b' => exact ⟨b', rfl⟩
        intro i i' b b' e e' he
        obtain ⟨c, hc⟩ := g i b e
        obtain ⟨c', hc'⟩ := g i' b' e'
        exact S.inj i i' c c' hc hc' he
      · intro j e c hj
        obtain ⟨v, g1, ⟨m, ys, g2, g3⟩, g4⟩ := S.ow j e c hj
        refine ⟨v, g1, ⟨m, ys, g2, fun g hg => ⟨(g3 g hg).1, fun p u hp hpg => ?_⟩⟩, fun i b hb => ?_⟩
        · rcases hcase p u hp with e' | e'
          · exact (g3 g hg).2 p u e' hpg
          · exact absurd (by rw [hg, ← hpg, e']) (g4 id _ hk)
        · replace hb : look i (frz1 id st.h) = some b := hb
          cases hb' : look i st.h with
          | none => rw [(frz1_none id st.h i).2 hb'] at hb; cases hb
          | some b' => exact g4 i b' hb'
theorem frzC_sound : ∀ (l : List Operand) {h : List (Nat × Blk)} {F : Frz}, SimS P T M F0 w0 F ρ { st with h := h } a w → ∃ F', SimS P T M F0 w0 F' ρ { st with h := frzC st.σ l h } a w
  | [], h, F, S => ⟨F, S⟩
  | x :: r, h, F, S => by
    simp only [frzC]
    split
    · rename_i id off _
      obtain ⟨F', S'⟩ := frz1_sound S id
      exact frzC_sound r S'
    · exact frzC_sound r S
theorem frzR_sound : ∀ (l : List Oper) {h : List (Nat × Blk)} {F : Frz}, SimS P T M F0 w0 F ρ { st with h := h } a w → ∃ F', SimS P T M F0 w0 F' ρ { st with h := frzR st.σ l h } a w
  | [], h, F, S => ⟨F, S⟩
  | x :: r, h, F, S => by
    simp only [frzR]
    split
    · rename_i cap _
      obtain ⟨F', S'⟩ := frzC_sound cap.toList S
      exact frzR_sound r S'
    · exact frzR_sound r S

theorem nu_ne {r : Option TV} {tv : TV} (h : nu r = some tv) : tv ≠ .u := by
  unfold nu at h; split at h
  · cases h
  · rename_i hne; intro he; subst he; exact hne h

theorem movK_sound {K : St → Prop} {x : Operand} {d : Option Tmp} (S : SimS P T M F0 w0 F ρ st a w) (hk : movK st x d K) : ∃ st', SimS P T M F0 w0 F ρ st' (a.put d (a.eval x)) w ∧ K st' := by
  unfold movK at hk
  split at hk
  · exact ⟨st, S, hk⟩
  · rename_i tv d hx
    have hx' := nu_some hx
    have hr := S.opr x tv hx'
    have hw := S.wfo x tv hx'
    split at hk
    · rename_i i
      refine ⟨_, ?_, hk.2⟩
      unfold SimS
      rw [σ_cons]
      have S1 := Sim.putr S hr hw hk.1
      by_cases hid : i = d
      · simp only [if_pos hid]; exact S1
      · simp only [if_neg hid]
        refine S1.addo (fun j e c hj => remo_not j e c hj) ?_
        have hsz : d < a.tmps.size := by rw [S.n]; exact hk.1
        rw [put_get hsz, put_get hsz, if_pos rfl, if_neg hid]
        obtain ⟨y, e1, _⟩ := S.tm i tv hx'
        rw [e1]
        simp [Act.eval, e1]
    · refine ⟨_, ?_, hk.2⟩
      unfold SimS
      rw [σ_cons]
      exact Sim.putr S hr hw hk.1
  · exact hk.elim

theorem evK_sound {K : St → Prop} (S : SimS P T M F0 w0 F ρ st a w) (hk : evK P op st K) {next : Act → World → Prop} {Q : Exit → Act → World → Prop}
    (k : ∀ F' ρ' st' a' w', SimS P T M F0 w0 F' ρ' st' a' w' → K st' → next a' w') : op.wp P a w next Q := by
  unfold evK at hk
  have G := Sim.good S
  split at hk
  · rename_i tv htv
    obtain ⟨x, hr, hx⟩ := evq_sound (P := P) G op htv
    unfold Oper.wp
    rw [hr]
    obtain ⟨st', S', hK⟩ := putK_sound S hx (evq_wf S.wfo htv) hk
    exact k F ρ st' _ w S' hK
  · split at hk
    · rename_i v hv
      obtain ⟨x, F', w', hr, he, hx⟩ := evb_sound (P := P) G op hv
      unfold Oper.wp
      rw [hr]
      obtain ⟨st', S', hK⟩ := putK_sound (tv := .v v) (Sim.ext S he) hx trivial hk
      exact k F' ρ st' _ w' S' hK
    · exact hk.elim

theorem retK_sound {K : St → Prop} {d : Option Tmp} {r : V} (S : SimS P T M F0 w0 F ρ st a w) {F' : Frz} {w' : World} {y : Value} (hx : Ext F w F' w') (hr : Rep F' r y) {own : Option TypeId}
    (ho : ∀ e, own = some e → Own F' w' (fun g => w.heap.size ≤ g) e (P.cellsOf e) y) (hk : retK st d K r own) : ∃ st', SimS P T M F0 w0 F' ρ st' (a.put d y) w' ∧ K st' := by
  have S1 := Sim.ext S hx
  cases own with
  | none => exact putK_sound (tv := .v r) S1 hr trivial hk
  | some e =>
    cases d with
    | none => exact ⟨st, S1, hk⟩
    | some d =>
      refine ⟨_, ?_, hk.2⟩
      unfold SimS
      rw [σ_cons]
      have S2 := Sim.putr (tv := .v r) S1 hr trivial hk.1
      have hsz : d < a.tmps.size := by rw [S.n]; exact hk.1
      obtain ⟨m, xs, h1, h2⟩ := ho e rfl
      have hge := fun g hg => (h2 g hg)
      refine S2.newOwn (v := y) (by rw [put_get hsz, if_pos rfl]) ⟨m, xs, h1, fun g hg => ⟨S.hM g (Nat.le_trans S.bel.size (h2 g hg).1), (h2 g hg).2⟩⟩ (fun id b hb e' => ?_) (fun j e' c hj i hi u g hu hg hg' => ?_)
      · have := (hge _ e').1
        have := (S.hp id b hb).2.2
        omega
      · have hne : i ≠ d := fun he => remo_not j e' c hj (he ▸ hi)
        rw [put_get hsz, if_neg hne] at hu
        simp only [remo, List.getElem?_map, Option.map_eq_some_iff] at hj
        obtain ⟨⟨e2, c2⟩, h3, h4⟩ := hj
        simp only [Prod.mk.injEq] at h4
        obtain ⟨rfl, rfl⟩ := h4
        obtain ⟨v, g1, ⟨m2, ys, g2, _⟩, _⟩ := S.ow j e2 c2 h3
        have hv := g1 i (List.mem_filter.1 hi).1
        rw [hu] at hv; cases hv
        have := (g2.lt _ hg').2
        have := (hge _ hg).1
        omega

theorem newK_sound {K : St → Prop} {d : Option Tmp} {size : Nat} {es : List (List V)} (S : SimS P T M F0 w0 F ρ st a w) {F' : Frz} {w' : World} {y : Value} (hx : Ext F w F' w') (hn : New F' w' w.heap.size size es y) (hk : newK st d K size es) :
    ∃ ρ' st', SimS P T M F0 w0 F' ρ' st' (a.put d y) w' ∧ K st' := by
  have S1 := Sim.ext S hx
  cases d with
  | none => exact hk.elim
  | some d =>
    obtain ⟨h1, h2, h3, h4⟩ := hk
    rcases hn with ⟨he, hr⟩ | ⟨b, cap, rfl, g1, g2, g3, g4, g5, g6⟩
    · refine ⟨ρ, _, ?_, h3 he⟩
      unfold SimS
      rw [σ_cons]
      exact Sim.putr (tv := .v (.slice size [])) S1 hr trivial h1
    · refine ⟨fun i => if i = d then b else ρ i, _, ?_, h4 g3⟩
      unfold SimS
      rw [σ_cons]
      refine Sim.putr (tv := .s d 0 es.length size) (Sim.bind S1 h1 h2 g6 (S.hM _ (Nat.le_trans S.bel.size g4)) g5 (fun id k' e => ?_) (fun j e c hj i hi u hu => ?_)) ?_ ?_ h1
      · have := (S.hp id k' e).2.2; omega
      · obtain ⟨v, e1, ⟨m, xs, e2, _⟩, _⟩ := S.ow j e c hj
        have : v = u := by have := e1 i hi; rw [hu] at this; exact (Option.some.inj this).symm
        subst this
        intro he
        exact absurd (e2.lt _ he).2 (by omega)
      · exact ⟨cap, g1, g2, List.length_pos_iff.2 g3, by simp⟩
      · simp [wfT, look_same]

/-- the knowledge of a block is written anew -/
theorem Sim.know (S : SimS P T M F0 w0 F ρ st a w) {id : Nat} {cs : List V} {k : Blk} (hk0 : look id st.h = some (.var cs)) (hk : RepB F w (ρ id) k) : SimS P T M F0 w0 F ρ { st with h := seth id k st.h } a w := by
  obtain ⟨⟨xs, ty, h1, h2, h3, h4, h5⟩, _⟩ := S.hp id _ hk0
  exact Sim.write S hk0 rfl rfl rfl rfl (fun _ _ => rfl) h5 (nomap S.sees h1) hk

theorem seth_seth (id : Nat) (b b' : Blk) : ∀ h : List (Nat × Blk), seth id b (seth id b' h) = seth id b h
  | [] => rfl
  | (j, x) :: r => by
    simp only [seth]
    split
    · rename_i he; simp [seth, he]
    · rename_i he; simp [seth, he, seth_seth id b b' r]
theorem seth_look (id : Nat) (b : Blk) : ∀ h : List (Nat × Blk), look id h ≠ none → look id (seth id b h) = some b
  | [], hh => absurd rfl hh
  | (j, x) :: r, hh => by
    simp only [seth]
    split
    · rename_i he; subst he; exact look_same _ _ _
    · rename_i he
      rw [look_cons, if_neg he]
      rw [look_cons, if_neg he] at hh
      exact seth_look id b r hh

/-- more is known of maps that stay -/
theorem Sim.more {n : Nat} {σ : Sto} {h : List (Nat × Blk)} {o : List (TypeId × List Nat)} (S : Sim P T M F0 w0 F ρ n σ h o a w) {F' : Frz} (hle : Le F F') (hc : ∀ p v, F' p = some v → F p = some v) (hs : Sees F' w)
    (hm : ∀ b xs, F'.m b = some xs → F.m b = some xs ∨ M b) (hl : ∀ id es, look id h = some (.map es) → F'.m (ρ id) = none) : Sim P T M F0 w0 F' ρ n σ h o a w where
  n := S.n
  df := S.df
  sees := hs
  lay := S.lay
  le := S.le.trans hle
  new := fun p v e => S.new p v (hc p v e)
  newm := fun b xs e => (hm b xs e).elim (S.newm b xs) .inr
  bel := S.bel
  hM := S.hM
  tm := fun i tv e => by obtain ⟨x, h1, h2⟩ := S.tm i tv e; exact ⟨x, h1, h2.mono hle⟩
  wf := S.wf
  hp := fun id b e => by
    obtain ⟨h1, h2, h3⟩ := S.hp id b e
    refine ⟨?_, h2, h3⟩
    cases b with
    | var cs =>
      obtain ⟨xs, ty, k1, k2, k3, k4, k5⟩ := h1
      exact ⟨xs, ty, k1, k2, k3, fun j c x e1 e2 => (k4 j c x e1 e2).mono hle, fun p v hp => k5 p v (hc p v hp)⟩
    | con cs =>
      obtain ⟨g, k1, k2, k3⟩ := h1
      exact ⟨g, k1, fun j c e => hle _ _ (k2 j c e), fun j c e => (k3 j c e).mono hle⟩
    | map es =>
      obtain ⟨xs, ck, k1, _, k2, k3⟩ := h1
      exact ⟨xs, ck, k1, hl id es e, k2, fun j k v x e1 e2 => ⟨((k3 j k v x e1 e2).1).mono hle, ((k3 j k v x e1 e2).2).mono hle⟩⟩
  nn := S.nn
  z := S.z
  inj := S.inj
  ow := fun j e c hj => by
    obtain ⟨v, h1, ⟨m, xs, h2, h3⟩, h4⟩ := S.ow j e c hj
    exact ⟨v, h1, ⟨m, xs, h2, fun g hg => ⟨(h3 g hg).1, fun p u hp => (h3 g hg).2 p u (hc p u hp)⟩⟩, h4⟩
  od := S.od
theorem seth_other (id : Nat) (b : Blk) : ∀ (h : List (Nat × Blk)) (i : Nat), i ≠ id → look i (seth id b h) = look i h
  | [], _, _ => rfl
  | (j, x) :: r, i, hi => by
    simp only [seth]
    split
    · rename_i he; subst he; rw [look_cons, look_cons, if_neg hi, if_neg hi]
    · rw [look_cons, look_cons, seth_other id b r i hi]
/-- a local map is written no more -/
theorem Sim.frzM (S : SimS P T M F0 w0 F ρ st a w) {id : Nat} {es : List (V × V)} (hb : look id st.h = some (.map es)) :
    ∃ F', SimS P T M F0 w0 F' ρ { st with h := seth id (.con []) st.h } a w ∧ ∃ xs, F'.m (ρ id) = some xs ∧ xs.size = es.length ∧ ∀ (j : Nat) k v x, es[j]? = some (k, v) → xs[j]? = some x → Rep F' k x.key ∧ Rep F' v x.val := by
  obtain ⟨⟨xs, ck, b1, b0, b2, b3⟩, hB, hlt⟩ := S.hp id _ hb
  have hF : ∀ p u, F p = some u → p.block ≠ ρ id := fun p u hp he => by
    have := S.sees p u hp
    unfold World.cell? at this
    rw [he, b1] at this
    cases this
  have S1 := Sim.write S hb (w' := w) (k := .con []) rfl rfl rfl rfl (fun _ _ => rfl) hF b0 ⟨fun _ => undef, by simp, by simp, by simp⟩
  have hle : Le F ⟨F.c, fun b => if b = ρ id then some xs else F.m b⟩ := ⟨fun _ _ e => e, fun b ys e => by
    show (if b = ρ id then some xs else F.m b) = some ys
    split
    · rename_i he; subst he; rw [b0] at e; cases e
    · exact e⟩
  refine ⟨⟨F.c, fun b => if b = ρ id then some xs else F.m b⟩, ?_, xs, if_pos rfl, b2, fun j k v x e1 e2 => ⟨((b3 j k v x e1 e2).1).mono hle, ((b3 j k v x e1 e2).2).mono hle⟩⟩
  refine Sim.more S1 hle (fun _ _ e => e) ⟨S.sees.c, fun b ys e => ?_⟩ (fun b ys e => ?_) (fun id' es' e => ?_)
  · replace e : (if b = ρ id then some xs else F.m b) = some ys := e
    split at e
    · rename_i he; cases e; subst he; exact ⟨ck, b1⟩
    · exact S.sees.m b ys e
  · replace e : (if b = ρ id then some xs else F.m b) = some ys := e
    split at e
    · rename_i he; subst he; exact .inr hB
    · exact .inl e
  · by_cases hi : id' = id
    · subst hi
      rw [seth_look id' _ st.h (by rw [hb]; simp)] at e
      cases e
    · rw [seth_other id _ st.h id' hi] at e
      have hne : ρ id' ≠ ρ id := fun he => hi (S.inj id' id _ _ e hb he)
      show (if ρ id' = ρ id then some xs else F.m (ρ id')) = none
      rw [if_neg hne]
      obtain ⟨⟨_, _, _, h0, _⟩, _⟩ := S.hp id' _ e
      exact h0

/-- a call has written one block -/
theorem Sim.extX (S : SimS P T M F0 w0 F ρ st a w) {id : Nat} {cs cs' : List V} (hk0 : look id st.h = some (.var cs)) {F' : Frz} {w' : World} (hx : ExtX (ρ id) F w F' w') (hk : RepB F' w' (ρ id) (.var cs')) :
    SimS P T M F0 w0 F' ρ { st with h := seth id (.var cs') st.h } a w' := by
  obtain ⟨⟨xs, ty, h1, h2, h3, h4, h5⟩, hM, hlt⟩ := S.hp id _ hk0
  have hk' := hk
  obtain ⟨xs', ty', g1, g2, g3, g4, g5⟩ := hk
  let w1 : World := { w with heap := w.heap.setIfInBounds (ρ id) (.cells xs' ty' (0, 0)) }
  have hw1 : w1.heap[ρ id]? = some (.cells xs' ty' (0, 0)) := by simp [w1, hlt]
  have hw1o : ∀ j, j ≠ ρ id → w1.heap[j]? = w.heap[j]? := fun j hj => by simp [w1, Array.getElem?_setIfInBounds_ne (Ne.symm hj)]
  have S1 : SimS P T M F0 w0 F ρ { st with h := seth id (.var []) st.h } a w1 :=
    Sim.write S hk0 rfl rfl rfl (by simp [w1]) hw1o h5 (nomap S.sees h1) ⟨xs', ty', hw1, by simp, by simp, by simp, h5⟩
  have hE : Ext F w1 F' w' := ⟨hx.le, hx.fr, fun p v e => by have := hx.new p v e; simpa [w1] using this, fun p v e => by have := hx.newm p v e; simpa [w1] using this,
    ⟨hx.os, hx.tape, hx.output, by have := hx.size; simpa [w1] using this, fun q hq => by
      have hq' : q < w.heap.size := by simpa [w1] using hq
      by_cases he : q = ρ id
      · subst he; rw [hw1, g1]
      · rw [hw1o q he]; exact hx.block q hq' he⟩⟩
  have S2 := Sim.ext S1 hE
  have := Sim.know (st := { st with h := seth id (.var []) st.h }) S2 (cs := []) (seth_look id _ st.h (by rw [hk0]; simp)) hk'
  simp only [seth_seth] at this
  exact this

theorem tvsOf_sound {ρa : Operand → Option TV} {ρc : Operand → Value} {F : Frz} {ρ : Nat → Nat} (G : ∀ x tv, ρa x = some tv → RepT F ρ tv (ρc x)) : ∀ (l : List Operand) {ts : List TV}, tvsOf ρa l = some ts →
    ts.length = l.length ∧ ∀ (j : Nat) t x, ts[j]? = some t → (l.map ρc)[j]? = some x → RepT F ρ t x
  | [], ts, e => by simp only [tvsOf, Option.some.injEq] at e; subst e; simp
  | y :: r, ts, e => by
    simp only [tvsOf] at e
    split at e
    · rename_i v vs h1 h2
      cases e
      obtain ⟨hl, hh⟩ := tvsOf_sound G r h2
      refine ⟨by simp [hl], fun j t x e1 e2 => ?_⟩
      cases j with
      | zero => simp at e1 e2; subst e1 e2; exact G y _ h1
      | succ j => exact hh j t x (by simpa using e1) (by simpa using e2)
    · cases e
theorem only_re {id : Nat} {F : Frz} {ρ : Nat → Nat} : ∀ {ts : List TV}, only id ts = true → ∀ (j : Nat) t x, ts[j]? = some t → RepT F ρ t x → RepT F (fun _ => ρ id) (re 999999 t) x
  | [], _, j, t, x, e, _ => by simp at e
  | .v y :: r, h, j, t, x, e, hr => by
    cases j with
    | zero => simp at e; subst e; exact hr
    | succ j => exact only_re (ts := r) h j t x (by simpa using e) hr
  | .p i off :: r, h, j, t, x, e, hr => by
    simp only [only, Bool.and_eq_true] at h
    cases j with
    | zero =>
      simp at e; subst e
      have := Nat.eq_of_beq_eq_true h.1
      subst this; exact hr
    | succ j => exact only_re (ts := r) h.2 j t x (by simpa using e) hr
  | .s i off n size :: r, h, j, t, x, e, hr => by
    simp only [only, Bool.and_eq_true] at h
    cases j with
    | zero =>
      simp at e; subst e
      have := Nat.eq_of_beq_eq_true h.1
      subst this; exact hr
    | succ j => exact only_re (ts := r) h.2 j t x (by simpa using e) hr
  | .m _ :: r, h, _, _, _, _, _ => by cases h
  | .u :: r, h, _, _, _, _, _ => by cases h
theorem re_rep {F : Frz} {ρ : Nat → Nat} {id : Nat} {r : TV} {y : Value} (ho : only 999999 [r] = true) (h : RepT F (fun _ => ρ id) r y) : RepT F ρ (re id r) y := by
  cases r with
  | v x => exact h
  | p i off => exact h
  | s i off n size => exact h
  | m i => cases ho
  | u => cases ho

theorem callM_sound {k : St → TV → Prop} {c : Go.Call} {f : Operand} {g : FuncId} {cap : List V} {ts : List TV} (S : SimS P T M F0 w0 F ρ st a w) (ho : op.op = .call c) (hc : c.callee = .value f)
    (hf : vOf (opv st.σ f) = some (.func g cap)) (hts : tvsOf (opv st.σ) c.args.toList = some ts) (hk : CallM P T g ts cap st k) {next : Act → World → Prop} {Q : Exit → Act → World → Prop}
    (kk : ∀ F' w' y st' tv, SimS P T M F0 w0 F' ρ st' a w' → RepT F' ρ tv y → wfT st'.h tv → k st' tv → next (a.put op.dst y) w') : op.wp P a w next Q := by
  have G := Sim.good S
  have hfv := G.v hf
  generalize hfx : a.eval f = fx at hfv
  cases hfv with
  | func hl hh =>
    rename_i xs
    obtain ⟨hl2, hh2⟩ := tvsOf_sound G.opr _ hts
    obtain ⟨id, cs, cs', r, q1, q2, q3, hden, q4⟩ := hk
    have hargs : RepsT F (ρ id) (ts.map (re 999999) ++ cap.map .v) ((c.args.toList.map a.eval) ++ xs.toList) := by
      refine ⟨by simp [hl, hl2], fun j v x e1 e2 => ?_⟩
      by_cases hj : j < ts.length
      · rw [List.getElem?_append_left (by simpa using hj)] at e1
        rw [List.getElem?_append_left (by rw [List.length_map]; omega)] at e2
        simp only [List.getElem?_map, Option.map_eq_some_iff] at e1
        obtain ⟨t, e1, rfl⟩ := e1
        exact only_re q2 j t x e1 (hh2 j t x e1 e2)
      · rw [List.getElem?_append_right (by rw [List.length_map]; omega)] at e1
        rw [List.getElem?_append_right (by rw [List.length_map]; omega)] at e2
        rw [List.length_map] at e1
        rw [List.length_map, ← hl2] at e2
        simp only [List.getElem?_map, Option.map_eq_some_iff] at e1
        obtain ⟨t, e1, rfl⟩ := e1
        exact hh _ t x e1 (by simpa using e2)
    have hrun : ∀ (he : Enters P g), (execOp a.eval op).run P w = .ok (.enter g ((c.args.toList.map a.eval) ++ xs.toList).toArray) w := by
      intro he
      have := he ((c.args.map a.eval) ++ xs) w
      have harr : ((c.args.toList.map a.eval) ++ xs.toList).toArray = (c.args.map a.eval) ++ xs := by
        apply Array.ext'
        simp
      rw [harr, ← this]
      simp [execOp, ho, resolve, hc, hfx, Deferred.ofValue, invoke]
    unfold Oper.wp
    rw [hrun hden.1]
    refine (hden.2 w F (ρ id) _ S.sees (S.laid) (S.hp id _ q1).1 hargs).mono ?_
    rintro e w' ⟨y, F', rfl, hx, hb, hr⟩
    refine kk F' w' y _ _ (Sim.extX S q1 hx hb) (re_rep q3 hr) ?_ q4
    have hne : look id (seth id (.var cs') st.h) ≠ none := by rw [seth_look id _ _ (by rw [q1]; simp)]; simp
    cases r with
    | v x => trivial
    | p i off => exact hne
    | s i off n size => exact hne
    | m i => trivial
    | u => trivial

theorem call_sound {K : V → Option TypeId → Prop} {KN : Nat → List (List V) → Prop} {c : Go.Call} {f : Operand} {g : FuncId} {cap vs : List V} (S : SimS P T M F0 w0 F ρ st a w) (ho : op.op = .call c) (hc : c.callee = .value f)
    (hf : vOf (opv st.σ f) = some (.func g cap)) (hvs : vsOf (opv st.σ) c.args.toList = some vs) (hk : Call P T g (vs ++ cap) K KN) {next : Act → World → Prop} {Q : Exit → Act → World → Prop}
    (k : ∀ F' w' y r own, Ext F w F' w' → Rep F' r y → (∀ e, own = some e → Own F' w' (fun g => w.heap.size ≤ g) e (P.cellsOf e) y) → K r own → next (a.put op.dst y) w')
    (kn : ∀ F' w' y size es, Ext F w F' w' → New F' w' w.heap.size size es y → KN size es → next (a.put op.dst y) w') : op.wp P a w next Q := by
  have G := Sim.good S
  have hfv := G.v hf
  generalize hfx : a.eval f = fx at hfv
  cases hfv with
  | func hl hh =>
    rename_i xs
    obtain ⟨hl2, hh2⟩ := vsOf_sound G hvs
    have hargs : Reps F (vs ++ cap) ((c.args.toList.map a.eval) ++ xs.toList) := by
      refine ⟨by simp [hl, hl2], fun j v x e1 e2 => ?_⟩
      by_cases hj : j < vs.length
      · rw [List.getElem?_append_left hj] at e1
        rw [List.getElem?_append_left (by rw [List.length_map]; omega)] at e2
        exact hh2 j v x e1 e2
      · rw [List.getElem?_append_right (by omega)] at e1
        rw [List.getElem?_append_right (by rw [List.length_map]; omega)] at e2
        rw [List.length_map, ← hl2] at e2
        exact hh _ v x e1 (by simpa using e2)
    have hrun : ∀ (he : Enters P g), (execOp a.eval op).run P w = .ok (.enter g ((c.args.toList.map a.eval) ++ xs.toList).toArray) w := by
      intro he
      have := he ((c.args.map a.eval) ++ xs) w
      have harr : ((c.args.toList.map a.eval) ++ xs.toList).toArray = (c.args.map a.eval) ++ xs := by
        apply Array.ext'
        simp
      rw [harr, ← this]
      simp [execOp, ho, resolve, hc, hfx, Deferred.ofValue, invoke]
    unfold Oper.wp
    rcases hk with ⟨r, hden, hk⟩ | ⟨r, e, hden, hk⟩ | ⟨size, es, hden, hk⟩
    · rw [hrun hden.1]
      refine (hden.2 w F _ S.sees (S.laid) hargs).mono ?_
      rintro e w' ⟨y, F', rfl, hx, hr⟩
      exact k F' w' y r none hx hr (fun e he => by cases he) hk
    · rw [hrun hden.1]
      refine (hden.2 w F _ S.sees (S.laid) hargs).mono ?_
      rintro e' w' ⟨y, F', rfl, hx, hr, hown⟩
      exact k F' w' y r (some e) hx hr (fun e he => by cases he; exact hown) hk
    · rw [hrun hden.1]
      refine (hden.2 w F _ S.sees (S.laid) hargs).mono ?_
      rintro e' w' ⟨y, F', rfl, hx, hn⟩
      exact kn F' w' y size es hx hn hk

/-- the cells of a slice, in one list -/
def flat (m size : Nat) (g : Nat → Nat → Value) : List Value := (List.range (m * size)).map fun q => g (q / size) (q % size)
theorem flat_length (m size : Nat) (g : Nat → Nat → Value) : (flat m size g).length = m * size := by simp [flat]
theorem flat_get {m size : Nat} {g : Nat → Nat → Value} {i j : Nat} (hi : i < m) (hj : j < size) : (flat m size g)[i * size + j]? = some (g i j) := by
  have hlt : i * size + j < m * size := by
    have : (i + 1) * size ≤ m * size := Nat.mul_le_mul_right _ hi
    rw [Nat.add_mul] at this; omega
  have h1 : (i * size + j) / size = i := by
    rw [Nat.mul_comm, Nat.mul_add_div (by omega), Nat.div_eq_of_lt hj]; simp
  have h2 : (i * size + j) % size = j := by
    rw [Nat.mul_comm, Nat.mul_add_mod, Nat.mod_eq_of_lt hj]
  simp [flat, hlt, h1, h2]
theorem flat_inv {m size : Nat} {g : Nat → Nat → Value} {q : Nat} {u : Value} (h : (flat m size g)[q]? = some u) : ∃ i j, i < m ∧ j < size ∧ q = i * size + j ∧ u = g i j := by
  have hlt : q < m * size := by
    have := (List.getElem?_eq_some_iff.1 h).1
    rwa [flat_length] at this
  have hs : 0 < size := by
    rcases Nat.eq_zero_or_pos size with h0 | h0
    · subst h0; simp at hlt
    · exact h0
  refine ⟨q / size, q % size, (Nat.div_lt_iff_lt_mul hs).2 hlt, Nat.mod_lt _ hs, ?_, ?_⟩
  · rw [Nat.mul_comm]; exact (Nat.div_add_mod q size).symm
  · simp [flat, hlt] at h; exact h.symm

/-- a slice's cells as they lie -/
theorem slice_cells {size : Nat} {es : List (List V)} {x : Value} (hF : Sees F w) (h : Rep F (.slice size es) x) :
    ∃ g : Nat → Nat → Value, ((x = .slice none 0 0 ∧ es.length = 0) ∨ ∃ a c, x = .slice (some a) es.length c ∧ ∀ j u, (flat es.length size g)[j]? = some u → w.cell? (a.add j) = some u) ∧
      (∀ u ∈ flat es.length size g, u.oneCell' = true) ∧ (∀ e ∈ es, e.length = size) ∧ (∀ e ∈ es, ∀ c ∈ e, c.one = true) ∧
      ∀ (i j : Nat) e c, es[i]? = some e → e[j]? = some c → Rep F c (g i j) := by
  rcases rep_slice_inv h with ⟨rfl, rfl⟩ | ⟨a, cap, g, rfl, hc, hm, hs, ho, hg, hr⟩
  · exact ⟨fun _ _ => undef, .inl ⟨rfl, rfl⟩, by simp [flat], by simp, by simp, by simp⟩
  · have key : ∀ i j, i < es.length → j < size → ∃ e c, es[i]? = some e ∧ e[j]? = some c := fun i j hi hj => by
      have he := List.getElem?_eq_getElem hi
      have hl := hs es[i] (List.getElem_mem hi)
      exact ⟨es[i], es[i][j]'(by omega), he, List.getElem?_eq_getElem (by omega)⟩
    refine ⟨g, .inr ⟨a, cap, rfl, fun q u hq => ?_⟩, fun u hu => ?_, hs, ho, hr⟩
    · obtain ⟨i, j, hi, hj, rfl, rfl⟩ := flat_inv hq
      obtain ⟨e, c, h1, h2⟩ := key i j hi hj
      exact hF _ _ (hg i j e c h1 h2)
    · obtain ⟨q, hq⟩ := List.getElem?_of_mem hu
      obtain ⟨i, j, hi, hj, rfl, rfl⟩ := flat_inv hq
      obtain ⟨e, c, h1, h2⟩ := key i j hi hj
      exact (hr i j e c h1 h2).one (ho e (List.mem_of_getElem? h1) c (List.mem_of_getElem? h2))

theorem appK_sound {K : St → Prop} {c : Go.Call} (S : SimS P T M F0 w0 F ρ st a w) (ho : op.op = .call c) (hc : c.callee = .builtin .append) (hk : appK P op c st K)
    {next : Act → World → Prop} {Q : Exit → Act → World → Prop} (k : ∀ F' ρ' st' a' w', SimS P T M F0 w0 F' ρ' st' a' w' → K st' → next a' w') : op.wp P a w next Q := by
  have G := Sim.good S
  unfold appK at hk
  split at hk
  · rename_i s x t t' d h1 h2 hd
    split at hk
    · rename_i htt
      subst htt
      split at hk
      · rename_i e size hsl
        obtain ⟨hu, hsz, hz⟩ := slV_some hsl
        split at hk
        · rename_i es io xsv hS hX
          obtain ⟨hzc, happ, hdn, hK⟩ := hk
          obtain ⟨inf, hi⟩ := info_of_cells (P := P) (t := e) (by omega)
          have hisz : inf.size = size := by rw [← hsz]; simp [Program.cellsOf, hi]
          have hiby : inf.bytes = P.bytesOf e := by simp [Program.bytesOf, hi]
          have hzz : ∃ z, inf.zero = some z ∧ z.cells.size = size := by
            unfold ZeroOk zeroV at hzc
            rw [hi] at hzc
            simp only [Option.bind_some, Option.map_eq_some_iff] at hzc
            exact hzc
          obtain ⟨z, hz1, hz2⟩ := hzz
          -- the row that is appended to
          have hrow : ∃ xs0, w.ownsRow 0 e size (a.eval s) es.length xs0 ∧ (∀ g, (a.eval s).ownBlock = some g → M g) ∧ (∀ g, (a.eval s).ownBlock = some g → ∀ p u, F p = some u → p.block = g → p.off < es.length * size) ∧
              (∀ id b, look id st.h = some b → (a.eval s).ownBlock ≠ some (ρ id)) ∧
              (∀ (j : Nat) e c, (owner io st.o)[j]? = some (e, c) → ∀ i ∈ c, ∀ u g, a.tmps[i]? = some u → (a.eval s).ownBlock = some g → u.ownBlock ≠ some g) ∧
              (∀ e ∈ es, e.length = size) ∧ (∀ e ∈ es, ∀ c ∈ e, c.one = true) ∧
              ∀ (i j : Nat) e c, es[i]? = some e → e[j]? = some c → ∃ u, xs0[i * size + j]? = some u ∧ Rep F c u := by
            unfold appS at hS
            split at hS
            · rename_i hv
              cases hS
              have := rep_val_inv (G.v hv)
              rw [this]
              exact ⟨[], World.ownsRow_nil w 0 e size, by simp [Value.ownBlock], by simp [Value.ownBlock], by simp [Value.ownBlock], by simp [Value.ownBlock], by simp, by simp, by simp⟩
            · rename_i s' es' hv
              split at hS
              · rename_i i
                split at hS
                · rename_i hcond
                  cases hS
                  obtain ⟨rfl, hown⟩ := hcond
                  obtain ⟨j0, c0, hj0, hi0⟩ := ownOf_some hown
                  obtain ⟨v, hv1, ⟨m, xs0, hv2, hv3⟩, hv4⟩ := S.ow j0 e c0 hj0
                  have hev : a.eval (.tmp i) = v := by simp [Act.eval, hv1 i hi0]
                  have hrep := G.v hv
                  rw [hev] at hrep ⊢
                  rw [hsz] at hv2 hv3
                  have hm : m = es.length := by
                    obtain ⟨aa, cc, hvv⟩ := rep_slice_len hrep
                    rcases hv2.2 with ⟨e1, e2⟩ | ⟨g, cap, cur, e1, _⟩
                    · rw [e1] at hvv; simp only [Value.slice.injEq] at hvv; omega
                    · rw [e1] at hvv; simp only [Value.slice.injEq] at hvv; exact hvv.2.1
                  subst hm
                  obtain ⟨gg, hc1, hc2, hc3, hc4, hc5⟩ := slice_cells S.sees hrep
                  refine ⟨xs0, hv2, fun g hg => (hv3 g hg).1, fun g hg => (hv3 g hg).2, hv4, ?_, hc3, hc4, fun i' j e' c e1 e2 => ?_⟩
                  · intro j' e' c' hj' i' hi' u g hu hg
                    obtain ⟨q1, q2⟩ := delo_mem j' e' c' hj' hi'
                    refine S.od j0 j' e c0 e' c' (fun he => ?_) hj0 q1 i hi0 i' hi' v u g (hv1 i hi0) hu hg
                    subst he
                    rw [hj0] at q1
                    cases q1
                    exact q2 hi0
                  · have hi'lt := (List.getElem?_eq_some_iff.1 e1).1
                    have hjlt : j < s' := by
                      have := (List.getElem?_eq_some_iff.1 e2).1
                      rw [hc3 e' (List.mem_of_getElem? e1)] at this; exact this
                    refine ⟨gg i' j, ?_, hc5 i' j e' c e1 e2⟩
                    have hfl := flat_get (g := gg) hi'lt hjlt
                    rcases hc1 with ⟨_, h0⟩ | ⟨aa, cc, hvv, hcell⟩
                    · omega
                    · have hw := hcell _ _ hfl
                      have hob : v.ownBlock = some aa.block := by rw [hvv]; rfl
                      have hxl : i' * s' + j < xs0.length := by
                        rw [hv2.1]
                        have : (i' + 1) * s' ≤ es.length * s' := Nat.mul_le_mul_right _ hi'lt
                        rw [Nat.add_mul] at this; omega
                      have hcx := hv2.cells hob _ _ (List.getElem?_eq_getElem hxl)
                      have haa : aa = ⟨aa.block, 0, none⟩ := by
                        rcases hv2.2 with ⟨e1, e2⟩ | ⟨g, cap, cur, e1, _⟩
                        · rw [e1] at hvv; simp at hvv
                        · rw [e1] at hvv; simp only [Value.slice.injEq, Option.some.injEq] at hvv; rw [← hvv.1]
                      rw [haa] at hw
                      rw [hw] at hcx
                      rw [List.getElem?_eq_getElem hxl, ← Option.some.inj hcx]
                · cases hS
              · cases hS
            · cases hS
          obtain ⟨xs0, r1, rM, r2, r3, r4, r5, r6, r7⟩ := hrow
          -- what is appended
          have hnew : ∃ g : Nat → Nat → Value, ((a.eval x = .slice none 0 0 ∧ xsv.length = 0) ∨ ∃ ad c, a.eval x = .slice (some ad) xsv.length c ∧ ∀ j u, (flat xsv.length size g)[j]? = some u → w.cell? (ad.add j) = some u) ∧
              (∀ u ∈ flat xsv.length size g, u.oneCell' = true) ∧ (∀ e ∈ xsv, e.length = size) ∧ (∀ e ∈ xsv, ∀ c ∈ e, c.one = true) ∧
              ∀ (i j : Nat) e c, xsv[i]? = some e → e[j]? = some c → Rep F c (g i j) := by
            unfold appX at hX
            split at hX
            · rename_i hv
              cases hX
              have := rep_val_inv (G.v hv)
              exact ⟨fun _ _ => undef, .inl ⟨this, rfl⟩, by simp [flat], by simp, by simp, by simp⟩
            · rename_i s' es' hv
              split at hX
              · rename_i hss
                cases hX
                subst hss
                exact slice_cells S.sees (G.v hv)
              · cases hX
            · cases hX
          obtain ⟨gx, n1, n2, n3, n4, n5⟩ := hnew
          obtain ⟨v', w', hrun, hown, hat⟩ := run_append2 (P := P) w 0 t op.type e inf z size (P.bytesOf e) hu hi hz1 hisz hiby hz2 (by omega) (a.eval s) es.length xs0 r1 (a.eval x) xsv.length (flat xsv.length size gx) (flat_length _ _ _) n1 n2 happ.1 happ.2 (Nat.zero_le _)
          have hrunop : (execOp a.eval op).run P w = .ok (.value v') w' := by
            have ha : c.args = #[s, x] := by apply Array.ext'; simpa using h1
            have hb : c.argTypes = #[t, t] := by apply Array.ext'; simpa using h2
            simp only [execOp, ho, resolve, hc, ha, hb, Sem.run_bind, Sem.run_pure, Result.andThen_ok, invoke, builtin, List.map_toArray, List.map_cons, List.map_nil]
            rw [hrun]
            rfl
          have S1 : Sim P T M F0 w0 F ρ st.n st.σ st.h (owner io st.o) a w := by
            cases io with
            | none => exact S
            | some i => exact Sim.delo S i
          obtain ⟨F', f1, f2, f3, f4, f5, f6⟩ := Sim.grow S1 r1 rM r2 r3 r4 hown hat
          have hlen : es.length + xsv.length = (es ++ xsv).length := by simp
          have hrep : Rep F' (.slice size (es ++ xsv)) v' := by
            rcases hown.2 with ⟨e1, e2⟩ | ⟨g, cap, cur, e1, e2, e3, e4, e5, _⟩
            · have : es ++ xsv = [] := List.eq_nil_of_length_eq_zero (by omega)
              rw [this, e1]
              exact .snil
            · have hob : v'.ownBlock = some g := by rw [e1]; rfl
              have hcell := f6 g hob
              rw [e1, hlen]
              have hall : ∀ (i j : Nat) e c, (es ++ xsv)[i]? = some e → e[j]? = some c → ∃ u, (xs0 ++ flat xsv.length size gx)[i * size + j]? = some u ∧ Rep F' c u := fun i j e' c g1 g2 => by
                by_cases hi' : i < es.length
                · rw [List.getElem?_append_left hi'] at g1
                  obtain ⟨u, u1, u2⟩ := r7 i j e' c g1 g2
                  have hl := (List.getElem?_eq_some_iff.1 u1).1
                  exact ⟨u, by rw [List.getElem?_append_left hl]; exact u1, u2.mono f1⟩
                · rw [List.getElem?_append_right (by omega)] at g1
                  have hilt := (List.getElem?_eq_some_iff.1 g1).1
                  have hjlt : j < size := by
                    have := (List.getElem?_eq_some_iff.1 g2).1
                    rw [n3 e' (List.mem_of_getElem? g1)] at this; exact this
                  refine ⟨gx (i - es.length) j, ?_, (n5 _ j e' c g1 g2).mono f1⟩
                  have hmul : es.length * size ≤ i * size := Nat.mul_le_mul_right _ (by omega)
                  rw [List.getElem?_append_right (by rw [r1.1]; omega), r1.1, ← flat_get (g := gx) hilt hjlt]
                  congr 1
                  rw [Nat.sub_mul]; omega
              refine .slice (fun i j => ((xs0 ++ flat xsv.length size gx)[i * size + j]?).getD undef) (by rw [← hlen]; exact e4) e5 (fun e he => ?_) (fun e he => ?_) (fun i j e c g1 g2 => ?_) (fun i j e c g1 g2 => ?_)
              · rcases List.mem_append.1 he with he | he
                · exact r5 e he
                · exact n3 e he
              · rcases List.mem_append.1 he with he | he
                · exact r6 e he
                · exact n4 e he
              · obtain ⟨u, u1, u2⟩ := hall i j e c g1 g2
                rw [add_plain, Nat.zero_add, hcell _ u u1, u1]
                rfl
              · obtain ⟨u, u1, u2⟩ := hall i j e c g1 g2
                simp only [u1, Option.getD_some]
                exact u2
          unfold Oper.wp
          rw [hrunop]
          have S3 := Sim.putr (d := d) (tv := .v (.slice size (es ++ xsv))) f2 hrep trivial hdn
          have hszt : d < a.tmps.size := by rw [S.n]; exact hdn
          rw [← hsz] at f3
          have S4 := S3.newOwn (v := v') (e := e) (by rw [put_get hszt, if_pos rfl]) f3 f4 (fun j e' c' hj i hi u g hu hg => by
            have hne : i ≠ d := fun he => remo_not j e' c' hj (he ▸ hi)
            rw [put_get hszt, if_neg hne] at hu
            simp only [remo, List.getElem?_map, Option.map_eq_some_iff] at hj
            obtain ⟨⟨e2, c2⟩, h3, h4⟩ := hj
            simp only [Prod.mk.injEq] at h4
            obtain ⟨rfl, rfl⟩ := h4
            exact f5 j e2 c2 h3 i (List.mem_filter.1 hi).1 u g hu hg)
          show next (a.put op.dst v') w'
          rw [hd]
          refine k F' ρ _ _ w' ?_ hK
          unfold SimS
          rw [σ_cons]
          exact S4
        · exact hk.elim
      · exact hk.elim
    · exact hk.elim
  · exact hk.elim
end Go.Ab
