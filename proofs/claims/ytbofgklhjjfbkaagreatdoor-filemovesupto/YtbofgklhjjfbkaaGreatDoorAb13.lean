/-
  An append onto a row of the call's own: it stays where it is, or a new row is made and nothing that was there turns.
-/
import Derived.Test.YtbofgklhjjfbkaaGreatDoorAb12
namespace Go.Ab
open Go.RowKit
variable {P : Program} {T : Lay} (w : World)

theorem run_append2 (base : Nat) (t ty e : TypeId) (i : TypeInfo) (z : Value) (size bytes : Nat) (ht : P.underlying t = some (.slice e)) (hi : P.info? e = some i) (hz : i.zero = some z)
    (hsize : i.size = size) (hby : i.bytes = bytes) (hzs : z.cells.size = size) (hsz : 0 < size)
    (v : Value) (n : Nat) (xs : List Value) (hown : w.ownsRow base e size v n xs)
    (x : Value) (m : Nat) (news : List Value) (hl : news.length = m * size)
    (hx : (x = .slice none 0 0 ∧ m = 0) ∨ ∃ a c, x = .slice (some a) m c ∧ ∀ j u, news[j]? = some u → w.cell? (a.add j) = some u) (h1 : ∀ u ∈ news, u.oneCell' = true)
    (h63 : n + m ≤ maxLen) (hbytes : (n + m) * bytes ≤ 140737488355328) (hbase : base ≤ w.heap.size) :
    ∃ v' w', (Builtin.append_ #[t, t] ty #[v, x]).run P w = .ok v' w' ∧ w'.ownsRow base e size v' (n + m) (xs ++ news) ∧
      ((v'.ownBlock = v.ownBlock ∧ w.grownBy w' v.ownBlock) ∨ (v'.ownBlock = some w.heap.size ∧ w.grownBy w' none)) := by
  rcases hx with ⟨rfl, rfl⟩ | ⟨a, c, rfl, hnews⟩
  · have hn : news = [] := List.eq_nil_of_length_eq_zero (by simpa using hl)
    subst hn
    exact ⟨v, w, run_append_owned_none (P := P) w base t ty e i size ht hi v n xs hown, by simpa using hown, .inl ⟨rfl, ⟨rfl, rfl, rfl, Nat.le_refl _, fun _ _ _ => rfl⟩⟩⟩
  subst hsize
  subst hby
  have hsmall : n + m ≤ 9223372036854775807 := by simp only [maxLen] at h63; omega
  have hlen : (xs ++ news).length = (n + m) * i.size := by rw [List.length_append, hown.1, hl, Nat.add_mul]
  have grown : ∀ (old : Nat), old < n + m →
      (w.drew.alloc (.cells (xs.toArray ++ news.toArray ++ Builtin.zeroCells z.cells (grownCap w (n + m) old e - (n + m))) e)).ownsRow base e i.size
        (.slice (some ⟨w.heap.size, 0, none⟩) (n + m) (grownCap w (n + m) old e)) (n + m) (xs ++ news) ∧
      w.grownBy (w.drew.alloc (.cells (xs.toArray ++ news.toArray ++ Builtin.zeroCells z.cells (grownCap w (n + m) old e - (n + m))) e)) none := by
    intro old ho
    have hge := grownCap_ge w (n + m) old e
    have hcm : grownCap w (n + m) old e ≤ maxLen := grownCap_le_maxLen w (n + m) old e h63
    refine ⟨⟨hlen, .inr ⟨w.heap.size, _, _, rfl, hbase, heap_alloc_new w.drew _, hge, hcm, ?_, ?_⟩⟩, ⟨rfl, rfl, rfl, by simp, fun k hk _ => Below.heap_alloc w.drew _ k hk⟩⟩
    · simp only [Array.size_append, List.size_toArray, size_zeroCells, hzs, hown.1, hl, ← Nat.add_mul]
      congr 1
      omega
    · simp only [Array.toList_append, List.append_assoc]
      rw [← List.append_assoc, ← hlen]
      exact List.take_left
  rcases hown.2 with ⟨rfl, rfl⟩ | ⟨g, cap, cur, rfl, hbg, hg, hnc, hcm, hcs, htake⟩
  · have hx : xs = [] := List.eq_nil_of_length_eq_zero (by simpa using hown.1)
    subst hx
    by_cases hm : m = 0
    · subst hm
      have hn : news = [] := List.eq_nil_of_length_eq_zero (by simpa using hl)
      subst hn
      refine ⟨.slice none 0 0, w, ?_, World.ownsRow_nil w base e i.size, .inl ⟨rfl, ⟨rfl, rfl, rfl, Nat.le_refl _, fun _ _ _ => rfl⟩⟩⟩
      simp [Builtin.append_, run_underlying ht, sizeOf, typeInfo, hi, Builtin.lenOf, Builtin.firstCells, loadCells, loadCellsFrom]
    · have hr := run_append_nil (P := P) w t ty e i z ht hi hz a m c news hl hnews (by omega) (by omega) (by have hb := hbytes; simp only [Nat.zero_add] at hb; omega)
      have hgr := grown 0 (by omega)
      simp only [Nat.zero_add, List.nil_append, Array.empty_append] at hgr ⊢
      exact ⟨_, _, hr, hgr.1, .inr ⟨rfl, hgr.2⟩⟩
  · by_cases hroom : n + m ≤ cap
    · have hfit : n * i.size + news.length ≤ cur.size := by rw [hl, hcs, ← Nat.add_mul]; exact Nat.mul_le_mul_right _ hroom
      have hr := run_append_room (P := P) w t ty e i ht hi g n cap cur hg a m c news hl hnews h1 hroom hfit
      refine ⟨_, _, hr, ⟨hlen, .inr ⟨g, cap, _, rfl, hbg, setRow_heap w g cur _ e _ hg, hroom, hcm, ?_, ?_⟩⟩, .inl ⟨rfl, ⟨rfl, rfl, rfl, by simp, fun k _ hk => setRow_other w g k _ (fun e => hk (by simp [Value.ownBlock, e]))⟩⟩⟩
      · simp only [List.size_toArray, List.length_append, List.length_take, List.length_drop, Array.length_toList]
        omega
      · rw [htake, ← hlen]
        exact List.take_left
    · have holds : ∀ j u, xs[j]? = some u → w.cell? ((⟨g, 0, none⟩ : Addr).add j) = some u := hown.cells (g := g) rfl
      have hr := run_append_grow (P := P) w t ty e i z ht hi hz ⟨g, 0, none⟩ n cap xs hown.1 holds a m c news hl hnews (by omega) (by omega) (growslice_fits (by omega) hbytes)
      have hgr := grown cap (by omega)
      exact ⟨_, _, hr, hgr.1, .inr ⟨rfl, hgr.2⟩⟩

theorem spot_none {w : World} {p : Addr} {v : Value} (h : w.cell? p = some v) : p.spot = none := by
  unfold World.cell? at h
  split at h
  · split at h
    · cases h
    · rename_i hs; simpa using hs
  · cases h

/-- the row's cells, as they stay from now on -/
def rowF (F : Frz) (g len : Nat) (xs : List Value) : Frz := ⟨fun p => if p.block = g ∧ p.spot = none ∧ p.off < len then xs[p.off]? else F p, F.m⟩
theorem rowF_app (F : Frz) (g len : Nat) (xs : List Value) (p : Addr) : rowF F g len xs p = if p.block = g ∧ p.spot = none ∧ p.off < len then xs[p.off]? else F p := rfl

variable {w : World} {M : Nat → Prop} {F0 F : Frz} {w0 : World} {ρ : Nat → Nat} {n : Nat} {σ : Sto} {h : List (Nat × Blk)} {o : List (TypeId × List Nat)} {a : Act}

/-- What the ledger is behind an append: the row's own cells are seen, everything else is as it was. -/
theorem Sim.grow (S : Sim P T M F0 w0 F ρ n σ h o a w) {e : TypeId} {size m k : Nat} {v v' : Value} {xs news : List Value} {w' : World}
    (hv : w.ownsRow 0 e size v m xs) (hM : ∀ g, v.ownBlock = some g → M g) (hF : ∀ g, v.ownBlock = some g → ∀ p u, F p = some u → p.block = g → p.off < m * size)
    (hloc : ∀ id b, look id h = some b → v.ownBlock ≠ some (ρ id))
    (hoth : ∀ (j : Nat) e c, o[j]? = some (e, c) → ∀ i ∈ c, ∀ u g, a.tmps[i]? = some u → v.ownBlock = some g → u.ownBlock ≠ some g)
    (hown : w'.ownsRow 0 e size v' (m + k) (xs ++ news)) (hat : (v'.ownBlock = v.ownBlock ∧ w.grownBy w' v.ownBlock) ∨ (v'.ownBlock = some w.heap.size ∧ w.grownBy w' none)) :
    ∃ F', Le F F' ∧ Sim P T M F0 w0 F' ρ n σ h o a w' ∧ Own F' w' M e size v' ∧ (∀ id b, look id h = some b → v'.ownBlock ≠ some (ρ id)) ∧
      (∀ (j : Nat) e c, o[j]? = some (e, c) → ∀ i ∈ c, ∀ u g, a.tmps[i]? = some u → v'.ownBlock = some g → u.ownBlock ≠ some g) ∧
      ∀ g, v'.ownBlock = some g → ∀ j u, (xs ++ news)[j]? = some u → F' ⟨g, j, none⟩ = some u := by
  have hlen : (xs ++ news).length = (m + k) * size := hown.1
  have hg : w.grownBy w' v.ownBlock := by
    rcases hat with ⟨_, hg⟩ | ⟨_, hg⟩
    · exact hg
    · exact ⟨hg.os, hg.tape, hg.output, hg.size, fun q hq _ => hg.block q hq (by simp)⟩
  have hlt := hv.lt
  have hlt' := hown.lt
  have hcells : ∀ g, v'.ownBlock = some g → ∀ j u, (xs ++ news)[j]? = some u → w'.cell? ⟨g, j, none⟩ = some u := fun g hg' j u hu => by
    have := hown.cells hg' j u hu
    rwa [add_plain, Nat.zero_add] at this
  -- a block that is not the old row is as it was
  have hblk : ∀ q, q < w.heap.size → v.ownBlock ≠ some q → w'.heap[q]? = w.heap[q]? := fun q hq hne => hg.block q hq (fun e' => hne e'.symm)
  -- what is seen of the old row
  have hsee : ∀ p u, F p = some u → w'.cell? p = some u ∧ ∀ g, v'.ownBlock = some g → p.block = g → (p.off < (m + k) * size ∧ (xs ++ news)[p.off]? = some u) := fun p u hp => by
    have hc := S.sees p u hp
    have hs := spot_none hc
    have hb := cell_lt hc
    by_cases hrow : v.ownBlock = some p.block
    · have hoff := hF _ hrow p u hp rfl
      have hxs : xs[p.off]? = some u := by
        have hl : p.off < xs.length := by rw [hv.1]; exact hoff
        have := hv.cells hrow p.off xs[p.off] (List.getElem?_eq_getElem hl)
        rw [add_plain, Nat.zero_add] at this
        have hp' : (⟨p.block, p.off, none⟩ : Addr) = p := by cases p; simp only at hs; subst hs; rfl
        rw [hp', hc] at this
        rw [List.getElem?_eq_getElem hl]
        exact this.symm
      have hxn : (xs ++ news)[p.off]? = some u := by rw [List.getElem?_append_left (by rw [hv.1]; exact hoff)]; exact hxs
      have hbig : p.off < (m + k) * size := by rw [Nat.add_mul]; omega
      rcases hat with ⟨he, _⟩ | ⟨he, hg0⟩
      · refine ⟨?_, fun g hg' hpg => ⟨hbig, hxn⟩⟩
        have := hcells p.block (he.trans hrow) p.off u hxn
        have hp' : (⟨p.block, p.off, none⟩ : Addr) = p := by cases p; simp only at hs; subst hs; rfl
        rwa [hp'] at this
      · refine ⟨by rw [World.cell?_of_block (w := w) (hg0.block p.block hb (by simp))]; exact hc, fun g hg' hpg => ?_⟩
        rw [he] at hg'; have := Option.some.inj hg'; omega
    · refine ⟨by rw [World.cell?_of_block (w := w) (hblk p.block hb hrow)]; exact hc, fun g hg' hpg => ?_⟩
      subst hpg
      rcases hat with ⟨he, _⟩ | ⟨he, _⟩
      · exact absurd (he.symm.trans hg') hrow
      · rw [he] at hg'; have := Option.some.inj hg'; omega
  have hnew : ∀ g, v'.ownBlock = some g → (M g ∧ g < w'.heap.size) ∧ ∀ b, b < w.heap.size → v.ownBlock ≠ some b → g ≠ b := fun g hg' => by
    refine ⟨⟨?_, (hlt' g hg').2⟩, fun b hb hne e' => ?_⟩
    · rcases hat with ⟨he, _⟩ | ⟨he, _⟩
      · exact hM g (he.symm.trans hg')
      · rw [he] at hg'
        have hgs := Option.some.inj hg'
        exact S.hM g (by rw [← hgs]; exact S.bel.size)
    subst e'
    rcases hat with ⟨he, _⟩ | ⟨he, _⟩
    · exact hne (he.symm.trans hg')
    · rw [he] at hg'; have := Option.some.inj hg'; omega
  -- the new ledger
  let F' : Frz := match v'.ownBlock with
    | some g => rowF F g ((m + k) * size) (xs ++ news)
    | none => F
  have hFm : F'.m = F.m := by
    simp only [F']
    cases v'.ownBlock <;> rfl
  have hle : Le F F' := ⟨fun p u hp => by
    simp only [F']
    cases hob : v'.ownBlock with
    | none => exact hp
    | some g =>
      simp only [rowF_app]
      split
      · rename_i hc
        exact ((hsee p u hp).2 g hob hc.1).2
      · exact hp, fun b xs e => by rw [hFm]; exact e⟩
  have hsees : Sees F' w' := by
    refine ⟨fun p u hp => ?_, fun b ys e => ?_⟩
    rotate_left 1
    · rw [hFm] at e
      obtain ⟨ck, hb⟩ := S.sees.m b ys e
      refine ⟨ck, (hblk b (map_lt S.sees e) fun hrow => ?_).trans hb⟩
      rcases hv.2 with ⟨rfl, _⟩ | ⟨g, cap, cur, rfl, _, hgg, _⟩
      · simp [Value.ownBlock] at hrow
      · simp only [Value.ownBlock, Option.some.injEq] at hrow
        subst hrow
        rw [hgg] at hb; cases hb
    simp only [F'] at hp
    cases hob : v'.ownBlock with
    | none => rw [hob] at hp; exact (hsee p u hp).1
    | some g =>
      rw [hob] at hp
      simp only [rowF_app] at hp
      split at hp
      · rename_i hc
        have := hcells g hob p.off u hp
        have hp' : (⟨g, p.off, none⟩ : Addr) = p := by
          obtain ⟨h1, h2, _⟩ := hc
          cases p; simp only at h1 h2; subst h1 h2; rfl
        rwa [hp'] at this
      · exact (hsee p u hp).1
  have hof : ∀ p u, F' p = some u → F p = some u ∨ v'.ownBlock = some p.block := fun p u hp => by
    simp only [F'] at hp
    cases hob : v'.ownBlock with
    | none => rw [hob] at hp; exact .inl hp
    | some g =>
      rw [hob] at hp
      simp only [rowF_app] at hp
      split at hp
      · rename_i hc; right; rw [hc.1]
      · exact .inl hp
  have hbel : BelM M w w' := ⟨hg.os, hg.tape, hg.output, hg.size, fun q hqs hq => hblk q hqs (fun e' => hq (hM q e'))⟩
  refine ⟨F', hle, ?_, ?_, ?_, ?_, ?_⟩
  · refine { n := S.n, df := S.df, sees := hsees, lay := S.lay, le := S.le.trans hle, new := ?_, newm := fun b xs e => S.newm b xs (by rw [← hFm]; exact e), bel := S.bel.trans hbel, hM := S.hM, tm := ?_, wf := S.wf, hp := ?_, nn := S.nn, z := S.z, inj := S.inj, ow := ?_, od := S.od }
    · intro p u hp
      rcases hof p u hp with hp | hp
      · exact S.new p u hp
      · exact .inr (hnew _ hp).1.1
    · intro i tv e'
      obtain ⟨x, h1, h2⟩ := S.tm i tv e'
      exact ⟨x, h1, h2.mono hle⟩
    · intro id b hb
      obtain ⟨h1, h2, h3⟩ := S.hp id b hb
      refine ⟨?_, h2, Nat.lt_of_lt_of_le h3 hg.size⟩
      have hne := hloc id b hb
      have hkeep := hblk (ρ id) h3 hne
      cases b with
      | var cs =>
        obtain ⟨ys, ty, e1, e2, e3, e4, e5⟩ := h1
        refine ⟨ys, ty, hkeep.trans e1, e2, e3, fun j c x q1 q2 => (e4 j c x q1 q2).mono hle, fun p u hp => ?_⟩
        rcases hof p u hp with hp | hp
        · exact e5 p u hp
        · exact (hnew _ hp).2 _ h3 hne
      | con cs =>
        obtain ⟨q, e1, e2, e3⟩ := h1
        exact ⟨q, e1, fun j c hj => hle _ _ (e2 j c hj), fun j c hj => (e3 j c hj).mono hle⟩
      | map es =>
        obtain ⟨ys, ck, e1, e0, e2, e3⟩ := h1
        exact ⟨ys, ck, hkeep.trans e1, by rw [hFm]; exact e0, e2, fun j k' v' x q1 q2 => ⟨((e3 j k' v' x q1 q2).1).mono hle, ((e3 j k' v' x q1 q2).2).mono hle⟩⟩
    · intro j e' c hj
      obtain ⟨u, h1, ⟨m', ys, h2, h3⟩, h4⟩ := S.ow j e' c hj
      by_cases hemp : c = []
      · subst hemp
        exact ⟨.slice none 0 0, by simp, ⟨0, [], World.ownsRow_nil _ _ _ _, fun g hg' => by simp [Value.ownBlock] at hg'⟩, fun id k' _ => by simp [Value.ownBlock]⟩
      · obtain ⟨i, hi⟩ := List.exists_mem_of_ne_nil c hemp
        have hdis := fun g => hoth j e' c hj i hi u g (h1 i hi)
        refine ⟨u, h1, ⟨m', ys, ?_, fun g hg' => ⟨(h3 g hg').1, ?_⟩⟩, h4⟩
        · refine h2.kept (row := v.ownBlock) hg ?_
          cases hu : u.ownBlock with
          | none => exact .inl rfl
          | some g =>
            right
            intro e''
            exact hdis g e''.symm hu
        · intro p x hp hpg
          rcases hof p x hp with hp | hp
          · exact (h3 g hg').2 p x hp hpg
          · exfalso
            subst hpg
            have hgl := (h2.lt _ hg').2
            exact (hnew _ hp).2 p.block hgl (fun e'' => hdis _ e'' hg') rfl
  · refine ⟨m + k, xs ++ news, hown, fun g hg' => ⟨(hnew g hg').1.1, fun p u hp hpg => ?_⟩⟩
    simp only [F'] at hp
    rw [hg'] at hp
    simp only [rowF_app] at hp
    split at hp
    · rename_i hc; exact hc.2.2
    · exact ((hsee p u hp).2 g hg' hpg).1
  · intro id b hb e'
    exact (hnew _ e').2 _ (S.hp id b hb).2.2 (hloc id b hb) rfl
  · intro j e' c hj i hi u g hu hg' hug
    obtain ⟨u', h1, ⟨m', ys, h2, h3⟩, h4⟩ := S.ow j e' c hj
    have : u' = u := by have := h1 i hi; rw [hu] at this; exact (Option.some.inj this).symm
    subst this
    have hgl := (h2.lt _ hug).2
    exact (hnew _ hg').2 g hgl (fun e'' => hoth j e' c hj i hi u' g hu e'' hug) rfl
  · intro g hg' j u hu
    have hj : j < (m + k) * size := by
      rw [← hlen]
      exact (List.getElem?_eq_some_iff.1 hu).1
    simp only [F']
    rw [hg']
    simp [rowF, hj, hu]
end Go.Ab
