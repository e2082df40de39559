/-
  Plain laws: the order of codes; each class is a source of exactly one class of a later version.
-/
import Derived.Test.YtlhogcdjgimfpaaGreatDoorW13
namespace Go.Arc
open Go.Ab

theorem cmpL_self : ∀ x : List Nat, cmpL x x = 0
  | [] => rfl
  | a :: r => by simp [cmpL, cmpL_self r]
theorem cmpL_trans : ∀ (x y z : List Nat), cmpL x y < 0 → cmpL y z < 0 → cmpL x z < 0
  | [], [], _, h, _ => by simp [cmpL] at h
  | [], _ :: _, [], _, h => by simp [cmpL] at h
  | [], _ :: _, _ :: _, _, _ => by simp [cmpL]
  | _ :: _, [], _, h, _ => by simp [cmpL] at h
  | _ :: _, _ :: _, [], _, h => by simp [cmpL] at h
  | a :: r, b :: q, c :: s, h1, h2 => by
    simp only [cmpL] at h1 h2 ⊢
    split at h1
    · split at h2
      · rw [if_pos (by omega)]; decide
      · split at h2
        · cases h2
        · rw [if_pos (by omega)]; decide
    · split at h1
      · cases h1
      · split at h2
        · rw [if_pos (by omega)]; decide
        · split at h2
          · cases h2
          · rw [if_neg (by omega), if_neg (by omega)]
            exact cmpL_trans r q s h1 h2
theorem lt2_iff {a b : Str} : lt2 a b = true ↔ ∃ x y, parse a = some x ∧ parse b = some y ∧ cmpL x y < 0 := by
  unfold lt2 cmp
  constructor
  · intro h
    split at h
    · rename_i n hn
      split at hn
      · rename_i x y h1 h2
        cases hn
        exact ⟨x, y, h1, h2, by simpa using h⟩
      · cases hn
    · cases h
  · rintro ⟨x, y, h1, h2, h3⟩
    rw [h1, h2]; simpa using h3
theorem lt2_trans {a b c : Str} (h : lt2 a b = true) (k : lt2 b c = true) : lt2 a c = true := by
  obtain ⟨x, y, h1, h2, h3⟩ := lt2_iff.1 h
  obtain ⟨y', z, k1, k2, k3⟩ := lt2_iff.1 k
  rw [h2] at k1; cases k1
  exact lt2_iff.2 ⟨x, z, h1, k2, cmpL_trans x y z h3 k3⟩
theorem lt2_irr (a : Str) : lt2 a a = false := by
  cases h : lt2 a a
  · rfl
  · obtain ⟨x, y, h1, h2, h3⟩ := lt2_iff.1 h
    rw [h1] at h2; cases h2
    rw [cmpL_self] at h3; cases h3
theorem rising_all : ∀ {l : List Str}, rising l = true → l.Pairwise fun a b => lt2 a b = true
  | [], _ => .nil
  | [_], _ => by simp
  | a :: b :: r, h => by
    simp only [rising, Bool.and_eq_true] at h
    have ih := rising_all h.2
    refine List.pairwise_cons.2 ⟨fun c hc => ?_, ih⟩
    rcases List.mem_cons.1 hc with rfl | hc
    · exact h.1
    · exact lt2_trans h.1 ((List.pairwise_cons.1 ih).1 c hc)
theorem rising_nodup {l : List Str} (h : rising l = true) : l.Nodup :=
  (rising_all h).imp fun {a b} hab e => by subst e; rw [lt2_irr] at hab; cases hab

theorem nodup_inj {α : Type} {l : List α} (h : l.Nodup) {i j : Nat} {x : α} (hi : l[i]? = some x) (hj : l[j]? = some x) : i = j :=
  (List.getElem?_inj (List.getElem?_eq_some_iff.1 hi).1 h).1 (hi.trans hj.symm)
theorem nodup_len {α : Type} [BEq α] [LawfulBEq α] : ∀ {l m : List α}, l.Nodup → (∀ x ∈ l, x ∈ m) → l.length ≤ m.length
  | [], _, _, _ => Nat.zero_le _
  | a :: r, m, hn, hs => by
    obtain ⟨h1, h2⟩ := List.nodup_cons.1 hn
    have ham := hs a (by simp)
    have := nodup_len (m := m.erase a) h2 fun x hx => (List.mem_erase_of_ne (fun (e : x = a) => h1 (by rw [← e]; exact hx))).2 (hs x (by simp [hx]))
    rw [List.length_erase_of_mem ham] at this
    have := List.length_pos_of_mem ham
    simp only [List.length_cons]
    omega

/-! a map from strings to strings -/
def ents (es : List (Str × Str)) : List (V × V) := es.map fun p => (.str p.1, .str p.2)
theorem find_ents (k : Str) : ∀ es : List (Str × Str), findV (.str k) (ents es) = some ((es.lookup k).map .str)
  | [] => rfl
  | (a, b) :: r => by
    have ih := find_ents k r
    unfold ents at ih
    simp only [ents, List.map_cons, findV, keyEq, List.lookup]
    cases h : k == a
    · simp only; exact ih
    · rfl
theorem upsert_ents {k v : Str} : ∀ {es : List (Str × Str)}, es.lookup k = none → upsert (.str k) (.str v) (ents es) = some (ents (es ++ [(k, v)]))
  | [], _ => rfl
  | (a, b) :: r, h => by
    simp only [List.lookup] at h
    cases hk : k == a
    · rw [hk] at h
      have ih := upsert_ents (v := v) h
      unfold ents at ih
      simp only [ents, List.map_cons, List.cons_append, upsert, keyEq, hk, ih, Option.map_some]
    · rw [hk] at h; cases h
theorem lookup_none {es : List (Str × Str)} {k : Str} (h : k ∉ es.map (·.1)) : es.lookup k = none := by
  rw [List.lookup_eq_none_iff]
  intro p hp
  have : p.1 ≠ k := fun e => h (List.mem_map.2 ⟨p, hp, e⟩)
  simp only [bne_iff_ne, ne_eq]
  exact fun e => this e.symm
theorem lookup_mem : ∀ {es : List (Str × Str)} {k v : Str}, (es.map (·.1)).Nodup → (k, v) ∈ es → es.lookup k = some v
  | [], _, _, _, h => by cases h
  | (a, b) :: r, k, v, hn, h => by
    simp only [List.map_cons, List.nodup_cons] at hn
    simp only [List.lookup]
    rcases List.mem_cons.1 h with e | h
    · cases e; simp
    · have : k ≠ a := fun e => hn.1 (List.mem_map.2 ⟨(k, v), h, e⟩)
      rw [show (k == a) = false from beq_f this]
      exact lookup_mem hn.2 h

/-! sources -/
/-- what is noted behind some classes -/
def noted (l : List Plan) (f t : Int) (cs : List Cls) : List (Str × Str) := cs.flatMap fun c => (sourcesL l f t c.code).map fun x => (x, c.code)
theorem mem_noted {l : List Plan} {f t : Int} {cs : List Cls} {x c : Str} : (x, c) ∈ noted l f t cs ↔ ∃ d ∈ cs, d.code = c ∧ x ∈ sourcesL l f t c := by
  unfold noted
  rw [List.mem_flatMap]
  constructor
  · rintro ⟨d, hd, h⟩
    obtain ⟨y, hy, e⟩ := List.mem_map.1 h
    cases e
    exact ⟨d, hd, rfl, hy⟩
  · rintro ⟨d, hd, rfl, hx⟩
    exact ⟨d, hd, List.mem_map.2 ⟨x, hx, rfl⟩⟩
theorem src_walk {l : List Plan} {f t : Int} {c x : Str} (h : x ∈ sourcesL l f t c) : walkI l f t x = c ∧ x ∈ (pl l (f - 1).toNat).cls.map (·.code) := by
  unfold sourcesL at h
  split at h
  · cases h
  · obtain ⟨h1, h2⟩ := List.mem_filter.1 h
    exact ⟨by simpa using h2, h1⟩
theorem src_nodup {l : List Plan} {f t : Int} {c : Str} (h : ((pl l (f - 1).toNat).cls.map (·.code)).Nodup) : (sourcesL l f t c).Nodup := by
  unfold sourcesL
  split
  · exact List.nodup_nil
  · exact h.sublist List.filter_sublist
/-- a source of a class is no source of another one, and stands once -/
theorem not_noted {l : List Plan} {f t : Int} {cs : List Cls} {k j : Nat} {c : Cls} {x : Str} (hn : (cs.map (·.code)).Nodup) (hF : ((pl l (f - 1).toNat).cls.map (·.code)).Nodup) (hc : cs[k]? = some c) (hx : (sourcesL l f t c.code)[j]? = some x) :
    (noted l f t (cs.take k) ++ ((sourcesL l f t c.code).take j).map fun x => (x, c.code)).lookup x = none := by
  refine lookup_none fun h => ?_
  have hw := (src_walk (List.mem_of_getElem? hx)).1
  rw [List.map_append, List.mem_append] at h
  rcases h with h | h
  · obtain ⟨⟨y, d⟩, hy, e⟩ := List.mem_map.1 h
    simp only at e
    subst e
    obtain ⟨q, hq, rfl, hs⟩ := mem_noted.1 hy
    have := (src_walk hs).1
    rw [hw] at this
    obtain ⟨i, hi⟩ := List.mem_iff_getElem?.1 hq
    rw [List.getElem?_take] at hi
    split at hi
    · rename_i hik
      have e1 : (cs.map (·.code))[i]? = some q.code := by rw [List.getElem?_map, hi]; rfl
      have e2 : (cs.map (·.code))[k]? = some c.code := by rw [List.getElem?_map, hc]; rfl
      rw [← this] at e1
      have := nodup_inj hn e1 e2
      omega
    · cases hi
  · simp only [List.map_map, List.mem_map, Function.comp_apply] at h
    obtain ⟨y, hy, rfl⟩ := h
    obtain ⟨i, hi⟩ := List.mem_iff_getElem?.1 hy
    rw [List.getElem?_take] at hi
    split at hi
    · rename_i hij
      have := nodup_inj (src_nodup (t := t) (c := c.code) hF) hi hx
      omega
    · cases hi
theorem noted_succ {l : List Plan} {f t : Int} {cs : List Cls} {k : Nat} {c : Cls} (hc : cs[k]? = some c) : noted l f t (cs.take (k + 1)) = noted l f t (cs.take k) ++ (sourcesL l f t c.code).map fun x => (x, c.code) := by
  obtain ⟨hlt, rfl⟩ := List.getElem?_eq_some_iff.1 hc
  unfold noted
  rw [List.take_succ_eq_append_getElem hlt, List.flatMap_append]; simp

theorem nodup_noted {l : List Plan} {f t : Int} (hF : ((pl l (f - 1).toNat).cls.map (·.code)).Nodup) : ∀ {cs : List Cls}, (cs.map (·.code)).Nodup → ((noted l f t cs).map (·.1)).Nodup
  | [], _ => by simp [noted]
  | c :: r, hn => by
    simp only [List.map_cons, List.nodup_cons] at hn
    have ih := nodup_noted (t := t) hF hn.2
    have e : (noted l f t (c :: r)).map (·.1) = sourcesL l f t c.code ++ (noted l f t r).map (·.1) := by
      unfold noted; simp [Function.comp_def]
    rw [e, List.nodup_append]
    refine ⟨src_nodup hF, ih, fun x hx y hy e => ?_⟩
    subst e
    obtain ⟨⟨z, d⟩, hz, e⟩ := List.mem_map.1 hy
    simp only at e
    subst e
    obtain ⟨q, hq, rfl, hs⟩ := mem_noted.1 hz
    have h1 := (src_walk hx).1
    have h2 := (src_walk hs).1
    exact hn.1 (List.mem_map.2 ⟨q, hq, by rw [← h2, h1]⟩)
theorem code_at {p : Plan} {s : Str} : s ∈ p.cls.map (·.code) ↔ has p s = true := by
  rw [has_iff, List.mem_map]
/-- each class of the earlier version is noted with what it becomes -/
theorem noted_all {l : List Plan} {f t : Int} (hv : versErr l f t = 0) {x : Str} (hx : has (pl l (f - 1).toNat) x = true) : (x, walkI l f t x) ∈ noted l f t (pl l (t - 1).toNat).cls := by
  have hw := walkI_has hv hx
  obtain ⟨c, hc, he⟩ := has_iff.1 hw
  refine mem_noted.2 ⟨c, hc, he, ?_⟩
  rw [sourcesL_0 (sourcesE_0 hv hw)]
  exact List.mem_filter.2 ⟨code_at.2 hx, by simp⟩
theorem noted_len {l : List Plan} {f t : Int} (hv : versErr l f t = 0) (hF : ((pl l (f - 1).toNat).cls.map (·.code)).Nodup) (hG : ((pl l (t - 1).toNat).cls.map (·.code)).Nodup) :
    (noted l f t (pl l (t - 1).toNat).cls).length = (pl l (f - 1).toNat).cls.length := by
  have h1 := nodup_noted hF (t := t) hG
  have a1 : (noted l f t (pl l (t - 1).toNat).cls).length = ((noted l f t (pl l (t - 1).toNat).cls).map (·.1)).length := by simp
  have a2 : (pl l (f - 1).toNat).cls.length = ((pl l (f - 1).toNat).cls.map (·.code)).length := by simp
  rw [a1, a2]
  apply Nat.le_antisymm
  · refine nodup_len h1 fun x hx => ?_
    obtain ⟨⟨z, d⟩, hz, e⟩ := List.mem_map.1 hx
    simp only at e
    subst e
    obtain ⟨q, hq, rfl, hs⟩ := mem_noted.1 hz
    exact (src_walk hs).2
  · refine nodup_len hF fun x hx => ?_
    exact List.mem_map.2 ⟨(x, walkI l f t x), noted_all hv (code_at.1 hx), rfl⟩
theorem good_nodup {l : List Plan} (h : goodL l = true) {i : Nat} (hi : i < l.length) : ((pl l i).cls.map (·.code)).Nodup :=
  rising_nodup (clsErr_zero (good_at h hi).2.2).2.2.1
end Go.Arc
