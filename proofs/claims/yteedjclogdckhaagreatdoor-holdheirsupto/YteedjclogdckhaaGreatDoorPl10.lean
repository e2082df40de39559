/-
  Plain laws of holds: no program in sight.
-/
import Derived.Test.YteedjclogdckhaaGreatDoorSp10
namespace Go.Arc
open Go.Ab

theorem within_parent {a b u : Str} (h : within a b = true) (hp : parent b = some u) : within a u = true := by
  obtain ⟨y, hy, hy2, -, hu⟩ := parent_some hp
  unfold within at h ⊢
  rw [hy] at h
  rw [hu]
  cases hx : parse a with
  | none => rw [hx] at h; cases h
  | some x =>
    rw [hx] at h
    simp only [Bool.and_eq_true, decide_eq_true_eq] at h ⊢
    obtain ⟨h1, h2⟩ := h
    have hl : (y.take (y.length - 1)).length = y.length - 1 := by simp
    refine ⟨by omega, ?_⟩
    rw [hl]
    have h3 : x.take (y.length - 1) = (x.take y.length).take (y.length - 1) := by
      rw [List.take_take, Nat.min_eq_left (by omega)]
    rw [h3, h2]

theorem goodH_all {l : List Hld} (h : goodH l = true) : l.length ≤ 64 ∧ ∀ i, i < l.length → faultH l i = 0 := by
  have h0 : (checkH l).2 = 0 := by simpa [goodH] using h
  obtain ⟨h1, h2⟩ := chk_zero h0
  exact ⟨by omega, h2⟩
theorem prevH_0 (l : List Hld) (h : Hld) : prevH l 0 h = false := by unfold prevH; rw [if_pos rfl]
theorem prevH_s {l : List Hld} {i : Nat} {h q : Hld} (h0 : i ≠ 0) (hq : l[i - 1]? = some q) : prevH l i h = decide (h.id ≤ q.id) := by unfold prevH; rw [if_neg h0, hq]
theorem faultH_zero {l : List Hld} {i : Nat} {h : Hld} (hi : l[i]? = some h) (hz : faultH l i = 0) : ¬ badH h ∧ prevH l i h = false ∧ ofErr h = 0 ∧ name h.why = true := by
  simp only [faultH, hi] at hz
  split at hz
  · cases hz
  split at hz
  · cases hz
  split at hz
  · rename_i h3; exact absurd hz h3
  split at hz
  · cases hz
  rename_i h1 h2 h3 h4
  exact ⟨h1, by simpa using h2, by simpa using h3, by simpa using h4⟩
theorem faultH_ok {l : List Hld} {i : Nat} {h : Hld} (hi : l[i]? = some h) (h1 : ¬ badH h) (h2 : prevH l i h = false) (h3 : ofErr h = 0) (h4 : name h.why = true) : faultH l i = 0 := by
  simp only [faultH, hi]
  rw [if_neg h1, if_neg (by simp [h2]), if_neg (by simp [h3]), if_neg (by simp [h4])]
theorem ids_step {l : List Hld} (h : goodH l = true) {i : Nat} {a b : Hld} (ha : l[i]? = some a) (hb : l[i + 1]? = some b) : a.id < b.id := by
  have hlt := (List.getElem?_eq_some_iff.1 hb).1
  obtain ⟨-, h2, -, -⟩ := faultH_zero hb ((goodH_all h).2 _ hlt)
  rw [prevH_s (by omega) (by simpa using ha)] at h2
  simpa using h2
theorem ids_lt {l : List Hld} (h : goodH l = true) : ∀ (k i : Nat) {a b : Hld}, l[i]? = some a → l[i + k + 1]? = some b → a.id < b.id
  | 0, i, a, b, ha, hb => ids_step h ha hb
  | k + 1, i, a, b, ha, hb => by
    have hlt := (List.getElem?_eq_some_iff.1 hb).1
    have hc : l[i + k + 1]? = some l[i + k + 1] := List.getElem?_eq_getElem (by omega)
    have := ids_lt h k i ha hc
    have := ids_step h hc (by rw [← hb]; congr 1)
    omega
theorem ids_inj {l : List Hld} (h : goodH l = true) {i j : Nat} {a b : Hld} (ha : l[i]? = some a) (hb : l[j]? = some b) (e : a.id = b.id) : i = j := by
  rcases Nat.lt_trichotomy i j with hlt | he | hgt
  · have := ids_lt h (j - i - 1) i ha (by rw [show i + (j - i - 1) + 1 = j by omega]; exact hb)
    omega
  · exact he
  · have := ids_lt h (i - j - 1) j hb (by rw [show j + (i - j - 1) + 1 = i by omega]; exact ha)
    omega

theorem holding_has {os : List Ofc} {ps : List Plan} {l : List Hld} {f : Fil} {d : Int} (h : goodH l = true) {a : Hld} (ha : a ∈ l) : (holding os ps l f d).any (fun y => decide (a.id = y)) = covers os ps a f d := by
  unfold holding
  cases hc : covers os ps a f d
  · rw [List.any_eq_false]
    intro y hy
    obtain ⟨b, hb, rfl⟩ := List.mem_map.1 hy
    obtain ⟨hb1, hb2⟩ := List.mem_filter.1 hb
    obtain ⟨i, hi⟩ := List.getElem?_of_mem ha
    obtain ⟨j, hj⟩ := List.getElem?_of_mem hb1
    simp only [decide_eq_true_eq]
    intro e
    have := ids_inj h hi hj e
    subst this
    rw [hi] at hj; cases hj
    rw [hc] at hb2; cases hb2
  · rw [List.any_eq_true]
    exact ⟨a.id, List.mem_map.2 ⟨a, List.mem_filter.2 ⟨ha, hc⟩, rfl⟩, by simp⟩

/-! a hold that ends -/
theorem cutH_eq {l : List Hld} {i : Nat} {h : Hld} (hi : l[i]? = some h) (d : Int) : cutH l i d = l.set i { h with til := d } := by unfold cutH; rw [hi]
theorem cutH_len (l : List Hld) (i : Nat) (d : Int) : (cutH l i d).length = l.length := by
  unfold cutH; split <;> simp
theorem cutH_good {l : List Hld} (hg : goodH l = true) {i : Nat} {h : Hld} (hi : l[i]? = some h) {d : Int} (h1 : h.frm < d) (h2 : d ≤ h.til) : checkH (cutH l i d) = (-1, 0) := by
  obtain ⟨hlen, hall⟩ := goodH_all hg
  have hil := (List.getElem?_eq_some_iff.1 hi).1
  unfold checkH
  refine chk_ok (by rw [cutH_len]; omega) fun j hj => ?_
  rw [cutH_len] at hj
  have hget : ∀ k, (cutH l i d)[k]? = if k = i then some { h with til := d } else l[k]? := fun k => by
    rw [cutH_eq hi, List.getElem?_set]
    by_cases e : i = k
    · subst e; simp [hil]
    · rw [if_neg e, if_neg (fun e' => e e'.symm)]
  have hprev : ∀ q : Hld, prevH (cutH l i d) j q = prevH l j q := fun q => by
    unfold prevH
    by_cases h0 : j = 0
    · rw [if_pos h0, if_pos h0]
    · rw [if_neg h0, if_neg h0, hget]
      by_cases e : j - 1 = i
      · rw [if_pos e, e, hi]
      · rw [if_neg e]
  by_cases e : j = i
  · subst e
    obtain ⟨g1, g2, g3, g4⟩ := faultH_zero hi (hall j hil)
    have hgs : goodS h.frm h.til = true := by
      cases hgs : goodS h.frm h.til
      · exact absurd (.inr (.inr (.inr hgs))) g1
      · rfl
    simp [goodS] at hgs
    refine faultH_ok (h := { h with til := d }) (by rw [hget, if_pos rfl]) (fun hb => ?_) (by rw [hprev]; exact g2) g3 g4
    rcases hb with hb | hb | hb | hb
    · exact g1 (.inl hb)
    · exact g1 (.inr (.inl hb))
    · exact g1 (.inr (.inr (.inl hb)))
    · simp [goodS] at hb; omega
  · have hlj : l[j]? = some l[j] := List.getElem?_eq_getElem hj
    obtain ⟨g1, g2, g3, g4⟩ := faultH_zero hlj (hall j hj)
    exact faultH_ok (h := l[j]) (by rw [hget, if_neg e]; exact hlj) g1 (by rw [hprev]; exact g2) g3 g4
theorem split_at {α : Type} {l : List α} {i : Nat} {x : α} (hi : l[i]? = some x) (y : α) : l = l.take i ++ x :: l.drop (i + 1) ∧ l.set i y = l.take i ++ y :: l.drop (i + 1) := by
  obtain ⟨hlt, rfl⟩ := List.getElem?_eq_some_iff.1 hi
  refine ⟨?_, ?_⟩
  · rw [← List.drop_eq_getElem_cons hlt, List.take_append_drop]
  · exact List.set_eq_take_append_cons_drop.trans (by rw [if_pos hlt])
theorem covers_til (os : List Ofc) (ps : List Plan) (h : Hld) (e : Int) (f : Fil) (d : Int) : covers os ps { h with til := e } f d = (inS h.frm e d && kindB os ps h f d) := rfl
theorem holding_cut {os : List Ofc} {ps : List Plan} {l : List Hld} {f : Fil} {d : Int} (hg : goodH l = true) {i : Nat} {h : Hld} (hi : l[i]? = some h) {e : Int} (_h1 : h.frm < e) (h2 : e ≤ h.til) :
    holding os ps (cutH l i e) f d = if d < e then holding os ps l f d else (holding os ps l f d).filter fun y => !decide (y = h.id) := by
  obtain ⟨s1, s2⟩ := split_at hi { h with til := e }
  have hA : ∀ a ∈ l.take i, a.id ≠ h.id := fun a ha he => by
    obtain ⟨j, hj⟩ := List.getElem?_of_mem ha
    rw [List.getElem?_take] at hj
    split at hj
    · rename_i hji
      have := ids_inj hg hj hi he
      omega
    · cases hj
  have hB : ∀ a ∈ l.drop (i + 1), a.id ≠ h.id := fun a ha he => by
    obtain ⟨j, hj⟩ := List.getElem?_of_mem ha
    rw [List.getElem?_drop] at hj
    have := ids_inj hg hj hi he
    omega
  have hf : ∀ m : List Hld, (∀ a ∈ m, a.id ≠ h.id) → (holding os ps m f d).filter (fun y => !decide (y = h.id)) = holding os ps m f d := fun m hm => by
    rw [List.filter_eq_self]
    intro y hy
    obtain ⟨b, hb, rfl⟩ := List.mem_map.1 hy
    have := hm b (List.mem_filter.1 hb).1
    simp [this]
  have happ : ∀ m n : List Hld, holding os ps (m ++ n) f d = holding os ps m f d ++ holding os ps n f d := fun m n => by simp [holding]
  have hcons : ∀ (a : Hld) (n : List Hld), holding os ps (a :: n) f d = (if covers os ps a f d = true then [a.id] else []) ++ holding os ps n f d := fun a n => by
    unfold holding
    rw [List.filter_cons]
    split <;> simp
  rw [cutH_eq hi, s2]
  conv => rhs; rw [s1]
  rw [happ, happ, hcons, hcons, covers_til]
  by_cases hd : d < e
  · rw [if_pos hd]
    have : inS h.frm e d = inS h.frm h.til d := by
      unfold inS
      by_cases g : h.frm ≤ d
      · simp [g, hd]; omega
      · simp [g]
    rw [this]; rfl
  · rw [if_neg hd, List.filter_append, List.filter_append, hf _ hA, hf _ hB]
    have : inS h.frm e d = false := by simp [inS]; omega
    rw [this]
    simp only [Bool.false_and, Bool.false_eq_true, if_false, List.nil_append]
    split <;> simp
end Go.Arc
