/-
  Files that get one more note, or are closed, in plain Lean: what the document says of it, and laws.
-/
import Derived.Test.YtbofgklhjjfbkaaGreatDoorSp9
namespace Go.Arc
open Go.Ab

def moreN (f : Fil) (n : Note) : Fil := { f with nts := f.nts ++ [n] }
def shutF (f : Fil) (d : Int) : Fil := { f with cld := d }
/-- is a note recorded ahead of the last one? -/
def lateN (f : Fil) (n : Note) : Bool := match (if f.nts.length = 0 then none else f.nts[f.nts.length - 1]?) with | some x => decide (n.rcd < x.rcd) | none => false
def addE (f : Fil) (n : Note) : Int := if 16 ≤ f.nts.length then 12 else if freeN n.name = false then 4 else if rightN f n = false then 2 else if lateN f n = true then 5 else 0
def shutE (f : Fil) (d : Int) : Int := if f.cld ≠ 1048576 then 11 else if dayB d f.opn = false then 2 else 0

theorem faultF_zero {os : List Ofc} {ps : List Plan} {l : List Fil} {i : Nat} {f : Fil} (hi : l[i]? = some f) (h : faultF os ps l i = 0) : ¬ badF f ∧ prevF l i f = false ∧ name f.title = true ∧ thereO os f.ofc f.opn = true ∧ noClass ps f = false ∧ notesErr f = 0 := by
  by_cases h1 : badF f
  · rw [faultF_2 hi h1] at h; cases h
  rw [faultF_r hi h1] at h
  cases h2 : prevF l i f
  · rw [h2, if_neg (by simp)] at h
    cases h3 : name f.title
    · rw [h3, if_pos rfl] at h; cases h
    · rw [h3, if_neg (by simp)] at h
      cases h4 : thereO os f.ofc f.opn
      · rw [h4, if_pos rfl] at h; cases h
      · rw [h4, if_neg (by simp)] at h
        cases h5 : noClass ps f
        · rw [h5, if_neg (by simp)] at h
          exact ⟨h1, rfl, rfl, rfl, rfl, h⟩
        · rw [h5, if_pos rfl] at h; cases h
  · rw [h2, if_pos rfl] at h; cases h
theorem faultF_ok {os : List Ofc} {ps : List Plan} {l : List Fil} {i : Nat} {f : Fil} (hi : l[i]? = some f) (h1 : ¬ badF f) (h2 : prevF l i f = false) (h3 : name f.title = true) (h4 : thereO os f.ofc f.opn = true) (h5 : noClass ps f = false) (h6 : notesErr f = 0) : faultF os ps l i = 0 := by
  rw [faultF_r hi h1, h2, if_neg (by simp), h3, if_neg (by simp), h4, if_neg (by simp), h5, if_neg (by simp), h6]
/-- a list in which one file is another one with the same ID -/
theorem checkF_set {os : List Ofc} {ps : List Plan} {l : List Fil} {i : Nat} {f g : Fil} (hi : l[i]? = some f) (hid : g.id = f.id) (hz : (checkF os ps l).2 = 0)
    (hg : ¬ badF f → name f.title = true → thereO os f.ofc f.opn = true → noClass ps f = false → notesErr f = 0 → ¬ badF g ∧ name g.title = true ∧ thereO os g.ofc g.opn = true ∧ noClass ps g = false ∧ notesErr g = 0) : checkF os ps (l.set i g) = (-1, 0) := by
  have hil := (List.getElem?_eq_some_iff.1 hi).1
  unfold checkF at hz ⊢
  split at hz
  · cases hz
  rename_i hgo
  rw [if_neg hgo]
  obtain ⟨hlen, hall⟩ := chk_zero hz
  refine chk_ok (by rw [List.length_set]; exact hlen) fun j hj => ?_
  rw [List.length_set] at hj
  have hget : ∀ k, (l.set i g)[k]? = if k = i then some g else l[k]? := fun k => by
    rw [List.getElem?_set]
    by_cases e : i = k
    · subst e; simp [hil]
    · rw [if_neg e, if_neg (fun e' => e e'.symm)]
  have hprev : ∀ q : Fil, prevF (l.set i g) j q = prevF l j q := fun q => by
    unfold prevF
    by_cases h0 : j = 0
    · rw [if_pos h0, if_pos h0]
    · rw [if_neg h0, if_neg h0, hget]
      by_cases e : j - 1 = i
      · rw [if_pos e, e, hi]; simp only [hid]
      · rw [if_neg e]
  have hpid : ∀ q q' : Fil, q.id = q'.id → prevF l j q = prevF l j q' := fun q q' e => by unfold prevF; rw [e]
  by_cases e : j = i
  · subst e
    obtain ⟨g1, g2, g3, g4, g5, g6⟩ := faultF_zero hi (hall j hil)
    obtain ⟨k1, k3, k4, k5, k6⟩ := hg g1 g3 g4 g5 g6
    exact faultF_ok (by rw [hget, if_pos rfl]) k1 (by rw [hprev, hpid g f hid]; exact g2) k3 k4 k5 k6
  · have hlj : l[j]? = some l[j] := List.getElem?_eq_getElem hj
    obtain ⟨g1, g2, g3, g4, g5, g6⟩ := faultF_zero hlj (hall j hj)
    exact faultF_ok (f := l[j]) (by rw [hget, if_neg e]; exact hlj) g1 (by rw [hprev]; exact g2) g3 g4 g5 g6

theorem notesErr_zero {f : Fil} (h : notesErr f = 0) : ¬ 16 < f.nts.length ∧ (f.nts.any fun n => !freeN n.name) = false ∧ (f.nts.any fun n => !rightN f n) = false ∧ unsorted f.nts = false := by
  by_cases h1 : 16 < f.nts.length
  · rw [notesErr_8 h1] at h; cases h
  cases h2 : f.nts.any fun n => !freeN n.name
  · cases h3 : f.nts.any fun n => !rightN f n
    · rw [notesErr_s h1 h2 h3] at h
      cases h4 : unsorted f.nts
      · exact ⟨h1, rfl, rfl, rfl⟩
      · rw [h4, if_pos rfl] at h; cases h
    · rw [notesErr_2 h1 h2 h3] at h; cases h
  · rw [notesErr_4 h1 h2] at h; cases h
theorem lateN_early (f : Fil) (n : Note) : early (f.nts ++ [n]) f.nts.length = lateN f n := by
  unfold early lateN
  have h1 : (f.nts ++ [n])[f.nts.length]? = some n := by simp
  rw [h1]
  by_cases h0 : f.nts.length = 0
  · rw [if_pos h0, if_pos h0]
  · rw [if_neg h0, if_neg h0]
    rw [List.getElem?_append_left (by omega)]
    cases f.nts[f.nts.length - 1]? <;> rfl
theorem notesErr_more {f : Fil} {n : Note} (h : notesErr f = 0) (ha : addE f n = 0) : notesErr (moreN f n) = 0 := by
  obtain ⟨h1, h2, h3, h4⟩ := notesErr_zero h
  unfold addE at ha
  split at ha
  · cases ha
  split at ha
  · cases ha
  split at ha
  · cases ha
  split at ha
  · cases ha
  rename_i a1 a2 a3 a4
  have hr : ∀ x, rightN (moreN f n) x = rightN f x := fun _ => rfl
  have e1 : (moreN f n).nts = f.nts ++ [n] := rfl
  have e2 : ((moreN f n).nts.any fun n => !freeN n.name) = false := by
    rw [e1, List.any_append, h2]
    simpa using a2
  have e3 : ((moreN f n).nts.any fun x => !rightN (moreN f n) x) = false := by
    simp only [hr]
    rw [e1, List.any_append, h3]
    simpa using a3
  have e0 : ¬ 16 < (moreN f n).nts.length := by rw [e1]; simp; omega
  rw [notesErr_s e0 e2 e3, if_neg]
  rw [unsorted_end]
  · simp
  intro j hj
  rw [e1] at hj ⊢
  rw [List.length_append, List.length_singleton] at hj
  by_cases hjl : j = f.nts.length
  · subst hjl
    rw [lateN_early]
    simpa using a4
  · have hjs : early f.nts j = false := by
      cases he : early f.nts j
      · rfl
      · rw [unsorted_at (by omega) he] at h4; cases h4
    rw [← hjs]
    unfold early
    have q1 : (f.nts ++ [n])[j]? = f.nts[j]? := List.getElem?_append_left (by omega)
    have q2 : (f.nts ++ [n])[j - 1]? = f.nts[j - 1]? := List.getElem?_append_left (by omega)
    rw [q1, q2]
theorem check_more {os : List Ofc} {ps : List Plan} {l : List Fil} {i : Nat} {f : Fil} {n : Note} (hi : l[i]? = some f) (hz : (checkF os ps l).2 = 0) (ha : addE f n = 0) : checkF os ps (l.set i (moreN f n)) = (-1, 0) :=
  checkF_set hi rfl hz fun h1 h2 h3 h4 h5 => ⟨h1, h2, h3, h4, notesErr_more h5 ha⟩
theorem check_shut {os : List Ofc} {ps : List Plan} {l : List Fil} {i : Nat} {f : Fil} {d : Int} (hi : l[i]? = some f) (hz : (checkF os ps l).2 = 0) (ha : shutE f d = 0) : checkF os ps (l.set i (shutF f d)) = (-1, 0) := by
  have hd : dayB d f.opn = true := by
    unfold shutE at ha
    split at ha
    · cases ha
    split at ha
    · cases ha
    · rename_i h; simpa using h
  refine checkF_set hi rfl hz fun h1 h2 h3 h4 h5 => ⟨fun hb => ?_, h2, h3, h4, h5⟩
  rcases hb with hb | hb | hb | ⟨hb, -⟩ | hb | hb
  · exact h1 (.inl hb)
  · exact h1 (.inr (.inl hb))
  · exact h1 (.inr (.inr (.inl hb)))
  · have : dayB d f.opn = false := hb
    rw [hd] at this; cases this
  · exact h1 (.inr (.inr (.inr (.inr (.inl hb)))))
  · exact h1 (.inr (.inr (.inr (.inr (.inr hb)))))

/-! the days before -/
theorem trig_more {f : Fil} {n : Note} (s : Str) {d : Int} (h : d < n.rcd) : trig (moreN f n) s d = trig f s d := by
  have hk : known (moreN f n) d = known f d := by
    unfold known moreN
    rw [List.filter_append]
    have : [n].filter (isKnown d) = [] := by simp [isKnown]; omega
    rw [this, List.append_nil]
  unfold trig best own
  rw [hk]
  rfl
theorem shutE_zero {f : Fil} {d : Int} (h : shutE f d = 0) : f.cld = 1048576 ∧ f.opn ≤ d ∧ d ≤ 1048575 := by
  unfold shutE at h
  split at h
  · cases h
  split at h
  · cases h
  rename_i h1 h2
  simp only [dayB, Bool.not_eq_false, decide_eq_true_eq] at h2
  exact ⟨by simpa using h1, h2⟩
theorem trig_shut {f : Fil} {d : Int} (s : Str) {b : Int} (h : b < d) (ha : shutE f d = 0) : trig (shutF f d) s b = trig f s b := by
  obtain ⟨h1, h2, h3⟩ := shutE_zero ha
  have e : onD (shutF f d).cld b = onD f.cld b := by
    unfold onD
    rw [if_pos (show b < (shutF f d).cld from h), if_pos (by omega)]
  unfold trig
  rw [e]
  rfl
theorem state_shut {f : Fil} {d : Int} (ha : shutE f d = 0) : state (shutF f d) d = 2 := by
  obtain ⟨h1, h2, h3⟩ := shutE_zero ha
  show (if d < f.opn then (0 : Int) else if d < d then 1 else 2) = 2
  rw [if_neg (by omega), if_neg (by omega)]
end Go.Arc
