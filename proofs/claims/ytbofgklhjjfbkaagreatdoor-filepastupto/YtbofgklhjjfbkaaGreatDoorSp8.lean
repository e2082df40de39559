/-
  What the document says of files, in plain Lean; and laws on it.
-/
import Derived.Test.YtbofgklhjjfbkaaGreatDoorPl1
namespace Go.Arc
open Go.Ab

structure Note where
  name : Str
  fst : Int
  lst : Int
  rcd : Int
  deriving DecidableEq
structure Fil where
  id : Int
  ofc : Int
  opn : Int
  cld : Int
  cls : Str
  title : Str
  pts : Int
  nts : List Note
abbrev Note.cs (n : Note) : List V := [.str n.name, vi n.fst, vi n.lst, vi n.rcd]
abbrev ntss (l : List Note) : V := .slice 4 (l.map Note.cs)
abbrev Fil.cs (f : Fil) : List V := [vi f.id, vi f.ofc, vi f.opn, vi f.cld, .str f.cls, .str f.title, vi f.pts, ntss f.nts]
abbrev fils (l : List Fil) : V := .slice 8 (l.map Fil.cs)
abbrev datg (a b : Int) : V := .agg [vi a, vi b]
def Note.Fit (n : Note) : Prop := n.name.length ≤ 1048576
def Fil.Fit (f : Fil) : Prop := f.cls.length ≤ 1048576 ∧ f.title.length ≤ 1048576 ∧ f.nts.length ≤ 1048576 ∧ ∀ n ∈ f.nts, n.Fit
def FitsF (l : List Fil) : Prop := l.length ≤ 1048576 ∧ ∀ f ∈ l, f.Fit

def isKnown (d : Int) (n : Note) : Bool := decide (n.rcd ≤ d)
def known (f : Fil) (d : Int) : List Note := f.nts.filter (isKnown d)
def gtN (a b : Note) : Bool := decide (b.lst < a.lst) || (decide (a.lst = b.lst) && decide (b.fst < a.fst))
def bestN : Option Note → List Note → Option Note
  | o, [] => o
  | none, n :: l => bestN (some n) l
  | some m, n :: l => bestN (some (if gtN n m = true then n else m)) l
def sOpened : Str := [111, 112, 101, 110, 101, 100]
def sClosed : Str := [99, 108, 111, 115, 101, 100]
def onD (d day : Int) : Option (Int × Int) := if day < d then none else some (d, d)
def named (s : Str) (n : Note) : Bool := n.name == s
def own (f : Fil) (s : Str) (d : Int) : List Note := (known f d).filter (named s)
def best (f : Fil) (s : Str) (d : Int) : Option Note := bestN none (own f s d)
def trig (f : Fil) (s : Str) (d : Int) : Option (Int × Int) :=
  if s = sOpened then onD f.opn d else if s = sClosed then onD f.cld d else (best f s d).map fun n => (n.fst, n.lst)
abbrev datgV (r : Option (Int × Int)) : V := match r with
  | some x => .tup [datg x.1 x.2, vb true]
  | none => .tup [datg 0 0, vb false]
abbrev trigV (f : Fil) (s : Str) (d : Int) : V := datgV (trig f s d)
def state (f : Fil) (d : Int) : Int := if d < f.opn then 0 else if d < f.cld then 1 else 2
def classR (l : List Plan) (f : Fil) (d : Int) : Str × Int :=
  if goodL l = false then ([], 1)
  else if idx l f.opn < 0 ∨ idx l d < idx l f.opn then ([], 24)
  else if has (pl l (idx l f.opn).toNat) f.cls = false then ([], 24)
  else (walkI l (idx l f.opn + 1) (idx l d + 1) f.cls, 0)
abbrev classV (l : List Plan) (f : Fil) (d : Int) : V := .tup [.str (classR l f d).1, vi (classR l f d).2]

/-! what is best -/
theorem bestN_mem : ∀ {l : List Note} {o : Option Note} {m : Note}, bestN o l = some m → o = some m ∨ m ∈ l
  | [], o, m, h => .inl (by simpa [bestN] using h)
  | n :: l, none, m, h => by
    rcases bestN_mem (l := l) (by simpa [bestN] using h) with h | h
    · cases h; exact .inr (by simp)
    · exact .inr (by simp [h])
  | n :: l, some k, m, h => by
    rcases bestN_mem (l := l) (by simpa only [bestN] using h) with h | h
    · split at h
      · cases h; exact .inr (by simp)
      · exact .inl h
    · exact .inr (by simp [h])
theorem gtN_le {a b : Note} (h : gtN a b = false) : a.lst ≤ b.lst := by
  simp only [gtN, Bool.or_eq_false_iff, decide_eq_false_iff_not] at h
  omega
theorem gtN_ge {a b : Note} (h : gtN a b = true) : b.lst ≤ a.lst := by
  simp only [gtN, Bool.or_eq_true, Bool.and_eq_true, decide_eq_true_eq] at h
  omega
theorem bestN_ge : ∀ {l : List Note} {o : Option Note} {m : Note}, bestN o l = some m → (∀ n, o = some n → n.lst ≤ m.lst) ∧ ∀ n ∈ l, n.lst ≤ m.lst
  | [], o, m, h => ⟨fun n e => by simp only [bestN] at h; rw [h] at e; cases e; exact Int.le_refl _, by simp⟩
  | n :: l, none, m, h => by
    obtain ⟨h1, h2⟩ := bestN_ge (l := l) (by simpa [bestN] using h)
    refine ⟨by simp, fun k hk => ?_⟩
    rcases List.mem_cons.1 hk with rfl | hk
    · exact h1 _ rfl
    · exact h2 k hk
  | n :: l, some k, m, h => by
    obtain ⟨h1, h2⟩ := bestN_ge (l := l) (by simpa only [bestN] using h)
    have h1 := h1 _ rfl
    have : n.lst ≤ m.lst ∧ k.lst ≤ m.lst := by
      cases hg : gtN n k
      · rw [hg, if_neg (by simp)] at h1
        have := gtN_le hg
        omega
      · rw [hg, if_pos rfl] at h1
        have := gtN_ge hg
        omega
    refine ⟨fun j e => by cases e; exact this.2, fun j hj => ?_⟩
    rcases List.mem_cons.1 hj with rfl | hj
    · exact this.1
    · exact h2 j hj
theorem bestN_some : ∀ (l : List Note) (m : Note), ∃ n, bestN (some m) l = some n
  | [], m => ⟨m, rfl⟩
  | n :: l, m => by simp only [bestN]; exact bestN_some l _
theorem bestN_ne {l : List Note} (h : l ≠ []) : ∃ n, bestN none l = some n := by
  cases l with
  | nil => exact absurd rfl h
  | cons n l => exact bestN_some l n
theorem bestN_none {l : List Note} (h : bestN none l = none) : l = [] := by
  cases l with
  | nil => rfl
  | cons n l => obtain ⟨m, e⟩ := bestN_some l n; simp only [bestN] at h; rw [e] at h; cases h

/-! a later day -/
theorem known_sub {f : Fil} {a b : Int} (h : a ≤ b) {n : Note} (hn : n ∈ known f a) : n ∈ known f b := by
  simp only [known, List.mem_filter, isKnown, decide_eq_true_eq] at hn ⊢
  exact ⟨hn.1, by omega⟩
theorem known_len {f : Fil} {a b : Int} (h : a ≤ b) : (known f a).length ≤ (known f b).length := by
  unfold known
  rw [← List.countP_eq_length_filter, ← List.countP_eq_length_filter]
  refine List.countP_mono_left fun n _ hn => ?_
  simp only [isKnown, decide_eq_true_eq] at hn ⊢
  omega
theorem own_sub {f : Fil} {s : Str} {a b : Int} (h : a ≤ b) {n : Note} (hn : n ∈ own f s a) : n ∈ own f s b := by
  simp only [own, List.mem_filter] at hn ⊢
  exact ⟨known_sub h hn.1, hn.2⟩
theorem trig_later {f : Fil} {s : Str} {a b : Int} (h : a ≤ b) {x : Int × Int} (hx : trig f s a = some x) : ∃ y, trig f s b = some y ∧ x.2 ≤ y.2 := by
  have on : ∀ d, onD d a = some x → ∃ y, onD d b = some y ∧ x.2 ≤ y.2 := fun d e => by
    unfold onD at e ⊢
    split at e
    · cases e
    · cases e
      exact ⟨_, by rw [if_neg (by omega)], Int.le_refl _⟩
  unfold trig at hx ⊢
  split
  · rename_i h1; rw [if_pos h1] at hx; exact on _ hx
  · rename_i h1
    rw [if_neg h1] at hx
    split
    · rename_i h2; rw [if_pos h2] at hx; exact on _ hx
    · rename_i h2
      rw [if_neg h2] at hx
      simp only [Option.map_eq_some_iff] at hx
      obtain ⟨m, hm, rfl⟩ := hx
      have hmem : m ∈ own f s a := (bestN_mem hm).resolve_left (by simp)
      have hb := own_sub h hmem
      obtain ⟨n, hn⟩ := bestN_ne (List.ne_nil_of_mem hb)
      refine ⟨(n.fst, n.lst), by simp [best, hn], (bestN_ge hn).2 m hb⟩
theorem state_later {f : Fil} {a b : Int} (h : a ≤ b) : state f a ≤ state f b := by
  unfold state
  split
  · split
    · exact Int.le_refl _
    · split <;> decide
  · rename_i h1
    have h2 : ¬ b < f.opn := by omega
    rw [if_neg h2]
    split
    · split <;> decide
    · rename_i h3
      have h4 : ¬ b < f.cld := by omega
      rw [if_neg h4]
      exact Int.le_refl _
/-! what a trigger of notes is -/
theorem trig_own {f : Fil} {s : Str} {d : Int} (h1 : s ≠ sOpened) (h2 : s ≠ sClosed) : trig f s d = (best f s d).map fun n => (n.fst, n.lst) := by
  unfold trig; rw [if_neg h1, if_neg h2]
end Go.Arc
