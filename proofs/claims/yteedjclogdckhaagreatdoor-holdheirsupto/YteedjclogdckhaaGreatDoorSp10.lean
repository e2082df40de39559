/-
  What the document says of holds, in plain Lean; and of chains of offices.
-/
import Derived.Test.YteedjclogdckhaaGreatDoorSp9
namespace Go.Arc
open Go.Ab

/-! chains of offices -/
/-- the office that comes behind on a day -/
def nextO (l : List Ofc) (d : Int) (o : Ofc) : Option Ofc := if inS o.frm o.til d = true then none else match o.nxt with
  | [] => none
  | x :: _ => lookO l x
def chainF (l : List Ofc) (d : Int) : Nat → Ofc → List Int
  | 0, o => [o.id]
  | n + 1, o => match nextO l d o with
    | none => [o.id]
    | some q => o.id :: chainF l d n q
def chain (l : List Ofc) (n d : Int) : List Int := if goodO l = false then [] else match lookO l n with
  | none => []
  | some o => chainF l d 1048577 o
theorem goodO_all {l : List Ofc} (h : goodO l = true) : l.length ≤ 32 ∧ ∀ i, i < l.length → faultO l i = 0 := by
  have h0 : (checkO l).2 = 0 := by simpa [goodO] using h
  obtain ⟨h1, h2⟩ := chk_zero h0
  exact ⟨by omega, h2⟩
theorem faultO_zero {l : List Ofc} {i : Nat} {o : Ofc} (ho : l[i]? = some o) (h : faultO l i = 0) : ¬ badO o ∧ name o.name = true ∧ succErr l o = 0 ∧ ∀ q, i ≠ 0 → l[i - 1]? = some q → q.id < o.id := by
  by_cases h1 : badO o
  · rw [faultO_2 ho h1] at h; cases h
  cases hn : name o.name
  · rw [faultO_4 ho h1 hn] at h; cases h
  by_cases h0 : i = 0
  · subst h0
    rw [faultO_s0 ho h1 hn] at h
    exact ⟨h1, rfl, h, fun q hne => absurd rfl hne⟩
  · have hlt := (List.getElem?_eq_some_iff.1 ho).1
    obtain ⟨q, hq, -, -⟩ := drop_at (l := l) (k := i - 1) (by omega)
    by_cases hle : o.id ≤ q.id
    · rw [faultO_5 ho h1 hn h0 hq hle] at h; cases h
    · rw [faultO_s ho h1 hn h0 hq hle] at h
      refine ⟨h1, rfl, h, fun q' _ hq' => ?_⟩
      rw [hq] at hq'; cases hq'
      omega
theorem succErr_zero {l : List Ofc} {o : Ofc} (h : succErr l o = 0) : ∀ n ∈ o.nxt, ∃ q, lookO l n = some q ∧ q.frm = o.til := by
  unfold succErr at h
  split at h
  · cases h
  split at h
  · cases h
  split at h
  · cases h
  rename_i h1 h2 h3
  intro n hn
  have h2' : (o.nxt.any fun n => (lookO l n).isNone) = false := by simpa using h2
  have h3' : (o.nxt.any fun n => !decide (frmO l n = o.til)) = false := by simpa using h3
  have g2 := List.any_eq_false.1 h2' n hn
  have g3 := List.any_eq_false.1 h3' n hn
  cases e : lookO l n with
  | none => rw [e] at g2; simp at g2
  | some q =>
    refine ⟨q, rfl, ?_⟩
    have : frmO l n = q.frm := by unfold frmO; rw [e]
    rw [this] at g3
    simpa using g3
theorem look_mem {l : List Ofc} {n : Int} {o : Ofc} (h : lookO l n = some o) : ∃ i : Nat, l[i]? = some o := List.getElem?_of_mem (List.mem_of_find?_eq_some h)
theorem goodO_look {l : List Ofc} (h : goodO l = true) {n : Int} {o : Ofc} (ho : lookO l n = some o) : 0 ≤ o.frm ∧ o.frm < o.til ∧ o.til ≤ 1048576 ∧ ∀ n ∈ o.nxt, ∃ q, lookO l n = some q ∧ q.frm = o.til := by
  obtain ⟨i, hi⟩ := look_mem ho
  have hlt := (List.getElem?_eq_some_iff.1 hi).1
  obtain ⟨h1, -, h2, -⟩ := faultO_zero hi ((goodO_all h).2 i hlt)
  have hg : goodS o.frm o.til = true := by
    cases e : goodS o.frm o.til
    · exact absurd (.inr (.inr (.inl e))) h1
    · rfl
  simp [goodS] at hg
  exact ⟨hg.1, hg.2.1, hg.2.2, succErr_zero h2⟩
theorem chain_bad {l : List Ofc} {n d : Int} (h : goodO l = false) : chain l n d = [] := by unfold chain; rw [if_pos h]
theorem chain_none {l : List Ofc} {n d : Int} (h : lookO l n = none) : chain l n d = [] := by
  unfold chain
  split
  · rfl
  · rw [h]
theorem chain_some {l : List Ofc} {n d : Int} {o : Ofc} (h : goodO l = true) (ho : lookO l n = some o) : chain l n d = chainF l d 1048577 o := by
  unfold chain; rw [if_neg (by simp [h]), ho]
theorem chainF_end {l : List Ofc} {d : Int} {o : Ofc} (n : Nat) (h : nextO l d o = none) : chainF l d n o = [o.id] := by
  cases n with
  | zero => rfl
  | succ n => simp only [chainF, h]
theorem chainF_next {l : List Ofc} {d : Int} {o q : Ofc} (n : Nat) (h : nextO l d o = some q) : chainF l d (n + 1) o = o.id :: chainF l d n q := by simp only [chainF, h]
theorem nextO_in {l : List Ofc} {d : Int} {o : Ofc} (h : inS o.frm o.til d = true) : nextO l d o = none := by unfold nextO; rw [if_pos h]
theorem nextO_nil {l : List Ofc} {d : Int} {o : Ofc} (h : o.nxt = []) : nextO l d o = none := by unfold nextO; rw [h]; split <;> rfl
theorem nextO_cons {l : List Ofc} {d : Int} {o : Ofc} {x : Int} {r : List Int} (h : inS o.frm o.til d = false) (h' : o.nxt = x :: r) : nextO l d o = lookO l x := by
  unfold nextO; rw [if_neg (by simp [h]), h']
theorem chainF_len (l : List Ofc) (d : Int) : ∀ (n : Nat) (o : Ofc), (chainF l d n o).length ≤ n + 1
  | 0, _ => by simp [chainF]
  | n + 1, o => by
    simp only [chainF]
    split
    · simp
    · have := chainF_len l d n ‹_›
      simp only [List.length_cons]; omega

/-! holds -/
structure Hld where
  id : Int
  kind : Int
  obj : Int
  cls : Str
  why : Str
  frm : Int
  til : Int
  deriving DecidableEq
abbrev Hld.cs (h : Hld) : List V := [vi h.id, vi h.kind, vi h.obj, .str h.cls, .str h.why, vi h.frm, vi h.til]
abbrev hlds (l : List Hld) : V := .slice 7 (l.map Hld.cs)
def Hld.Fit (h : Hld) : Prop := h.cls.length ≤ 1048576 ∧ h.why.length ≤ 1048576
def FitsH (l : List Hld) : Prop := l.length ≤ 1048576 ∧ ∀ h ∈ l, h.Fit

def idB (n : Int) : Bool := decide (1 ≤ n ∧ n ≤ 1073741824)
def ofErr (h : Hld) : Int := if h.kind ≠ 3 then (if idB h.obj = false ∨ h.cls ≠ [] then 1 else 0) else if h.obj ≠ 0 then 1 else if (parse h.cls).isNone = true then 3 else 0
def badH (h : Hld) : Prop := idB h.id = false ∨ h.kind < 1 ∨ 3 < h.kind ∨ goodS h.frm h.til = false
instance (h : Hld) : Decidable (badH h) := inferInstanceAs (Decidable (_ ∨ _))
def prevH (l : List Hld) (i : Nat) (h : Hld) : Bool := match (if i = 0 then none else l[i - 1]?) with | some q => decide (h.id ≤ q.id) | none => false
def faultH (l : List Hld) (i : Nat) : Int := match l[i]? with
  | none => 0
  | some h => if badH h then 2 else if prevH l i h = true then 5 else if ofErr h ≠ 0 then ofErr h else if name h.why = false then 4 else 0
def checkH (l : List Hld) : Int × Int := chk 64 l.length (faultH l)
def goodH (l : List Hld) : Bool := (checkH l).2 == 0
def kindB (os : List Ofc) (ps : List Plan) (h : Hld) (f : Fil) (d : Int) : Bool :=
  if h.kind = 1 then decide (h.obj = f.id) else if h.kind = 2 then (chain os f.ofc d).any (fun y => decide (h.obj = y)) else
  if h.kind = 3 then decide ((classR ps f d).2 = 0) && within (classR ps f d).1 h.cls else false
def covers (os : List Ofc) (ps : List Plan) (h : Hld) (f : Fil) (d : Int) : Bool := inS h.frm h.til d && kindB os ps h f d
def holding (os : List Ofc) (ps : List Plan) (l : List Hld) (f : Fil) (d : Int) : List Int := (l.filter fun h => covers os ps h f d).map (·.id)
def covered (os : List Ofc) (ps : List Plan) (h : Hld) (l : List Fil) (d : Int) : List Int := (l.filter fun f => covers os ps h f d).map (·.id)
def isIdH (n : Int) (h : Hld) : Bool := decide (h.id = n)
def findH (l : List Hld) (n : Int) : Int := ix (isIdH n) l
/-- the list in which the hold at i ends on a day -/
def cutH (l : List Hld) (i : Nat) (d : Int) : List Hld := match l[i]? with
  | some h => l.set i { h with til := d }
  | none => l
def relE (l : List Hld) (n d : Int) : Int := if goodH l = false then 1 else if findH l n < 0 then 7 else match l[(findH l n).toNat]? with
  | some h => if d ≤ h.frm ∨ h.til < d then 2 else 0
  | none => 0
def relL (l : List Hld) (n d : Int) : List Hld := if relE l n d = 0 then cutH l (findH l n).toNat d else []
end Go.Arc
