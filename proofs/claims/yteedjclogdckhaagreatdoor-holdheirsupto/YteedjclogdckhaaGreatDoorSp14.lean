/-
  What an office reaches: the offices that its successors lead to, in the order in which they are come to. No program in sight.
-/
import Derived.Test.YteedjclogdckhaaGreatDoorSp10
namespace Go.Arc
open Go.Ab

def nxtO (l : List Ofc) (n : Int) : List Int := match lookO l n with
  | some o => o.nxt
  | none => []
def hasI (out : List Int) (n : Int) : Bool := out.any fun y => decide (n = y)
theorem hasI_mem {out : List Int} {n : Int} : hasI out n = true ↔ n ∈ out := by simp [hasI]
/-- a visit: what has been come to behind it -/
def vis (l : List Ofc) : Nat → List Int → Int → List Int
  | 0, out, _ => out
  | f + 1, out, n => if hasI out n = true then out else (nxtO l n).foldl (vis l f) (out ++ [n])
/-- is f enough? -/
def deepO (l : List Ofc) (f : Nat) (n : Int) : Prop := ∃ o, lookO l n = some o ∧ 1048577 ≤ (f : Int) + o.frm
theorem deepO_pos {l : List Ofc} (hg : goodO l = true) {f : Nat} {n : Int} (h : deepO l f n) : 0 < f := by
  obtain ⟨o, ho, h1⟩ := h
  obtain ⟨-, h2, h3, -⟩ := goodO_look hg ho
  omega
theorem deepO_next {l : List Ofc} (hg : goodO l = true) {f : Nat} {n : Int} (h : deepO l (f + 1) n) : ∀ m ∈ nxtO l n, deepO l f m := by
  obtain ⟨o, ho, h1⟩ := h
  obtain ⟨-, h2, h3, h4⟩ := goodO_look hg ho
  intro m hm
  have hm' : m ∈ o.nxt := by unfold nxtO at hm; rw [ho] at hm; exact hm
  obtain ⟨q, hq, hf⟩ := h4 m hm'
  exact ⟨q, hq, by omega⟩
/-- what a visit keeps: no office twice, and all of them are known -/
def okR (l : List Ofc) (out : List Int) : Prop := out.Nodup ∧ ∀ x ∈ out, (lookO l x).isSome = true
theorem okR_nil (l : List Ofc) : okR l [] := ⟨List.nodup_nil, fun x hx => by cases hx⟩
theorem okR_snoc {l : List Ofc} {out : List Int} {n : Int} (h : okR l out) (hn : hasI out n = false) (hk : (lookO l n).isSome = true) : okR l (out ++ [n]) := by
  refine ⟨?_, fun x hx => ?_⟩
  · rw [List.nodup_append]
    refine ⟨h.1, by simp, fun a ha b hb => ?_⟩
    simp at hb
    subst hb
    intro he
    subst he
    rw [hasI_mem.2 ha] at hn
    cases hn
  · rcases List.mem_append.1 hx with hx | hx
    · exact h.2 x hx
    · simp at hx; subst hx; exact hk
theorem sub_len : ∀ {out ids : List Int}, out.Nodup → (∀ x ∈ out, x ∈ ids) → out.length ≤ ids.length
  | [], _, _, _ => Nat.zero_le _
  | x :: r, ids, hn, hs => by
    rw [List.nodup_cons] at hn
    have hx := hs x List.mem_cons_self
    have := sub_len (out := r) (ids := ids.erase x) hn.2 fun y hy => by
      refine (List.mem_erase_of_ne ?_).2 (hs y (List.mem_cons_of_mem _ hy))
      intro he
      subst he
      exact hn.1 hy
    rw [List.length_erase_of_mem hx] at this
    have := List.length_pos_of_mem hx
    simp only [List.length_cons]
    omega
theorem okR_len {l : List Ofc} {out : List Int} (h : okR l out) : out.length ≤ l.length := by
  have := sub_len (ids := l.map (·.id)) h.1 fun x hx => by
    obtain ⟨o, ho⟩ := Option.isSome_iff_exists.1 (h.2 x hx)
    have h1 := List.mem_of_find?_eq_some ho
    have h2 := List.find?_some ho
    simp only [isId, decide_eq_true_eq] at h2
    exact List.mem_map.2 ⟨o, h1, h2⟩
  simpa using this
theorem foldl_keeps {α β : Type} {P : α → Prop} {g : α → β → α} : ∀ {bs : List β} {a : α}, P a → (∀ a, P a → ∀ b ∈ bs, P (g a b)) → P (bs.foldl g a)
  | [], a, h, _ => h
  | b :: r, a, h, hs => by
    rw [List.foldl_cons]
    exact foldl_keeps (hs a h b List.mem_cons_self) fun a ha b hb => hs a ha b (List.mem_cons_of_mem _ hb)
theorem vis_ok {l : List Ofc} (hg : goodO l = true) : ∀ (f : Nat) (out : List Int) (n : Int), deepO l f n → okR l out → okR l (vis l f out n) ∧ (∀ x ∈ out, x ∈ vis l f out n) ∧ n ∈ vis l f out n
  | 0, out, n, hd, _ => absurd (deepO_pos hg hd) (Nat.lt_irrefl _)
  | f + 1, out, n, hd, ho => by
    unfold vis
    split
    · rename_i h
      exact ⟨ho, fun _ h => h, hasI_mem.1 h⟩
    · rename_i h
      have hk : (lookO l n).isSome = true := by obtain ⟨o, e, _⟩ := hd; rw [e]; rfl
      have := foldl_keeps (P := fun o2 => okR l o2 ∧ ∀ x ∈ out ++ [n], x ∈ o2) (g := vis l f) (bs := nxtO l n) (a := out ++ [n]) ⟨okR_snoc ho (by simpa using h) hk, fun _ h => h⟩ fun o2 h2 m hm => by
        obtain ⟨g1, g2, _⟩ := vis_ok hg f o2 m (deepO_next hg hd m hm) h2.1
        exact ⟨g1, fun x hx => g2 x (h2.2 x hx)⟩
      exact ⟨this.1, fun x hx => this.2 x (List.mem_append_left _ hx), this.2 n (by simp)⟩
/-- whoever is come to leads on: all that the successors of one lead to is there -/
theorem vis_closed {l : List Ofc} (hg : goodO l = true) : ∀ (f : Nat) (out : List Int) (n : Int), deepO l f n → okR l out → ∀ x ∈ vis l f out n, x ∉ out → ∀ m ∈ nxtO l x, m ∈ vis l f out n
  | 0, out, n, hd, _ => absurd (deepO_pos hg hd) (Nat.lt_irrefl _)
  | f + 1, out, n, hd, ho => by
    unfold vis
    split
    · intro x hx hn
      exact absurd hx hn
    · rename_i h
      have hk : (lookO l n).isSome = true := by obtain ⟨o, e, _⟩ := hd; rw [e]; rfl
      have hok := okR_snoc ho (by simpa using h) hk
      -- along the successors
      have key : ∀ (ms : List Int) (o2 : List Int), (∀ m ∈ ms, deepO l f m) → okR l o2 → okR l (ms.foldl (vis l f) o2) ∧ (∀ x ∈ o2, x ∈ ms.foldl (vis l f) o2) ∧ (∀ m ∈ ms, m ∈ ms.foldl (vis l f) o2) ∧
          ∀ x ∈ ms.foldl (vis l f) o2, x ∉ o2 → ∀ m ∈ nxtO l x, m ∈ ms.foldl (vis l f) o2 := by
        intro ms
        induction ms with
        | nil => intro o2 _ h2; exact ⟨h2, fun _ h => h, (fun m hm => nomatch hm), fun x hx hn => absurd hx hn⟩
        | cons m ms ih =>
          intro o2 hm h2
          obtain ⟨g1, g2, g3⟩ := vis_ok hg f o2 m (hm m List.mem_cons_self) h2
          have g4 := vis_closed hg f o2 m (hm m List.mem_cons_self) h2
          obtain ⟨i1, i2, i3, i4⟩ := ih (vis l f o2 m) (fun m' h' => hm m' (List.mem_cons_of_mem _ h')) g1
          rw [List.foldl_cons]
          refine ⟨i1, fun x hx => i2 x (g2 x hx), fun m' h' => ?_, fun x hx hn m' h' => ?_⟩
          · rcases List.mem_cons.1 h' with rfl | h'
            · exact i2 m' g3
            · exact i3 m' h'
          · by_cases hxv : x ∈ vis l f o2 m
            · exact i2 m' (g4 x hxv hn m' h')
            · exact i4 x hx hxv m' h'
      obtain ⟨k1, k2, k3, k4⟩ := key (nxtO l n) (out ++ [n]) (deepO_next hg hd) hok
      intro x hx hn m hm
      by_cases hxn : x = n
      · subst hxn; exact k3 m hm
      · exact k4 x hx (by simp [hn, hxn]) m hm
/-- all that an office reaches, ascending -/
def reach (l : List Ofc) (n : Int) : List Int := if goodO l = false then [] else match lookO l n with
  | none => []
  | some _ => (vis l 1048577 [] n).mergeSort fun x y => decide (x ≤ y)
end Go.Arc
