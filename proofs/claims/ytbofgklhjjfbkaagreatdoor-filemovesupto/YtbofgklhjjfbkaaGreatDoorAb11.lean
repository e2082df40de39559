/-
  Regions that draw their order: the quiet operations in the text's order serve every order.
-/
import Derived.Test.YtbofgklhjjfbkaaGreatDoorAb10
namespace Go.Ab
open Go.RowKit
variable {P : Program} {T : Lay}

theorem capsV_congr {ρ ρ' : Operand → Option TV} {h : List (Nat × Blk)} : ∀ (l : List Operand), (∀ x ∈ l, ρ x = ρ' x) → capsV ρ h l = capsV ρ' h l
  | [], _ => rfl
  | x :: r, hh => by
    simp only [capsV]
    rw [hh x (by simp), capsV_congr r (fun y hy => hh y (by simp [hy]))]
theorem vsOf_congr {ρ ρ' : Operand → Option TV} : ∀ (l : List Operand), (∀ x ∈ l, ρ x = ρ' x) → vsOf ρ l = vsOf ρ' l
  | [], _ => rfl
  | x :: r, hh => by
    simp only [vsOf]
    rw [hh x (by simp), vsOf_congr r (fun y hy => hh y (by simp [hy]))]
theorem partsV_congr {ρ ρ' : Operand → Option TV} : ∀ (l : List (Nat × Operand)), (∀ x ∈ l, ρ x.2 = ρ' x.2) → partsV ρ l = partsV ρ' l
  | [], _ => rfl
  | (i, x) :: r, hh => by
    simp only [partsV]
    rw [hh (i, x) (by simp), partsV_congr r (fun y hy => hh y (by simp [hy]))]
theorem optV_congr {ρ ρ' : Operand → Option TV} (x : Option Operand) (hh : ∀ y, x = some y → ρ y = ρ' y) : optV ρ x = optV ρ' x := by
  cases x with
  | none => rfl
  | some y => simp only [optV, hh y rfl]

theorem evq_congr {ρ ρ' : Operand → Option TV} {h : List (Nat × Blk)} (op : Op) (hh : ∀ x ∈ op.operands, ρ x = ρ' x) : evq P ρ h op = evq P ρ' h op := by
  cases op <;> simp only [Op.operands] at hh <;> simp only [evq]
  case slice t x lo hi mx =>
    cases mx with
    | some m => rfl
    | none =>
      simp only
      rw [hh x (by simp), optV_congr lo (fun y e => hh y (by subst e; simp)), optV_congr hi (fun y e => hh y (by subst e; simp))]
  case makeFunc fn first cap =>
    cases fn <;> simp only
    rw [capsV_congr cap.toList (fun x hx => hh x (by simp; exact .inr (by simpa using hx)))]
  case call c =>
    cases hc : c.callee with
    | value f => rfl
    | invoke r m => rfl
    | builtin b =>
      cases b <;> simp only
      split
      · rename_i x t h1 h2
        have hx : x ∈ c.args.toList := by rw [h1]; simp
        rw [hh x (by simp [Call.operands, hc]; simpa using hx)]
      · rfl
  case unOp op t x =>
    cases op <;> simp only
    all_goals rw [hh x (by simp)]
  case lookup t x i ok => rw [hh x (by simp), hh i (by simp)]
  case pick c a b => rw [hh c (by simp), hh a (by simp), hh b (by simp)]
  case move x => rw [hh x (by simp)]
  case assign x => rw [hh x (by simp)]
  case load t x => rw [hh x (by simp)]
  case fieldAddr s x f => rw [hh x (by simp)]
  case field s x f => rw [hh x (by simp)]
  case indexAddr t x i => rw [hh x (by simp), hh i (by simp)]
  case index t x i => rw [hh x (by simp), hh i (by simp)]
  case binOp op t x y ty => rw [hh x (by simp), hh y (by simp)]
  case convert s d x => rw [hh x (by simp)]
  case extract x i => rw [hh x (by simp)]

theorem evb_congr {ρ ρ' : Operand → Option TV} (op : Op) (hh : ∀ x ∈ op.operands, ρ x = ρ' x) : evb P ρ op = evb P ρ' op := by
  cases op <;> simp only [Op.operands] at hh <;> simp only [evb]
  case build t parts => rw [partsV_congr parts.toList (fun x hx => hh x.2 (by simp; exact ⟨x.1, by simpa using hx⟩))]
  case buildSlice t len parts => rw [partsV_congr parts.toList (fun x hx => hh x.2 (by simp; exact ⟨x.1, by simpa using hx⟩))]

theorem Yields.congr {σ σ' : Sto} {h : List (Nat × Blk)} {o : Oper} {tv : TV} (hh : ∀ x ∈ o.op.operands, opv σ x = opv σ' x) (hy : Yields P T σ h o tv) : Yields P T σ' h o tv := by
  rcases hy with hy | ⟨v, hy, e⟩ | ⟨c, f, g, cap, vs, r, ho, hc, hf, hvs, hden, e⟩
  · exact .inl (by rw [← evq_congr o.op hh]; exact hy)
  · exact .inr (.inl ⟨v, by rw [← evb_congr o.op hh]; exact hy, e⟩)
  · refine .inr (.inr ⟨c, f, g, cap, vs, r, ho, hc, ?_, ?_, hden, e⟩)
    · rw [← hh f (by simp [ho, Op.operands, Call.operands, hc])]; exact hf
    · rw [← vsOf_congr c.args.toList (fun x hx => hh x (by simp [ho, Op.operands, Call.operands, hc]; exact .inr (by simpa using hx)))]; exact hvs

/-- the value of an operation's guard -/
def gdV (l : List Oper) (o : Oper) (σ : Sto) : Option Bool :=
  match o.guard with
  | none => some true
  | some (j, want) => match (l[j]?).bind (·.dst) with
    | none => none
    | some d => match σ d with
      | some (.v (.val (.bool b))) => some (b == want)
      | some .u => some false
      | _ => none

def YieldsG (P : Program) (T : Lay) (l : List Oper) (σ : Sto) (h : List (Nat × Blk)) (o : Oper) (tv : TV) : Prop :=
  (gdV l o σ = some true ∧ Yields P T σ h o tv) ∨ (gdV l o σ = some false ∧ tv = .u)

theorem opv_upd {σ : Sto} {d : Option Tmp} {tv : TV} {x : Operand} (hd : ∀ d', d = some d' → x ≠ .tmp d') : opv (upd σ d tv) x = opv σ x := by
  cases d with
  | none => rfl
  | some d =>
    cases x with
    | tmp i =>
      have : i ≠ d := fun e => hd d rfl (e ▸ rfl)
      simp [opv, upd, this]
    | _ => rfl

theorem YieldsG.upd {ops : Array Oper} {σ : Sto} {h : List (Nat × Blk)} {o : Oper} {tv : TV} {d : Option Tmp} {tv' : TV} (hd : ∀ d', d = some d' → d' ∉ o.looksAt ops) :
    YieldsG P T ops.toList (upd σ d tv') h o tv ↔ YieldsG P T ops.toList σ h o tv := by
  have hg : gdV ops.toList o (Go.Ab.upd σ d tv') = gdV ops.toList o σ := by
    unfold gdV
    cases hgd : o.guard with
    | none => rfl
    | some gw =>
      obtain ⟨j, want⟩ := gw
      simp only
      cases ht : (ops.toList[j]?).bind (·.dst) with
      | none => rfl
      | some t =>
        cases d with
        | none => rfl
        | some d =>
          have hne : t ≠ d := fun e => hd d rfl (by subst e; simp at ht; simp [Oper.looksAt, hgd, ht])
          simp [Go.Ab.upd, hne]
  have hop : ∀ x ∈ o.op.operands, opv (Go.Ab.upd σ d tv') x = opv σ x := fun x hx => opv_upd fun d' e1 e2 => hd d' e1 (by
    subst e2
    exact List.mem_append_left _ (List.mem_filterMap.2 ⟨.tmp d', by simpa using hx, rfl⟩))
  unfold YieldsG
  rw [hg]
  constructor
  · rintro (⟨h1, h2⟩ | h1)
    · exact .inl ⟨h1, h2.congr hop⟩
    · exact .inr h1
  · rintro (⟨h1, h2⟩ | h1)
    · exact .inl ⟨h1, h2.congr (fun x hx => (hop x hx).symm)⟩
    · exact .inr h1

theorem upd_comm (σ : Sto) {x y : Option Tmp} (v z : TV) (h : ∀ d, x = some d → y ≠ some d) : upd (upd σ x v) y z = upd (upd σ y z) x v := by
  cases x with
  | none => rfl
  | some d =>
    cases y with
    | none => rfl
    | some e =>
      have hne : e ≠ d := fun he => h d rfl (he ▸ rfl)
      funext i
      simp only [upd]
      by_cases h1 : i = e
      · subst h1; simp [hne]
      · simp [h1]

/-- in the text's order -/
def awQ (P : Program) (T : Lay) (l : List Oper) (h : List (Nat × Blk)) (Q : Sto → Prop) : List Oper → Sto → Prop
  | [], σ => Q σ
  | o :: rest, σ => ∃ tv, YieldsG P T l σ h o tv ∧ awQ P T l h Q rest (upd σ o.dst tv)

/-- in whatever order -/
def anyQ (P : Program) (T : Lay) (md : Region.Mode) (ops : Array Oper) (h : List (Nat × Blk)) (Q : Sto → Prop) : Nat → Array Bool → Sto → Prop
  | 0, listed, σ => Region.ready md ops listed = [] ∧ Q σ
  | fuel + 1, listed, σ => (Region.ready md ops listed = [] → Q σ) ∧
      ∀ i ∈ Region.ready md ops listed, ∀ o, ops[i]? = some o → ∃ tv, YieldsG P T ops.toList σ h o tv ∧ anyQ P T md ops h Q fuel (listed.setIfInBounds i true) (upd σ o.dst tv)

variable {md : Region.Mode} {ops : Array Oper} {h : List (Nat × Blk)} {Q : Sto → Prop}

theorem anyQ_first {i : Nat} {oi : Oper} {v : TV} (hi : ops[i]? = some oi) :
    ∀ (fuel : Nat) (listed : Array Bool) (σ : Sto),
      (∀ j oj, ops[j]? = some oj → j ≠ i → listed.getD j true = false → (∀ e ∈ oj.after, Region.binds md e = true → e.on ≠ i) → oi.apart ops oj = true) →
      i ∈ Region.ready md ops listed → YieldsG P T ops.toList σ h oi v →
      anyQ P T md ops h Q fuel (listed.setIfInBounds i true) (upd σ oi.dst v) → anyQ P T md ops h Q (fuel + 1) listed σ := by
  intro fuel
  induction fuel with
  | zero =>
    intro listed σ _ hr hy H
    refine ⟨fun h0 => (by rw [h0] at hr; cases hr), fun j hj oj hoj => ?_⟩
    by_cases hji : j = i
    · subst hji
      rw [hi] at hoj; cases hoj
      exact ⟨v, hy, H⟩
    · have := ready_mono hj hji
      rw [H.1] at this
      cases this
  | succ fuel ih =>
    intro listed σ hfree hr hy H
    refine ⟨fun h0 => (by rw [h0] at hr; cases hr), fun j hj oj hoj => ?_⟩
    by_cases hji : j = i
    · subst hji
      rw [hi] at hoj; cases hoj
      exact ⟨v, hy, H⟩
    · obtain ⟨z, hu, hK⟩ := H.2 j (ready_mono hj hji) oj hoj
      obtain ⟨hjun, oj', hoj', hall⟩ := mem_ready.1 hj
      rw [hoj] at hoj'; cases hoj'
      have hnot : ∀ e ∈ oj.after, Region.binds md e = true → e.on ≠ i := fun e he hb heq => by
        have h1 := hall e he hb
        have h0 := (mem_ready.1 hr).1
        rw [heq] at h1
        rcases Nat.lt_or_ge i listed.size with h' | h'
        · simp [h'] at h0 h1; rw [h0] at h1; cases h1
        · simp [Array.getElem?_eq_none h'] at h1
      obtain ⟨a1, a2, a3⟩ := Oper.apart_spec (hfree j oj hoj hji hjun hnot)
      have hu' : YieldsG P T ops.toList σ h oj z := (YieldsG.upd a1).1 hu
      refine ⟨z, hu', ?_⟩
      have hfree' : ∀ k ok, ops[k]? = some ok → k ≠ i → (listed.setIfInBounds j true).getD k true = false →
          (∀ e ∈ ok.after, Region.binds md e = true → e.on ≠ i) → oi.apart ops ok = true := fun k ok hk hki hun hno => by
        refine hfree k ok hk hki ?_ hno
        by_cases hjk : j = k
        · subst hjk; exact hjun
        · rw [getD_set_ne true hjk] at hun; exact hun
      refine ih (listed.setIfInBounds j true) _ hfree' (ready_mono hr (Ne.symm hji)) ((YieldsG.upd a3).2 hy) ?_
      rw [Array.setIfInBounds_comm _ _ hji, upd_comm σ z v (fun d e1 e2 => a2 d e2 e1)]
      exact hK

theorem anyQ_lex : ∀ (l : List Oper) (k : Nat) (listed : Array Bool) (σ : Sto), (∀ j, l[j]? = ops[k + j]?) →
    Region.lexFrom md ops l.length k listed = true → awQ P T ops.toList h Q l σ → anyQ P T md ops h Q l.length listed σ
  | [], _, _, _, _, hB, hh => ⟨by simpa [Region.lexFrom] using hB, hh⟩
  | o :: l, k, listed, σ, hl, hB, hh => by
    have h0 : ops[k]? = some o := by simpa using (hl 0).symm
    simp only [List.length_cons, Region.lexFrom, Bool.and_eq_true] at hB
    obtain ⟨⟨hr, hf⟩, hB'⟩ := hB
    obtain ⟨tv, hy, hK⟩ := hh
    exact anyQ_first h0 l.length listed σ (Region.free_spec h0 hf) (by simpa using hr) hy
      (anyQ_lex l (k + 1) _ _ (fun j => by have := hl (j + 1); simpa [Nat.add_assoc, Nat.add_comm 1 j] using this) hB' hK)

variable {M : Nat → Prop} {F0 F : Frz} {w0 w : World} {ρ : Nat → Nat} {n : Nat} {σ : Sto} {o : List (TypeId × List Nat)} {a : Act}

/-- the guard, as the model sees it -/
theorem Sim.wanted (S : Sim P T M F0 w0 F ρ n σ h o a w) {op : Oper} {b : Bool} (hg : gdV ops.toList op σ = some b) : Region.wanted op (yielded ops a.tmps) = b := by
  unfold gdV at hg
  unfold Region.wanted
  cases hgd : op.guard with
  | none => rw [hgd] at hg; cases hg; rfl
  | some gw =>
    obtain ⟨j, want⟩ := gw
    rw [hgd] at hg
    simp only at hg ⊢
    cases ht : (ops.toList[j]?).bind (·.dst) with
    | none => rw [ht] at hg; cases hg
    | some d =>
      rw [ht] at hg
      simp only at hg
      split at hg
      · rename_i b' hs
        cases hg
        obtain ⟨x, h1, h2⟩ := S.tm d _ hs
        have hx := rep_val_inv (show Rep F _ x from h2)
        subst hx
        have ht' : (ops[j]?).bind (·.dst) = some d := by simpa using ht
        have : yielded ops a.tmps j = some b' := by
          unfold yielded
          rw [ht']
          simp only [Option.bind_some]
          rw [h1]
        rw [this]
        cases b' <;> cases want <;> rfl
      · rename_i hs
        cases hg
        obtain ⟨x, h1, h2⟩ := S.tm d _ hs
        obtain rfl : x = undef := h2
        have ht' : (ops[j]?).bind (·.dst) = some d := by simpa using ht
        have : yielded ops a.tmps j = none := by
          unfold yielded
          rw [ht']
          simp only [Option.bind_some]
          rw [h1]
          rfl
        rw [this]
        cases want <;> rfl
      · cases hg

/-- where all is quiet: nothing that owns is written -/
def dstsOk (n : Nat) (o : List (TypeId × List Nat)) (l : List Oper) : Prop :=
  ∀ op ∈ l, ∀ d, op.dst = some d → d < n ∧ ∀ (j : Nat) e c, o[j]? = some (e, c) → d ∉ c

theorem oper_wp (S : Sim P T M F0 w0 F ρ n σ h o a w) {op : Oper} {tv : TV} (hy : YieldsG P T ops.toList σ h op tv)
    (hd : ∀ d', op.dst = some d' → d' < n ∧ ∀ (j : Nat) e c, o[j]? = some (e, c) → d' ∉ c) {i : Nat} (hi : ops[i]? = some op) {K : Act → World → Prop} {Q : Exit → Act → World → Prop}
    (k : ∀ F' w' a', Sim P T M F0 w0 F' ρ n (upd σ op.dst tv) h o a' w' → K a' w') : wpOp P ops Q i K a w := by
  unfold wpOp
  simp only [hi]
  rcases hy with ⟨hg, hy⟩ | ⟨hg, rfl⟩
  · rw [S.wanted hg, if_pos rfl]
    exact .inl (yields_wp S hy fun x F' w' hx hr => k F' w' _ ((S.ext hx).put hr (S.yields_wf hy) hd))
  · rw [S.wanted hg]
    simp only [Bool.false_eq_true, if_false]
    exact k F w _ (S.put rfl trivial hd)

theorem anyQ_sound (hok : dstsOk n o ops.toList) {Q' : Exit → Act → World → Prop} (hQ : ∀ F' σ' a' w', Sim P T M F0 w0 F' ρ n σ' h o a' w' → Q σ' → Q' .normal a' w') :
    ∀ (fuel : Nat) (listed : Array Bool) (F : Frz) (σ : Sto) (a : Act) (w : World), Sim P T M F0 w0 F ρ n σ h o a w → anyQ P T md ops h Q fuel listed σ → wpAny P md ops Q' fuel listed a w
  | 0, _, _, _, _, _, S, hh => ⟨hh.1, hQ _ _ _ _ S hh.2⟩
  | fuel + 1, listed, F, σ, a, w, S, hh => by
    refine ⟨fun h0 => hQ _ _ _ _ S (hh.1 h0), fun i hi => ?_⟩
    obtain ⟨_, oi, hoi, _⟩ := mem_ready.1 hi
    obtain ⟨tv, hy, hK⟩ := hh.2 i hi oi hoi
    exact oper_wp S hy (hok oi (by simpa using Array.mem_of_getElem? hoi)) hoi fun F' w' a' S' => anyQ_sound hok hQ fuel _ F' _ a' w' S' hK

/-- A region that draws its order. -/
theorem region_draw (hm : P.follows .mixedOrders = true) {id : Nat} (hB : Region.lexB .any ops = true) (hok : dstsOk n o ops.toList) {Q' : Exit → Act → World → Prop}
    (S : Sim P T M F0 w0 F ρ n σ h o a w) (hQ : ∀ F' σ' a' w', Sim P T M F0 w0 F' ρ n σ' h o a' w' → Q σ' → Q' .normal a' w') (hh : awQ P T ops.toList h Q ops.toList σ) :
    (Code.region id ops true).wp P Q' a w := by
  simp only [Region.lexB, Bool.and_eq_true] at hB
  have hx : Ext F w F w.drew := (Ext.refl S.sees).drew
  refine wp_region_any hm (anyQ_sound (md := .any) hok hQ _ _ F σ a w.drew (S.ext hx) ?_)
  have := anyQ_lex (P := P) (h := h) (Q := Q) (md := .any) ops.toList 0 (Array.replicate ops.size false) σ (by simp) (by simpa using hB.2) hh
  simpa using this
end Go.Ab
