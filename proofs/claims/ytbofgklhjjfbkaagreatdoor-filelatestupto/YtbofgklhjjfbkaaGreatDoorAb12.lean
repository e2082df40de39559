/-
  Operations in the text's order: local variables, maps, appends, calls.
-/
import Derived.Test.YtbofgklhjjfbkaaGreatDoorAb11
namespace Go.Ab
open Go.RowKit
variable {P : Program} {T : Lay}

structure St where
  n : Nat
  t : List (Nat × TV)
  h : List (Nat × Blk)
  o : List (TypeId × List Nat)

def St.σ (s : St) : Sto := fun i => look i s.t

def remo (d : Nat) (o : List (TypeId × List Nat)) : List (TypeId × List Nat) := o.map fun x => (x.1, x.2.filter fun i => !Nat.beq i d)
def delo (i : Nat) (o : List (TypeId × List Nat)) : List (TypeId × List Nat) := o.map fun x => if x.2.contains i = true then (x.1, []) else x
def addo (i d : Nat) (o : List (TypeId × List Nat)) : List (TypeId × List Nat) := o.map fun x => if x.2.contains i = true then (x.1, d :: x.2) else x
def ownOf (i : Nat) : List (TypeId × List Nat) → Option TypeId
  | [] => none
  | (e, c) :: r => if c.contains i = true then some e else ownOf i r

def putK (st : St) (d : Option Tmp) (tv : TV) (K : St → Prop) : Prop :=
  match d with
  | none => K st
  | some d => d < st.n ∧ K { st with t := (d, tv) :: st.t, o := remo d st.o }

def movK (st : St) (x : Operand) (d : Option Tmp) (K : St → Prop) : Prop :=
  match nu (opv st.σ x), d with
  | some _, none => K st
  | some tv, some d => match x with
    | .tmp i => d < st.n ∧ K { st with t := (d, tv) :: st.t, o := if i = d then remo d st.o else addo i d (remo d st.o) }
    | _ => d < st.n ∧ K { st with t := (d, tv) :: st.t, o := remo d st.o }
  | none, _ => False

def Call (P : Program) (T : Lay) (g : FuncId) (args : List V) (k : V → Option TypeId → Prop) (kn : Nat → List (List V) → Prop) : Prop :=
  (∃ r, Den P T g args r ∧ k r none) ∨ (∃ r e, DenO P T g args e r ∧ k r (some e)) ∨ ∃ size es, DenN P T g args size es ∧ kn size es
theorem call {g : FuncId} {args : List V} {r : V} {k : V → Option TypeId → Prop} {kn : Nat → List (List V) → Prop} (h : Den P T g args r) (hk : k r none) : Call P T g args k kn := .inl ⟨r, h, hk⟩
theorem callO {g : FuncId} {args : List V} {r : V} {e : TypeId} {k : V → Option TypeId → Prop} {kn : Nat → List (List V) → Prop} (h : DenO P T g args e r) (hk : k r (some e)) : Call P T g args k kn := .inr (.inl ⟨r, e, h, hk⟩)

def retK (st : St) (d : Option Tmp) (K : St → Prop) (r : V) (own : Option TypeId) : Prop :=
  match own with
  | none => putK st d (.v r) K
  | some e => match d with
    | none => K st
    | some d => d < st.n ∧ K { st with t := (d, .v r) :: st.t, o := (e, [d]) :: remo d st.o }

/-- a row that came from a call -/
def newK (st : St) (d : Option Tmp) (K : St → Prop) (size : Nat) (es : List (List V)) : Prop :=
  match d with
  | none => False
  | some d => d < st.n ∧ look d st.h = none ∧ (es = [] → K { st with t := (d, .v (.slice size [])) :: st.t, o := remo d st.o }) ∧
      (es ≠ [] → K { st with t := (d, .s d 0 es.length size) :: st.t, h := (d, .var es.flatten) :: st.h, o := remo d st.o })

/-- pointers into one block alone -/
def only (id : Nat) : List TV → Bool
  | [] => true
  | .v _ :: r => only id r
  | .p i _ :: r => Nat.beq i id && only id r
  | .s i _ _ _ :: r => Nat.beq i id && only id r
  | _ => false
def re (id : Nat) : TV → TV
  | .p _ off => .p id off
  | .s _ off n size => .s id off n size
  | .v x => .v x
  | _ => .u
def tvsOf (ρ : Operand → Option TV) : List Operand → Option (List TV)
  | [] => some []
  | x :: r => match ρ x, tvsOf ρ r with
    | some v, some vs => some (v :: vs)
    | _, _ => none
def seth (id : Nat) (b : Blk) : List (Nat × Blk) → List (Nat × Blk)
  | [] => []
  | (j, x) :: r => if id = j then (j, b) :: r else (j, x) :: seth id b r
def CallM (P : Program) (T : Lay) (g : FuncId) (args : List TV) (cap : List V) (st : St) (k : St → TV → Prop) : Prop :=
  ∃ id cs cs' r, look id st.h = some (.var cs) ∧ only id args = true ∧ only 999999 [r] = true ∧ DenM P T g cs (args.map (re 999999) ++ cap.map .v) cs' r ∧ k { st with h := seth id (.var cs') st.h } (re id r)
theorem callM {g : FuncId} {args : List TV} {cap : List V} {st : St} {k : St → TV → Prop} (id : Nat) {cs cs' : List V} {r : TV} (h : DenM P T g cs (args.map (re 999999) ++ cap.map .v) cs' r) (hk : k { st with h := seth id (.var cs') st.h } (re id r))
    (h1 : look id st.h = some (.var cs) := by rfl) (h2 : only id args = true := by rfl) (h3 : only 999999 [r] = true := by first | rfl | (split <;> rfl)) : CallM P T g args cap st k := ⟨id, cs, cs', r, h1, h2, h3, h, hk⟩

/-- what such a call hands back is laid; what follows is kept closed -/
def retM (d : Option Tmp) (K : St → Prop) (st : St) (tv : TV) : Prop := putK st d tv K

def evK (P : Program) (op : Oper) (st : St) (K : St → Prop) : Prop :=
  match evq P (opv st.σ) st.h op.op with
  | some tv => putK st op.dst tv K
  | none => match evb P (opv st.σ) op.op with
    | some v => putK st op.dst (.v v) K
    | none => False

/-- so many elements of this type an append may hold -/
def AppOk (P : Program) (e : TypeId) (n : Nat) : Prop := n ≤ maxLen ∧ n * P.bytesOf e ≤ 140737488355328

/-- the zero value has its size -/
def ZeroOk (P : Program) (e : TypeId) (size : Nat) : Prop := (zeroV P e).map (fun z => z.cells.size) = some size

/-- what an append takes: the elements, and the temporary that owns them -/
def appS (st : St) (e : TypeId) (size : Nat) (x : Operand) : Option (List (List V) × Option Nat) :=
  match vOf (opv st.σ x) with
  | some (.val (.slice none 0 0)) => some ([], none)
  | some (.slice s es) => match x with
    | .tmp i => if s = size ∧ ownOf i st.o = some e then some (es, some i) else none
    | _ => none
  | _ => none
def appX (st : St) (size : Nat) (x : Operand) : Option (List (List V)) :=
  match vOf (opv st.σ x) with
  | some (.val (.slice none 0 0)) => some []
  | some (.slice s es) => if s = size then some es else none
  | _ => none
def owner (i : Option Nat) (o : List (TypeId × List Nat)) : List (TypeId × List Nat) := match i with | none => o | some i => delo i o

def appK (P : Program) (op : Oper) (c : Go.Call) (st : St) (K : St → Prop) : Prop :=
  match c.args.toList, c.argTypes.toList, op.dst with
  | [s, x], [t, t'], some d => if t = t' then match slV P t with
    | some (e, size) => match appS st e size s, appX st size x with
      | some (es, i), some xs => ZeroOk P e size ∧ AppOk P e (es.length + xs.length) ∧ d < st.n ∧
          K { st with t := (d, .v (.slice size (es ++ xs))) :: st.t, o := (e, [d]) :: remo d (owner i st.o) }
      | _, _ => False
    | none => False
    else False
  | _, _, _ => False

/-- behind a 'clear' of a part of a local row what stood from there on is not looked at any more -/
def clearK (P : Program) (op : Oper) (c : Go.Call) (st : St) (K : St → Prop) : Prop :=
  match c.args.toList, c.argTypes.toList, op.dst with
  | [x], [t], none => match slV P t, opv st.σ x with
    | some (_, size), some (.v (.slice s [])) => s = size ∧ K st
    | some (e, size), some (.s id off n s) => match look id st.h, zeroCs P e with
      | some (.var cs), some zs => s = size ∧ zs.length = size ∧ off + n * size ≤ cs.length ∧ K { st with h := seth id (.var (cs.take off)) st.h }
      | _, _ => False
    | _, _ => False
  | _, _, _ => False

def upsert (k v : V) : List (V × V) → Option (List (V × V))
  | [] => some [(k, v)]
  | (k', v') :: r => match keyEq k k' with
    | some true => some ((k, v) :: r)
    | some false => (upsert k v r).map ((k', v') :: ·)
    | none => none

/-- a variable that is written no more -/
def frzB : Blk → Blk
  | .var cs => .con cs
  | b => b
def frz1 (id : Nat) : List (Nat × Blk) → List (Nat × Blk)
  | [] => []
  | (j, b) :: r => if id = j then (j, frzB b) :: r else (j, b) :: frz1 id r
def frzC (σ : Sto) : List Operand → List (Nat × Blk) → List (Nat × Blk)
  | [], h => h
  | x :: r, h => frzC σ r (match opv σ x with | some (.p id _) => frz1 id h | _ => h)
def frzR (σ : Sto) : List Oper → List (Nat × Blk) → List (Nat × Blk)
  | [], h => h
  | o :: r, h => frzR σ r (match o.op with | .makeFunc _ _ cap => frzC σ cap.toList h | _ => h)

/-- a slice that has no elements may be nil or not -/
def nilK (P : Program) (op : Oper) (o : BinOp) (t : TypeId) (st : St) (K : St → Prop) : Prop :=
  match o with
  | .eql => (slV P t).isSome = true ∧ ∀ b : Bool, putK st op.dst (.v (.val (.bool b))) K
  | .neq => (slV P t).isSome = true ∧ ∀ b : Bool, putK st op.dst (.v (.val (.bool b))) K
  | _ => False

def stepO (P : Program) (T : Lay) (op : Oper) (st : St) (K : St → Prop) : Prop :=
  match op.op with
  | .buildSlice t n parts => if n = 0 then match slV P t with
    | some (e, size) => parts.size = 0 ∧ retK st op.dst K (.slice size []) (some e)
    | none => False
    else evK P op st K
  | .makeFunc _ _ cap => evK P op { st with h := frzC st.σ cap.toList st.h } K
  | .move x => movK st x op.dst K
  | .assign x => movK st x op.dst K
  | .box _ x => match op.dst, vOf (opv st.σ x) with
    | some d, some v => oneV v = true ∧ look d st.h = none ∧ d < st.n ∧ K { st with t := (d, .p d 0) :: st.t, h := (d, .var v.cells) :: st.h, o := remo d st.o }
    | _, _ => False
  | .alloc e => match op.dst, zeroCs P e with
    | some d, some zs => look d st.h = none ∧ d < st.n ∧ K { st with t := (d, .p d 0) :: st.t, h := (d, .var zs) :: st.h, o := remo d st.o }
    | _, _ => False
  | .store t a x => match opv st.σ a, vOf (opv st.σ x) with
    | some (.p id off), some v => match look id st.h with
      | some (.var cs) => oneV v = true ∧ v.cells.length = P.cellsOf t ∧ (P.info? t).isSome = true ∧ off + v.cells.length ≤ cs.length ∧ op.dst = none ∧
          K { st with h := seth id (.var (setAt cs off v.cells)) st.h }
      | _ => False
    | _, _ => False
  | .makeMap _ none => match op.dst with
    | some d => look d st.h = none ∧ d < st.n ∧ K { st with t := (d, .m d) :: st.t, h := (d, .map []) :: st.h, o := remo d st.o }
    | none => False
  | .mapUpdate t m k x => match mapKV P t, opv st.σ m, vOf (opv st.σ k), vOf (opv st.σ x) with
    | some (kt, _), some (.m id), some k, some v => match look id st.h with
      | some (.map es) => match upsert k v es with
        | some es' => keyT P kt k = true ∧ op.dst = none ∧ K { st with h := seth id (.map es') st.h }
        | none => False
      | _ => False
    | _, _, _, _ => False
  | .call c => match c.callee with
    | .value f => match vOf (opv st.σ f), vsOf (opv st.σ) c.args.toList with
      | some (.func g cap), some vs => Call P T g (vs ++ cap) (retK st op.dst K) (newK st op.dst K)
      | some (.func g cap), none => match tvsOf (opv st.σ) c.args.toList with
        | some tvs => CallM P T g tvs cap st (retM op.dst K)
        | none => False
      | _, _ => False
    | .builtin .append => appK P op c st K
    | .builtin .clear => clearK P op c st K
    | _ => evK P op st K
  | .binOp o t x y _ => match vOf (opv st.σ x), vOf (opv st.σ y) with
    | some (.slice _ []), some (.val (.slice none 0 0)) => nilK P op o t st K
    | _, _ => evK P op st K
  | _ => evK P op st K

/-! the ledger of what is owned -/
variable {M : Nat → Prop} {F0 F : Frz} {w0 w : World} {ρ : Nat → Nat} {n : Nat} {σ : Sto} {h : List (Nat × Blk)} {o o' : List (TypeId × List Nat)} {a : Act}

theorem Sim.weako (S : Sim P T M F0 w0 F ρ n σ h o a w) (f : Nat → Nat) (hf : ∀ (j : Nat) e c, o'[j]? = some (e, c) → ∃ c0, o[f j]? = some (e, c0) ∧ ∀ i ∈ c, i ∈ c0)
    (hi : ∀ (j j' : Nat) e c e' c' i i', o'[j]? = some (e, c) → o'[j']? = some (e', c') → i ∈ c → i' ∈ c' → f j = f j' → j = j') : Sim P T M F0 w0 F ρ n σ h o' a w :=
  { S with
    ow := fun j e c hj => by
      obtain ⟨c0, h1, h2⟩ := hf j e c hj
      obtain ⟨v, h3, h4⟩ := S.ow _ e c0 h1
      exact ⟨v, fun i hic => h3 i (h2 i hic), h4⟩
    od := fun j j' e c e' c' hne hj hj' i hic i' hic' v v' g e1 e2 => by
      obtain ⟨c0, h1, h2⟩ := hf j e c hj
      obtain ⟨c0', h1', h2'⟩ := hf j' e' c' hj'
      exact S.od _ _ e c0 e' c0' (fun heq => hne (hi j j' e c e' c' i i' hj hj' hic hic' heq)) h1 h1' i (h2 i hic) i' (h2' i' hic') v v' g e1 e2 }

theorem Sim.remo (S : Sim P T M F0 w0 F ρ n σ h o a w) (d : Nat) : Sim P T M F0 w0 F ρ n σ h (remo d o) a w :=
  S.weako id (fun j e c hj => by
    simp only [Go.Ab.remo, List.getElem?_map, Option.map_eq_some_iff] at hj
    obtain ⟨⟨e', c'⟩, h1, h2⟩ := hj
    simp only [Prod.mk.injEq] at h2
    obtain ⟨rfl, rfl⟩ := h2
    exact ⟨c', h1, fun i hic => (List.mem_filter.1 hic).1⟩) (fun _ _ _ _ _ _ _ _ _ _ _ _ e => e)
theorem remo_not {d : Nat} {o : List (TypeId × List Nat)} (j : Nat) (e : TypeId) (c : List Nat) (hj : (Go.Ab.remo d o)[j]? = some (e, c)) : d ∉ c := by
  simp only [Go.Ab.remo, List.getElem?_map, Option.map_eq_some_iff] at hj
  obtain ⟨⟨e', c'⟩, h1, h2⟩ := hj
  simp only [Prod.mk.injEq] at h2
  obtain ⟨rfl, rfl⟩ := h2
  intro hd
  have := (List.mem_filter.1 hd).2
  simp at this
theorem Sim.delo (S : Sim P T M F0 w0 F ρ n σ h o a w) (i : Nat) : Sim P T M F0 w0 F ρ n σ h (delo i o) a w :=
  S.weako id (fun j e c hj => by
    simp only [Go.Ab.delo, List.getElem?_map, Option.map_eq_some_iff] at hj
    obtain ⟨⟨e', c'⟩, h1, h2⟩ := hj
    split at h2
    · simp only [Prod.mk.injEq] at h2
      obtain ⟨rfl, rfl⟩ := h2
      exact ⟨c', h1, by simp⟩
    · simp only [Prod.mk.injEq] at h2
      obtain ⟨rfl, rfl⟩ := h2
      exact ⟨_, h1, fun _ hx => hx⟩) (fun _ _ _ _ _ _ _ _ _ _ _ _ e => e)

/-- a temporary is written that owns nothing any more -/
theorem Sim.putr (S : Sim P T M F0 w0 F ρ n σ h o a w) {d : Tmp} {tv : TV} {x : Value} (hr : RepT F ρ tv x) (hw : wfT h tv) (hd : d < n) :
    Sim P T M F0 w0 F ρ n (upd σ (some d) tv) h (Go.Ab.remo d o) (a.put (some d) x) w :=
  (S.remo d).put hr hw (fun d' e => by cases e; exact ⟨hd, fun j e c hj => remo_not j e c hj⟩)

theorem σ_cons (s : St) (d : Tmp) (tv : TV) (h : List (Nat × Blk)) (o : List (TypeId × List Nat)) : (St.mk s.n ((d, tv) :: s.t) h o).σ = upd s.σ (some d) tv := by
  funext i
  simp only [St.σ, upd, look_cons]

/-- a temporary that holds what an owner holds -/
theorem Sim.addo (S : Sim P T M F0 w0 F ρ n σ h o a w) {i d : Nat} (hd : ∀ (j : Nat) e c, o[j]? = some (e, c) → d ∉ c) (hv : a.tmps[d]? = a.tmps[i]?) :
    Sim P T M F0 w0 F ρ n σ h (addo i d o) a w := by
  have hget : ∀ (j : Nat) e c, (Go.Ab.addo i d o)[j]? = some (e, c) → ∃ c0, o[j]? = some (e, c0) ∧ (c = c0 ∨ (i ∈ c0 ∧ c = d :: c0)) := fun j e c hj => by
    simp only [Go.Ab.addo, List.getElem?_map, Option.map_eq_some_iff] at hj
    obtain ⟨⟨e', c'⟩, h1, h2⟩ := hj
    split at h2
    · rename_i hc
      simp only [Prod.mk.injEq] at h2
      obtain ⟨rfl, rfl⟩ := h2
      exact ⟨c', h1, .inr ⟨by simpa using hc, rfl⟩⟩
    · simp only [Prod.mk.injEq] at h2
      obtain ⟨rfl, rfl⟩ := h2
      exact ⟨_, h1, .inl rfl⟩
  have hold : ∀ (j : Nat) e c, (Go.Ab.addo i d o)[j]? = some (e, c) → ∃ c0, o[j]? = some (e, c0) ∧ ∀ k ∈ c, ∃ k' ∈ c0, a.tmps[k]? = a.tmps[k']? := fun j e c hj => by
    obtain ⟨c0, h1, h2⟩ := hget j e c hj
    refine ⟨c0, h1, fun k hk => ?_⟩
    rcases h2 with rfl | ⟨hic, rfl⟩
    · exact ⟨k, hk, rfl⟩
    · rcases List.mem_cons.1 hk with rfl | hk
      · exact ⟨i, hic, hv⟩
      · exact ⟨k, hk, rfl⟩
  exact { S with
    ow := fun j e c hj => by
      obtain ⟨c0, h1, h2⟩ := hold j e c hj
      obtain ⟨v, h3, h4⟩ := S.ow _ e c0 h1
      exact ⟨v, fun k hk => by obtain ⟨k', hk', e'⟩ := h2 k hk; rw [e']; exact h3 k' hk', h4⟩
    od := fun j j' e c e' c' hne hj hj' k hk k' hk' v v' g e1 e2 => by
      obtain ⟨c0, h1, h2⟩ := hold j e c hj
      obtain ⟨c0', h1', h2'⟩ := hold j' e' c' hj'
      obtain ⟨m, hm, em⟩ := h2 k hk
      obtain ⟨m', hm', em'⟩ := h2' k' hk'
      exact S.od j j' e c0 e' c0' hne h1 h1' m hm m' hm' v v' g (em ▸ e1) (em' ▸ e2) }
end Go.Ab
