/-
  How the calculus is run: what the types say, as instances; the rules in the form in which simp goes through them.
-/
import Derived.Test.YtbofgklhjjfbkaaGreatDoorAb18
namespace Go.Ab
open Go.RowKit
variable {P : Program} {T : Lay}

/-! facts on types, found by their numbers -/
class TCell (P : Program) (t : TypeId) : Prop where
  agg : aggB P t = some false
  size : P.cellsOf t = 1
  info : (P.info? t).isSome = true
class TAgg (P : Program) (t : TypeId) (n : outParam Nat) : Prop where
  agg : aggB P t = some true
  size : P.cellsOf t = n
  info : (P.info? t).isSome = true
class TField (P : Program) (s : TypeId) (f : Nat) (off : outParam Nat) (ft : outParam TypeId) : Prop where
  eq : fldV P s f = some (off, ft)
class TSlice (P : Program) (t : TypeId) (e : outParam TypeId) (size : outParam Nat) : Prop where
  eq : slV P t = some (e, size)
class TStr (P : Program) (t : TypeId) : Prop where
  eq : strB P t = true
class TBool (P : Program) (t : TypeId) : Prop where
  eq : boolB P t = true
class TIfc (P : Program) (t : TypeId) : Prop where
  eq : ifcB P t = true
class TInt (P : Program) (t : TypeId) (k : outParam IntKind) : Prop where
  eq : intK P t = some k
class TUnd (P : Program) (t : TypeId) : Prop where
  eq : (P.underlying t).isSome = true
class TMap (P : Program) (t : TypeId) (k e : outParam TypeId) (z : outParam Value) : Prop where
  eq : mapKV P t = some (k, e)
  zero : zeroV P e = some z
  und : P.underlying t = some (.map k e)
class TZero (P : Program) (t : TypeId) (zs : outParam (List V)) : Prop where
  eq : zeroCs P t = some zs
class TZeroV (P : Program) (t : TypeId) (n bytes : outParam Nat) : Prop where
  is : (zeroV P t).isSome = true
  ok : (zeroV P t).map (fun z => z.cells.size) = some n
  bytes : P.bytesOf t = bytes
class TPlaces (P : Program) (t : TypeId) (pl : outParam (List (Nat × Nat))) : Prop where
  eq : placesV P t = some pl

class TZV (P : Program) (t : TypeId) (z : outParam Value) : Prop where
  eq : zeroV P t = some z
class TEq (P : Program) (t : TypeId) (ks : outParam (List Lf)) : Prop where
  eq : eqT P t = some ks
theorem eqt_eq (t : TypeId) {ks : List Lf} [h : TEq P t ks] : eqT P t = some ks := h.eq
theorem zv_eq (t : TypeId) {z : Value} [h : TZV P t z] : zeroV P t = some z := h.eq
theorem und_of_str {t : TypeId} (h : strB P t = true) : P.underlying t = some .string := by
  unfold strB at h
  split at h
  · assumption
  · cases h
theorem keyT_str (t : TypeId) [h : TStr P t] (x : List UInt8) : keyT P t (.str x) = true := by simp [keyT, und_of_str h.eq]
theorem keyT_int (t : TypeId) {k : IntKind} [h : TInt P t k] (j : IntKind) (n : Int) : keyT P t (.val (.int j n)) = true := by
  have h' := h.eq
  unfold intK at h'
  split at h'
  · rename_i hu; simp [keyT, hu]
  · cases h'
theorem okVal_s (s : ByteArray) : okVal (.string s) = true := rfl
theorem okVal_i (k : IntKind) (n : Int) : okVal (.int k n) = true := rfl
theorem okVal_b (b : Bool) : okVal (.bool b) = true := rfl
theorem ofVal_s0 : ofVal (.string ⟨#[]⟩) = .str [] := rfl
theorem ofVal_i (k : IntKind) (n : Int) : ofVal (.int k n) = .val (.int k n) := rfl
theorem ofVal_b (b : Bool) : ofVal (.bool b) = .val (.bool b) := rfl

theorem ld_cell (t : TypeId) [h : TCell P t] (c : V) (cs : List V) : ldV P t (c :: cs) = some c := by simp [ldV, h.agg]
theorem ld_agg (t : TypeId) {n : Nat} [h : TAgg P t n] (cs : List V) : ldV P t cs = (takeN n cs).map .agg := by simp [ldV, h.agg, h.size]
theorem fld_eq (s : TypeId) (f : Nat) {off : Nat} {ft : TypeId} [h : TField P s f off ft] : fldV P s f = some (off, ft) := h.eq
theorem sl_eq (t : TypeId) {e : TypeId} {size : Nat} [h : TSlice P t e size] : slV P t = some (e, size) := h.eq
theorem str_eq (t : TypeId) [h : TStr P t] : strB P t = true := h.eq
theorem bool_eq (t : TypeId) [h : TBool P t] : boolB P t = true := h.eq
theorem ifc_eq (t : TypeId) [h : TIfc P t] : ifcB P t = true := h.eq
theorem int_eq (t : TypeId) {k : IntKind} [h : TInt P t k] : intK P t = some k := h.eq
theorem und_eq (t : TypeId) [h : TUnd P t] : (P.underlying t).isSome = true := h.eq
theorem map_eq (t : TypeId) {k e : TypeId} {z : Value} [h : TMap P t k e z] : mapKV P t = some (k, e) := h.eq
theorem zero_eq (t : TypeId) {zs : List V} [h : TZero P t zs] : zeroCs P t = some zs := h.eq
theorem zsome_eq (t : TypeId) {n b : Nat} [h : TZeroV P t n b] : (zeroV P t).isSome = true := h.is
theorem zok_eq (t : TypeId) {n b : Nat} [h : TZeroV P t n b] : ZeroOk P t n = True := eq_true h.ok
theorem places_eq (t : TypeId) {pl : List (Nat × Nat)} [h : TPlaces P t pl] : placesV P t = some pl := h.eq
theorem cells_cell (t : TypeId) [h : TCell P t] : P.cellsOf t = 1 := h.size
theorem cells_agg (t : TypeId) {n : Nat} [h : TAgg P t n] : P.cellsOf t = n := h.size
theorem info_cell (t : TypeId) [h : TCell P t] : (P.info? t).isSome = true := h.info
theorem info_agg (t : TypeId) {n : Nat} [h : TAgg P t n] : (P.info? t).isSome = true := h.info
theorem appok_eq (t : TypeId) {n b : Nat} [h : TZeroV P t n b] (m : Nat) : AppOk P t m = (m ≤ 9223372036854775807 ∧ m * b ≤ 140737488355328) := by unfold AppOk; rw [h.bytes]; rfl

/-! the rules, what follows kept closed -/
def awOk (P : Program) (T : Lay) (l rest : List Oper) (K : St → Prop) : St → Prop := fun st => awO P T l rest st K
def awDk (P : Program) (T : Lay) (l rest : List Oper) (K : St → Prop) : St → Prop := fun st => awD P T l rest st K
theorem awO_nil (l : List Oper) (st : St) (K : St → Prop) : awO P T l [] st K = K st := rfl
theorem awO_cons (l : List Oper) (o : Oper) (rest : List Oper) (st : St) (K : St → Prop) : awO P T l (o :: rest) st K = match gdV l o st.σ with
    | none => False
    | some b => gsel b (stepO P T o st (awOk P T l rest K)) (putK st o.dst .u (awOk P T l rest K)) := rfl
theorem awOk_app (l rest : List Oper) (K : St → Prop) (n : Nat) (t : List (Nat × TV)) (h : List (Nat × Blk)) (o : List (TypeId × List Nat)) : awOk P T l rest K ⟨n, t, h, o⟩ = awO P T l rest ⟨n, t, h, o⟩ K := rfl
theorem awD_nil (l : List Oper) (st : St) (K : St → Prop) : awD P T l [] st K = K st := rfl
theorem awD_cons (l : List Oper) (o : Oper) (rest : List Oper) (st : St) (K : St → Prop) : awD P T l (o :: rest) st K = match gdV l o st.σ with
    | none => False
    | some b => gsel b (stepD P T o st (awDk P T l rest K)) (awDk P T l rest K { st with t := match o.dst with | none => st.t | some d => (d, .u) :: st.t }) := rfl
theorem awDk_app (l rest : List Oper) (K : St → Prop) (n : Nat) (t : List (Nat × TV)) (h : List (Nat × Blk)) (o : List (TypeId × List Nat)) : awDk P T l rest K ⟨n, t, h, o⟩ = awD P T l rest ⟨n, t, h, o⟩ K := rfl

theorem σ_mk (n : Nat) (t : List (Nat × TV)) (h : List (Nat × Blk)) (o : List (TypeId × List Nat)) (i : Nat) : (St.mk n t h o).σ i = look i t := rfl
theorem opv_tmp (σ : Sto) (i : Nat) : opv σ (.tmp i) = σ i := rfl
theorem opv_func (σ : Sto) (f : FuncId) : opv σ (.func f) = some (.v (.func f [])) := rfl
theorem opv_int (σ : Sto) (k : IntKind) (n : Int) : opv σ (.const (.int k n)) = some (.v (.val (.int k n))) := rfl
theorem opv_bool (σ : Sto) (b : Bool) : opv σ (.const (.bool b)) = some (.v (.val (.bool b))) := rfl
theorem opv_nil (σ : Sto) : opv σ (.const (.slice none 0 0)) = some (.v (.val (.slice none 0 0))) := rfl
theorem opv_nili (σ : Sto) : opv σ (.const .nilIface) = some (.v (.val .nilIface)) := rfl
theorem opv_tup (σ : Sto) : opv σ (.const (.tuple #[])) = some (.v (.val (.tuple #[]))) := rfl
theorem opv_str (σ : Sto) (l : List UInt8) : opv σ (.const (.string ⟨l.toArray⟩)) = some (.v (.str l)) := rfl
theorem vOf_v (x : V) : vOf (some (.v x)) = some x := rfl
theorem vOf_p (i j : Nat) : vOf (some (.p i j)) = none := rfl
theorem vOf_s (i j n z : Nat) : vOf (some (.s i j n z)) = none := rfl
theorem vOf_m (i : Nat) : vOf (some (.m i)) = none := rfl
theorem nu_s (i j n z : Nat) : nu (some (.s i j n z)) = some (.s i j n z) := rfl
theorem cutS_in (id off size a b : Nat) (h : a < b) : cutS id off size (a, b) = .s id (off + a * size) (b - a) size := by simp only [cutS]; rw [if_neg (by omega)]
theorem cutS_no (id off size a b : Nat) (h : a = b) : cutS id off size (a, b) = .v (.slice size []) := by simp only [cutS]; rw [if_pos h]
theorem idxS_in (m : Nat) (k : IntKind) (n : Int) (h0 : 0 ≤ n) (h : n < m) : idxS m (.val (.int k n)) = some n.toNat := by simp only [idxS]; rw [if_pos ⟨h0, h⟩]
theorem cutV_nn (n : Nat) : cutV n none none = some (0, n) := by simp [cutV]
theorem cutV_ns (n : Nat) (k : IntKind) (b : Int) (h0 : 0 ≤ b) (h : b ≤ n) : cutV n none (some (.val (.int k b))) = some (0, b.toNat) := by simp [cutV, nums]; omega
theorem cutV_sn (n : Nat) (k : IntKind) (a : Int) (h0 : 0 ≤ a) (h : a ≤ n) : cutV n (some (.val (.int k a))) none = some (a.toNat, n) := by simp [cutV, nums]; omega
theorem cutV_ss (n : Nat) (k k' : IntKind) (a b : Int) (h0 : 0 ≤ a) (h1 : a ≤ b) (h : b ≤ n) : cutV n (some (.val (.int k a))) (some (.val (.int k' b))) = some (a.toNat, b.toNat) := by simp [cutV, nums]; omega
theorem nu_v (x : V) : nu (some (.v x)) = some (.v x) := rfl
theorem nu_p (i j : Nat) : nu (some (.p i j)) = some (.p i j) := rfl
theorem nu_m (i : Nat) : nu (some (.m i)) = some (.m i) := rfl
theorem remo_nil (d : Nat) : remo d [] = [] := rfl
theorem addo_nil (i d : Nat) : addo i d [] = [] := rfl
theorem delo_nil (i : Nat) : delo i [] = [] := rfl

/-- a code's walk, what follows kept closed -/
def awk (P : Program) (T : Lay) (y : Code) (Q : AX → St → Prop) : St → Prop := fun st => aw P T y st Q
theorem awk_app (y : Code) (Q : AX → St → Prop) (st : St) : awk P T y Q st = aw P T y st Q := rfl
/-- the code that comes behind; what comes behind that is named once (else the terms double with every step) -/
def sqk (P : Program) (T : Lay) (y : Code) (Q : AX → St → Prop) : AX → St → Prop
  | .nm, st => aw P T y st Q
  | e, st => Q e st
theorem sqk_nm (y : Code) (Q : AX → St → Prop) (st : St) : sqk P T y Q .nm st = aw P T y st Q := rfl
theorem sqk_ex (y : Code) (Q : AX → St → Prop) (id : Nat) (st : St) : sqk P T y Q (.ex id) st = Q (.ex id) st := rfl
theorem sqk_rt (y : Code) (Q : AX → St → Prop) (st : St) : sqk P T y Q .rt st = Q .rt st := rfl
theorem sqk_eq (y : Code) (Q : AX → St → Prop) : sqk P T y Q = sq (fun st' => aw P T y st' Q) Q := by
  funext e st; cases e <;> rfl
theorem aw_seq {x y : Code} {st : St} {Q : AX → St → Prop} (h : aw P T x st (sqk P T y Q)) : aw P T (.seq x y) st Q := by rw [sqk_eq] at h; exact h
theorem aw_block {id : Nat} {x : Code} {st : St} {Q : AX → St → Prop} (h : aw P T x st (blk id Q)) : aw P T (.block id x) st Q := h
theorem aw_skip {st : St} {Q : AX → St → Prop} (h : Q .nm st) : aw P T .skip st Q := h
theorem aw_ret {st : St} {Q : AX → St → Prop} (h : Q .rt st) : aw P T .ret st Q := h
theorem aw_exit {id : Nat} {st : St} {Q : AX → St → Prop} (h : Q (.ex id) st) : aw P T (.exit id) st Q := h
theorem aw_region {id : Nat} {ops : Array Oper} {l : List Oper} {st : St} {Q : AX → St → Prop} (hl : ops.toList = l) (h : ∀ K : St → Prop, Hid (∀ st, Q .nm st → K st) → awO P T l l st K) : aw P T (.region id ops false) st Q := by
  subst hl; exact h _ (fun _ h => h)
theorem aw_cond {c : Operand} {x y : Code} {st : St} {Q : AX → St → Prop} {b : Bool} (hb : vOf (opv st.σ c) = some (.val (.bool b))) (h1 : b = true → aw P T x st Q) (h2 : b = false → aw P T y st Q) : aw P T (.cond c x y) st Q := by
  simp only [aw, hb]; exact ⟨h1, h2⟩
theorem aw_cond_t {c : Operand} {x y : Code} {st : St} {Q : AX → St → Prop} (hb : vOf (opv st.σ c) = some (.val (.bool true))) (h1 : aw P T x st Q) : aw P T (.cond c x y) st Q := aw_cond hb (fun _ => h1) (fun h => by cases h)
theorem aw_cond_f {c : Operand} {x y : Code} {st : St} {Q : AX → St → Prop} (hb : vOf (opv st.σ c) = some (.val (.bool false))) (h1 : aw P T y st Q) : aw P T (.cond c x y) st Q := aw_cond hb (fun h => by cases h) (fun _ => h1)
/-- a round has come to its end -/
def lpk {α : Type} (k : Kp) (R : α → Prop) (m : α → Nat) (S : α → St) (y : α) : St → Prop := fun st' => ∃ n st'', n < m y ∧ keepS k st' = some st'' ∧ ∃ z, R z ∧ m z = n ∧ st'' = S z
theorem aw_loop {x : Code} {st : St} {Q : AX → St → Prop} {α : Type} (k : Kp) (R : α → Prop) (m : α → Nat) (S : α → St) (x0 : α) (h0 : keepS k st = some (S x0)) (hR : R x0)
    (hr : ∀ y, R y → aw P T x (S y) (sq (lpk k R m S y) Q)) : aw P T (.loop x) st Q := by
  refine ⟨k, fun n st => ∃ y, R y ∧ m y = n ∧ st = S y, m x0, ⟨S x0, h0, x0, hR, rfl, rfl⟩, ?_⟩
  rintro n st ⟨y, hy, rfl, rfl⟩
  exact hr y hy
theorem lpk_intro {α : Type} {k : Kp} {R : α → Prop} {m : α → Nat} {S : α → St} {y : α} {st : St} (z : α) (hk : keepS k st = some (S z)) (hR : R z) (hm : m z < m y) : lpk k R m S y st :=
  ⟨m z, S z, hm, hk, z, hR, rfl, rfl⟩
theorem sq_nm (A : St → Prop) (Q : AX → St → Prop) (st : St) : sq A Q .nm st = A st := rfl
theorem sq_ex (A : St → Prop) (Q : AX → St → Prop) (id : Nat) (st : St) : sq A Q (.ex id) st = Q (.ex id) st := rfl
theorem sq_rt (A : St → Prop) (Q : AX → St → Prop) (st : St) : sq A Q .rt st = Q .rt st := rfl
theorem blk_nm (id : Nat) (Q : AX → St → Prop) (st : St) : blk id Q .nm st = Q .nm st := rfl
theorem blk_rt (id : Nat) (Q : AX → St → Prop) (st : St) : blk id Q .rt st = Q .rt st := rfl
theorem blk_same (id : Nat) (Q : AX → St → Prop) (st : St) : blk id Q (.ex id) st = Q .nm st := by simp [blk]
theorem blk_other {id i : Nat} (Q : AX → St → Prop) (st : St) (h : Nat.beq i id = false) : blk id Q (.ex i) st = Q (.ex i) st := by
  have : i ≠ id := fun e => by subst e; simp at h
  simp [blk, this]

end Go.Ab
