/-
  The quiet operations: what each gives on values without addresses, and that the model's operation gives just that.
-/
import Derived.Test.YtbofgklhjjfbkaaGreatDoorAb1
import Derived.IntWalk
import Derived.Laws.StructEq
namespace Go.Ab
open Go.RowKit

/-! what the types say -/
def aggB (P : Program) (t : TypeId) : Option Bool :=
  match P.underlying t with
  | some (.struct _) => some true
  | some (.array _ _) => some true
  | some _ => some false
  | none => none

def fldV (P : Program) (s : TypeId) (f : Nat) : Option (Nat × TypeId) :=
  match P.underlying s with
  | some (.struct fs) => match fs[f]? with
    | some fd => if P.cellsOf fd.type = 0 then none else some (fd.offset, fd.type)
    | none => none
  | _ => none

/-- the element type of a slice type, and its size -/
def slV (P : Program) (t : TypeId) : Option (TypeId × Nat) :=
  match P.underlying t with
  | some (.slice e) => if P.cellsOf e = 0 then none else some (e, P.cellsOf e)
  | _ => none

def strB (P : Program) (t : TypeId) : Bool := match P.underlying t with | some .string => true | _ => false
def boolB (P : Program) (t : TypeId) : Bool := match P.underlying t with | some .bool => true | _ => false
def ifcB (P : Program) (t : TypeId) : Bool := match P.underlying t with | some (.interface _) => true | _ => false
def intK (P : Program) (t : TypeId) : Option IntKind := match P.underlying t with | some (.int k) => some k | _ => none
def arrV (P : Program) (t : TypeId) : Option (Nat × TypeId × Nat) :=
  match P.underlying t with
  | some (.array n e) => if P.cellsOf e = 0 then none else some (n, e, P.cellsOf e)
  | _ => none

def takeN : Nat → List V → Option (List V)
  | 0, _ => some []
  | n + 1, c :: cs => (takeN n cs).map (c :: ·)
  | _ + 1, [] => none
theorem takeN_some : ∀ {n : Nat} {cs r : List V}, takeN n cs = some r → r = cs.take n ∧ n ≤ cs.length
  | 0, _, _, h => by simp [takeN] at h; subst h; simp
  | n + 1, c :: cs, r, h => by
    simp only [takeN] at h
    cases h' : takeN n cs with
    | none => rw [h'] at h; cases h
    | some r' =>
      rw [h'] at h
      obtain rfl : r = c :: r' := by simpa using h.symm
      obtain ⟨rfl, hl⟩ := takeN_some h'
      exact ⟨by simp, by simp; omega⟩
  | _ + 1, [], _, h => by simp [takeN] at h

/-- A variable of type t at the head of the cells. -/
def ldV (P : Program) (t : TypeId) (cs : List V) : Option V :=
  match aggB P t with
  | some true => (takeN (P.cellsOf t) cs).map .agg
  | some false => cs.head?
  | none => none

def intOp (op : BinOp) (k : IntKind) (a b : Int) : Option V :=
  match op with
  | .add => some (.val (.int k (k.wrap (a + b))))
  | .sub => some (.val (.int k (k.wrap (a - b))))
  | .mul => some (.val (.int k (k.wrap (a * b))))
  | .quo => if b = 0 then none else some (.val (.int k (k.wrap (a.tdiv b))))
  | .rem => if b = 0 then none else some (.val (.int k (a.tmod b)))
  | .eql => some (.val (.bool (decide (a = b))))
  | .neq => some (.val (.bool (!decide (a = b))))
  | .lss => some (.val (.bool (decide (a < b))))
  | .leq => some (.val (.bool (decide (a ≤ b))))
  | .gtr => some (.val (.bool (decide (b < a))))
  | .geq => some (.val (.bool (decide (b ≤ a))))
  | _ => none

def strOp (op : BinOp) (a b : List UInt8) : Option V :=
  match op with
  | .add => if a.length + b.length ≤ 9223372036854775807 then some (.str (a ++ b)) else none
  | .eql => some (.val (.bool (a == b)))
  | .neq => some (.val (.bool (!(a == b))))
  | .lss => some (.val (.bool (Op.bytesLess a b)))
  | .leq => some (.val (.bool (Op.bytesLess a b || a == b)))
  | .gtr => some (.val (.bool (!(Op.bytesLess a b || a == b))))
  | .geq => some (.val (.bool (!Op.bytesLess a b)))
  | _ => none

def eqOp (op : BinOp) (b : Bool) : Option V :=
  match op with
  | .eql => some (.val (.bool b))
  | .neq => some (.val (.bool (!b)))
  | _ => none

/-- what plain cells hold -/
inductive Lf where
  | i
  | b
  | s
def eqC : Lf → V → V → Option Bool
  | .i, .val (.int j a), .val (.int k b) => if j = k then some (decide (a = b)) else none
  | .b, .val (.bool a), .val (.bool b) => some (a == b)
  | .s, .str a, .str b => some (a == b)
  | _, _, _ => none
/-- two lists of plain cells -/
def eqCells : List Lf → List V → List V → Option Bool
  | [], [], [] => some true
  | l :: ls, x :: xs, y :: ys => match eqC l x y, eqCells ls xs ys with
    | some p, some q => some (p && q)
    | _, _ => none
  | _, _, _ => none
/-- the fields lie one behind the other, and none is named _ -/
def flatL (g : TypeId → Option (List Lf)) : Nat → List Field → Option (List Lf)
  | _, [] => some []
  | k, f :: r => if f.name ≠ "_" ∧ f.offset = k then match g f.type with
    | some ks => (flatL g (k + ks.length) r).map (ks ++ ·)
    | none => none
    else none
/-- the cells of a type that is made of numbers, bools and strings -/
def flatT (P : Program) : Nat → TypeId → Option (List Lf)
  | 0, _ => none
  | d + 1, t => match P.underlying t with
    | some (.int _) => if aggB P t = some false then some [.i] else none
    | some .bool => if aggB P t = some false then some [.b] else none
    | some .string => if aggB P t = some false then some [.s] else none
    | some (.struct fs) => if P.stoodInHeld t = false ∧ aggB P t = some true then match flatL (flatT P d) 0 fs.toList with
      | some ks => if P.cellsOf t = ks.length then some ks else none
      | none => none
      else none
    | _ => none
def eqT (P : Program) (t : TypeId) : Option (List Lf) :=
  match P.underlying t with
  | some (.struct _) => if P.eqGuardType P.depth t = false then flatT P 8 t else none
  | _ => none

def binV (P : Program) (op : BinOp) (t : TypeId) (x y : V) : Option V :=
  match x, y with
  | .val (.int j a), .val (.int k b) => if j = k then intOp op j a b else none
  | .val (.bool a), .val (.bool b) => if boolB P t = true then eqOp op (a == b) else none
  | .str a, .str b => strOp op a b
  | .slice _ (_ :: _), .val (.slice none 0 0) => if (slV P t).isSome = true then eqOp op false else none
  | .val (.slice none 0 0), .val (.slice none 0 0) => if (slV P t).isSome = true then eqOp op true else none
  | .ifc, .val .nilIface => if ifcB P t = true then eqOp op false else none
  | .agg cs, .agg ds => match eqT P t with
    | some ks => match eqCells ks cs ds with
      | some b => eqOp op b
      | none => none
    | none => none
  | _, _ => none

def convV (P : Program) (_src dst : TypeId) (x : V) : Option V :=
  match x with
  | .val (.int _ n) => match intK P dst with | some k => some (.val (.int k (k.wrap n))) | none => none
  | .str l => if strB P dst = true then some (.str l) else none
  | _ => none

def nums : V → Option Int
  | .val (.int _ n) => some n
  | _ => none

/-- the bounds of a cut: 'lo' and 'hi' of at most n -/
def cutV (n : Nat) (lo hi : Option V) : Option (Nat × Nat) :=
  match (match hi with | none => some (n : Int) | some v => nums v), (match lo with | none => some 0 | some v => nums v) with
  | some h, some l => if 0 ≤ l ∧ l ≤ h ∧ h ≤ n then some (l.toNat, h.toNat) else none
  | _, _ => none

def vOf : Option TV → Option V
  | some (.v x) => some x
  | _ => none

def vsOf (ρ : Operand → Option TV) : List Operand → Option (List V)
  | [] => some []
  | x :: r => match vOf (ρ x), vsOf ρ r with
    | some v, some vs => some (v :: vs)
    | _, _ => none

def okNot (v : Option V) : Option TV := v.map .v
end Go.Ab
