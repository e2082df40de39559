/-
  What a quiet operation gives; the model's operation gives it.
-/
import Derived.Test.YtbofgklhjjfbkaaGreatDoorAb3
namespace Go.Ab
open Go.RowKit

def nu : Option TV → Option TV
  | some .u => none
  | r => r

def memV (h : List (Nat × Blk)) (id off : Nat) : Option (List V) :=
  match look id h with
  | some (.var cs) => some (cs.drop off)
  | some (.con cs) => some (cs.drop off)
  | _ => none

/-- the cells behind a pointer -/
def behind (h : List (Nat × Blk)) : Option TV → Option (List V)
  | some (.v (.row cs)) => some cs
  | some (.p id off) => memV h id off
  | _ => none

def capV (h : List (Nat × Blk)) : Option TV → Option V
  | some (.v x) => some x
  | some (.p id off) => match look id h with
    | some (.con cs) => some (.row (cs.drop off))
    | _ => none
  | _ => none
def capsV (ρ : Operand → Option TV) (h : List (Nat × Blk)) : List Operand → Option (List V)
  | [] => some []
  | x :: r => match capV h (ρ x), capsV ρ h r with
    | some v, some vs => some (v :: vs)
    | _, _ => none

def lenV (P : Program) (t : TypeId) (h : List (Nat × Blk)) : Option TV → Option V
  | some (.v (.slice _ es)) => if (slV P t).isSome = true then some (.val (.int .i64 es.length)) else none
  | some (.v (.str l)) => if strB P t = true then some (.val (.int .i64 l.length)) else none
  | some (.v (.val (.slice none 0 0))) => if (slV P t).isSome = true then some (.val (.int .i64 0)) else none
  | some (.s _ _ n _) => if (slV P t).isSome = true then some (.val (.int .i64 n)) else none
  | some (.m id) => match look id h, P.underlying t with
    | some (.map es), some (.map _ _) => some (.val (.int .i64 es.length))
    | _, _ => none
  | _ => none

def mapKV (P : Program) (t : TypeId) : Option (TypeId × TypeId) :=
  match P.underlying t with
  | some (.map k e) => some (k, e)
  | _ => none
def zeroV (P : Program) (t : TypeId) : Option Value := (P.info? t).bind (·.zero)

/-- may a key of this type be compared now? strings and ints alone -/
def keyEq : V → V → Option Bool
  | .val (.int j a), .val (.int k b) => if j = k then some (decide (a = b)) else none
  | .str a, .str b => some (a == b)
  | _, _ => none
def keyT (P : Program) (t : TypeId) (x : V) : Bool :=
  match P.underlying t, x with
  | some (.int _), .val (.int _ _) => true
  | some .string, .str _ => true
  | _, _ => false
def findV (k : V) : List (V × V) → Option (Option V)
  | [] => some none
  | (k', v) :: r => match keyEq k k' with
    | some true => some (some v)
    | some false => findV k r
    | none => none

/-- the entries of a map: a local one, one that stays as it is, or the nil map -/
def mapE (h : List (Nat × Blk)) : Option TV → Option (List (V × V))
  | some (.m id) => match look id h with
    | some (.map es) => some es
    | _ => none
  | some (.v (.map ks vs)) => some (ks.zip vs)
  | some (.v (.val (.map none))) => some []
  | _ => none

def idxV (es : List (List V)) (i : V) : Option (List V) :=
  match i with
  | .val (.int _ n) => if 0 ≤ n then es[n.toNat]? else none
  | _ => none
def bytV (l : List UInt8) (i : V) : Option V :=
  match i with
  | .val (.int _ n) => if 0 ≤ n then (l[n.toNat]?).map fun b => .val (.int .u8 b.toNat) else none
  | _ => none

def sliceV (P : Program) (t : TypeId) (x : V) (lo hi : Option V) : Option V :=
  match x with
  | .str l => if strB P t = true then (cutV l.length lo hi).map fun (a, b) => .str ((l.take b).drop a) else none
  | .slice size es => if (slV P t).map (·.2) = some size then (cutV es.length lo hi).map fun (a, b) => .slice size ((es.take b).drop a) else none
  | _ => none

def idxS (m : Nat) (i : V) : Option Nat :=
  match i with
  | .val (.int _ n) => if 0 ≤ n ∧ n < m then some n.toNat else none
  | _ => none
/-- a part of a local row; an empty one is no part of it any more -/
def cutS (id off size : Nat) : Nat × Nat → TV
  | (a, b) => if a = b then .v (.slice size []) else .s id (off + a * size) (b - a) size

def optV (ρ : Operand → Option TV) : Option Operand → Option (Option V)
  | none => some none
  | some x => (vOf (ρ x)).map some

/-- A quiet operation that makes no memory. -/
def evq (P : Program) (ρ : Operand → Option TV) (h : List (Nat × Blk)) (o : Op) : Option TV :=
  match o with
  | .move x => nu (ρ x)
  | .assign x => nu (ρ x)
  | .pick c a b => match vOf (ρ c) with
    | some (.val (.bool t)) => bif t then nu (ρ a) else nu (ρ b)
    | _ => none
  | .load t a => (behind h (ρ a)).bind fun cs => (ldV P t cs).map .v
  | .fieldAddr s x f => match fldV P s f, ρ x with
    | some (off, _), some (.v (.row cs)) => some (.v (.row (cs.drop off)))
    | some (off, _), some (.p id o) => some (.p id (o + off))
    | _, _ => none
  | .field s x f => match fldV P s f, vOf (ρ x) with
    | some (off, ft), some (.agg cs) => (ldV P ft (cs.drop off)).map .v
    | _, _ => none
  | .indexAddr t x i => match slV P t, ρ x, vOf (ρ i) with
    | some (_, n), some (.v (.slice size es)), some i => if n = size then (idxV es i).map fun e => .v (.row e) else none
    | some (_, n), some (.s id off m size), some i => if n = size then (idxS m i).map fun k => .p id (off + k * size) else none
    | _, _, _ => none
  | .index t x i => match strB P t, vOf (ρ x), vOf (ρ i) with
    | true, some (.str l), some i => (bytV l i).map .v
    | _, _, _ => none
  | .slice t x lo hi none => match ρ x, optV ρ lo, optV ρ hi with
    | some (.v x), some lo, some hi => (sliceV P t x lo hi).map .v
    | some (.s id off m size), some lo, some hi => if (slV P t).map (·.2) = some size then (cutV m lo hi).map (cutS id off size) else none
    | _, _, _ => none
  | .binOp op t x y _ => match vOf (ρ x), vOf (ρ y) with
    | some (.val .nilIface), some (.val .nilIface) => match y with
      | .const _ => if ifcB P t = true then (eqOp op true).map .v else none
      | _ => none
    | some x, some y => (binV P op t x y).map .v
    | _, _ => none
  | .unOp .not _ x => match vOf (ρ x) with
    | some (.val (.bool b)) => some (.v (.val (.bool (!b))))
    | _ => none
  | .unOp .neg _ x => match vOf (ρ x) with
    | some (.val (.int k n)) => some (.v (.val (.int k (k.wrap (0 - n)))))
    | _ => none
  | .convert src dst x => match (P.underlying src).isSome, vOf (ρ x) with
    | true, some x => (convV P src dst x).map .v
    | _, _ => none
  | .extract x i => match vOf (ρ x) with
    | some (.tup vs) => (vs[i]?).map .v
    | _ => none
  | .makeFunc (.func f) first cap => if first.size = 0 then (capsV ρ h cap.toList).map fun vs => .v (.func f vs) else none
  | .lookup t x i ok => match mapKV P t, mapE h (ρ x), vOf (ρ i) with
    | some (kt, et), some es, some k => match zeroV P et with
      | some z => if keyT P kt k = true ∧ okVal z = true then (findV k es).map fun r => .v (bif ok then .tup [r.getD (ofVal z), .val (.bool r.isSome)] else r.getD (ofVal z)) else none
      | none => none
    | _, _, _ => none
  | .call c => match c.callee with
    | .builtin .len => match c.args.toList, c.argTypes.toList with
      | [x], [t] => (lenV P t h (ρ x)).map .v
      | _, _ => none
    | _ => none
  | _ => none
end Go.Ab
