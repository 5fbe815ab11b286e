/- The model's code, compiled into the small one. -/
import Derived.Test.YthmdkjeflllfpaaHudD
set_option linter.all false
namespace Hud
open Go

def under (P : Program) (t : TypeId) : TypeDesc := (P.underlying t).getD .invalid
def sizeT (P : Program) (t : TypeId) : Option Nat := (P.info? t).map (·.size)
/-- How many cells a value of the type lies in, if it is an aggregate. -/
def aggT (P : Program) (t : TypeId) : Option (Option Nat) :=
  match P.underlying t, P.info? t with
  | some (.struct _), some i => some (some i.size)
  | some (.array _ _), some i => some (some i.size)
  | some _, some _ => some none
  | _, _ => none
def aggOf (ag : Bool) (n : Nat) : Option Nat := if ag then some n else none
/-- The parts of a struct that are compared, one behind the other. -/
def kindsF (P : Program) (g : TypeId → Option (Bool × List LK)) : List Field → Nat → Option (List LK)
  | [], _ => some []
  | f :: fs, off => match g f.type with
    | some (ag, ks) => if f.name ≠ "_" ∧ f.offset = off ∧ aggT P f.type = some (aggOf ag ks.length) then
        match kindsF P g fs (off + ks.length) with
        | some l => some (ks ++ l)
        | none => none
      else none
    | none => none
/-- Comparable cell by cell: an integer, a bool, a string; a struct of such. -/
def kindsT (P : Program) : Nat → TypeId → Option (Bool × List LK)
  | 0, _ => none
  | n + 1, t => match P.underlying t with
    | some (.int k) => some (false, [.int k])
    | some .bool => some (false, [.bool])
    | some .string => some (false, [.str])
    | some (.struct fs) => if P.stoodInHeld t then none else match kindsF P (kindsT P n) fs.toList 0 with
      | some ks => some (true, ks)
      | none => none
    | _ => none

def partsB (P : Program) (fs : List Field) : List (Nat × Operand) → Option (List (Nat × Nat × Operand))
  | [] => some []
  | (i, x) :: r => match fs[i]? with
    | none => none
    | some f => match sizeT P f.type, partsB P fs r with
      | some n, some l => some ((f.offset, n, x) :: l)
      | _, _ => none
def partsA (n : Nat) : List (Nat × Operand) → List (Nat × Nat × Operand)
  | [] => []
  | (i, x) :: r => (i * n, n, x) :: partsA n r

def repZ (z : List Value) : Nat → List Value
  | 0 => []
  | n + 1 => z ++ repZ z n

def compOp1 (P : Program) (o : Oper) : Option HOp :=
  match o.op with
  | .move x => some (.mov x)
  | .assign x => some (.mov x)
  | .pick c a b => some (.pick c a b)
  | .binOp op t x y _ =>
    if op = .eql ∨ op = .neq then
      match P.underlying t with
      | some (.int _) => some (.bin op x y)
      | some .bool => some (.eqb (op == .neq) x y)
      | some .string => some (.bin op x y)
      | some (.struct _) => match kindsT P 20 t with
        | some (_, ks) => if P.eqGuardType P.depth t then none else some (.eqa (op == .neq) ks x y)
        | none => none
      | _ => none
    else some (.bin op x y)
  | .unOp op _ x => some (.un op x)
  | .convert src dst x => match P.underlying src, P.underlying dst with
    | some _, some (.int k) => some (.conv k x)
    | _, _ => none
  | .box _ x => some (.box x)
  | .alloc e => match P.info? e with
    | some i => match i.zero with
      | some z => if z.cells.toList.all (fun x => oneC (.v x)) then some (.alloc z.cells.toList) else none
      | none => none
    | none => none
  | .build t parts => match P.underlying t, P.info? t with
    | some (.struct fs), some i => match i.zero, partsB P fs.toList parts.toList with
      | some z, some l => if fs.toList.all (fun f => (sizeT P f.type).isSome) then some (.bld z.cells.toList l) else none
      | _, _ => none
    | _, _ => none
  | .buildSlice t len parts => match P.underlying t with
    | some (.slice e) => match P.info? e with
      | some i => match i.zero with
        | some z => if z.cells.size = i.size ∧ 0 < i.size ∧ len * i.size ≤ 2 ^ 20 ∧ 0 < len then some (.bsl i.size (repZ z.cells.toList len) (partsA i.size parts.toList) len) else none
        | none => none
      | none => none
    | _ => none
  | .load t a => match aggT P t with
    | some n => some (.ld n a)
    | none => none
  | .store t a x => match sizeT P t with
    | some n => some (.st n a x)
    | none => none
  | .fieldAddr t x f => match P.underlying t with
    | some (.struct fs) => match fs[f]? with
      | some fd => match sizeT P fd.type with
        | some n => if n = 0 then none else some (.fad x fd.offset)
        | none => none
      | none => none
    | _ => none
  | .field t x f => match P.underlying t with
    | some (.struct fs) => match fs[f]? with
      | some fd => match aggT P fd.type with
        | some n => some (.fld x fd.offset n)
        | none => none
      | none => none
    | _ => none
  | .indexAddr t x ix => match P.underlying t with
    | some (.slice e) => match sizeT P e with
      | some k => if k = 0 then none else some (.iad x ix k)
      | none => none
    | some (.array len e) => match sizeT P e with
      | some k => some (.iadA x ix len k)
      | none => none
    | _ => none
  | .index t x ix => match P.underlying t with
    | some .string => some (.ixS x ix)
    | _ => none
  | .extract x i => some (.ext x i)
  | .nilCheck x => some (.nilc x)
  | .makeFunc (.func f) first caps => if first.size = 0 then some (.clo f caps.toList) else none
  | .call c => match c.callee with
    | .value f => some (.call f c.args.toList)
    | .builtin .len => match c.argTypes[0]?, c.args.toList with
      | some t, [x] => match P.underlying t with
        | some .string => some (.lenS x)
        | some (.slice _) => some (.lenL x)
        | _ => none
      | _, _ => none
    | .builtin .append => match c.argTypes.toList, c.args.toList with
      | [t, t'], [x, y] => if t' ≠ t then none else match P.underlying t with
        | some (.slice e) => match P.info? e with
          | some i => match i.zero with
            | some z => if z.cells.size = i.size ∧ 0 < i.size then some (.app x y i.size i.bytes) else none
            | none => none
          | none => none
        | _ => none
      | _, _ => none
    | _ => none
  | _ => none

end Hud
