/- A small code, made out of the model's; what it does to abstract states; its predicate transformer. -/
import Derived.Test.YthmdkjeflllfpaaHudB
set_option linter.all false
namespace Hud
open Go

/-- What a comparable part is. -/
inductive LK where
  | int (k : IntKind)
  | bool
  | str
  deriving DecidableEq, Inhabited

inductive HOp where
  | mov (x : Operand)
  | pick (c a b : Operand)
  | bin (op : BinOp) (x y : Operand)
  | eqa (neg : Bool) (ks : List LK) (x y : Operand)
  | eqb (neg : Bool) (x y : Operand)
  | un (op : UnOp) (x : Operand)
  | conv (k : IntKind) (x : Operand)
  | box (x : Operand)
  | alloc (z : List Value)
  | bld (z : List Value) (parts : List (Nat × Nat × Operand))
  | bsl (k : Nat) (z : List Value) (parts : List (Nat × Nat × Operand)) (len : Nat)
  | ld (n : Option Nat) (p : Operand)
  | st (n : Nat) (p x : Operand)
  | fad (p : Operand) (off : Nat)
  | fld (x : Operand) (off : Nat) (n : Option Nat)
  | iad (x ix : Operand) (k : Nat)
  | iadA (x ix : Operand) (len k : Nat)
  | ixS (x ix : Operand)
  | lenS (x : Operand)
  | lenL (x : Operand)
  | app (x y : Operand) (k bytes : Nat)
  | ext (x : Operand) (i : Nat)
  | clo (f : FuncId) (caps : List Operand)
  | call (f : Operand) (args : List Operand)
  | nilc (x : Operand)
  | slc (x : Operand) (lo hi : Option Operand) (k : Nat)
  | slcS (x : Operand) (lo hi : Option Operand)
  | nilS (neg : Bool) (kind : Nat) (x : Operand)
  | mm (max : Bool) (x y : Operand)
  | mkm (ag : Bool)
  | lku (ag : Bool) (ls : List LK) (z : Value) (m k : Operand) (ok : Bool)
  | mup (ag : Bool) (ls : List LK) (m k x : Operand)
  | men (ag : Bool) (ls : List LK) (z : Value) (m k : Operand)
  | mst (m s x : Operand)
  | del (ag : Bool) (ls : List LK) (m k : Operand)
  | lenM (m : Operand)
  deriving Inhabited

structure HOper where
  dst : Option Nat
  op : HOp
  guard : Option (Nat × Bool)
  deriving Inhabited

/-- A region whose order is drawn: what is done in any case; what is done in one of several rows. -/
inductive HD where
  | done (gc : Bool)
  | no
  | q (o : HOper) (next : HD)
  | alt (o : HOper) (chk : List HOper) (next other : HD)
  deriving Inhabited

inductive HC where
  | skip
  | reg (ops : List HOper)
  | regd (d : HD)
  | seq (a b : HC)
  | cond (c : Operand) (a b : HC)
  | block (id : Nat) (a : HC)
  | loop (drop : List Nat) (a : HC)
  | exit (id : Nat)
  | ret
  | kill (d : List Nat)
  | own (j : Nat) (c : Option Nat) (k : Nat)
  deriving Inhabited

structure St where
  r : Nat
  s : List (Nat × AV)
  T : Tab
  deriving Inhabited

def getS : List (Nat × AV) → Nat → AV
  | [], _ => .any
  | (i, x) :: r, j => if i = j then x else getS r j
def delS : List (Nat × AV) → Nat → List (Nat × AV)
  | [], _ => []
  | (i, x) :: r, j => if i = j then delS r j else (i, x) :: delS r j
def putS (l : List (Nat × AV)) (j : Nat) (x : AV) : List (Nat × AV) := (j, x) :: delS l j
def putO (l : List (Nat × AV)) (d : Option Nat) (x : AV) : List (Nat × AV) := match d with | some j => putS l j x | none => l

def evO (G : Nat → Option (List AV)) (s : List (Nat × AV)) : Operand → AV
  | .tmp t => getS s t
  | .const x => .v x
  | .global g => match G g with | some cs => .rp cs | none => .any
  | .func f => .cl f []

def getT (T : Tab) (i : Nat) : Option AObj := match T[i]? with | some (some o) => some o | _ => none

/-- An aggregate's cells; a value of one cell. -/
def cellsA : AV → List AV
  | .ag cs => cs
  | .v (.agg us) => us.toList.map .v
  | x => [x]
/-- An aggregate's cells. -/
def aggC : AV → Option (List AV)
  | .ag cs => some cs
  | .v (.agg us) => some (us.toList.map .v)
  | _ => none
/-- So many cells from a place on, as a value. -/
def cutA (cs : List AV) (off : Nat) : Option Nat → Option AV
  | none => cs[off]?
  | some n => if off + n ≤ cs.length then some (.ag ((cs.drop off).take n)) else none

/-- One cell that can stand in memory. -/
def oneC : AV → Bool
  | .v (.agg _) => false
  | .v (.tuple _) => false
  | .v _ => true
  | .ls _ _ => true
  | .own _ => true
  | .ptr _ _ => true
  | .elt _ _ _ _ => true
  | .vw _ _ _ _ => true
  | .mp _ => true
  | .cl _ _ => true
  | .rp _ => true
  | _ => false
/-- What Go's operators do to exact values. -/
def pbin (op : BinOp) : Value → Value → Option Value
  | .int k a, .int k' b =>
    match op with
    | .shl => if b < 0 then none else some (.int k (k.wrap (a * 2 ^ (min b.toNat k.bits))))
    | .shr => if b < 0 then none else some (.int k (a.fdiv (2 ^ (min b.toNat k.bits))))
    | _ =>
      if k = k' then
        match op with
        | .add => some (.int k (k.wrap (a + b)))
        | .sub => some (.int k (k.wrap (a - b)))
        | .mul => some (.int k (k.wrap (a * b)))
        | .quo => if b = 0 then none else some (.int k (k.wrap (a.tdiv b)))
        | .rem => if b = 0 then none else some (.int k (a.tmod b))
        | .and => some (.int k (k.wrap (BitVec.ofInt k.bits a &&& BitVec.ofInt k.bits b).toNat))
        | .or => some (.int k (k.wrap (BitVec.ofInt k.bits a ||| BitVec.ofInt k.bits b).toNat))
        | .xor => some (.int k (k.wrap (BitVec.ofInt k.bits a ^^^ BitVec.ofInt k.bits b).toNat))
        | .andNot => some (.int k (k.wrap (BitVec.ofInt k.bits a &&& ~~~ (BitVec.ofInt k.bits b)).toNat))
        | .eql => some (.bool (a == b))
        | .neq => some (.bool (a != b))
        | .lss => some (.bool (a < b))
        | .leq => some (.bool (a ≤ b))
        | .gtr => some (.bool (a > b))
        | .geq => some (.bool (a ≥ b))
        | _ => none
      else none
  | .string a, .string b =>
    match op with
    | .add => if a.size + b.size ≤ maxLen then some (.string (a ++ b)) else none
    | .eql => some (.bool (a.toList == b.toList))
    | .neq => some (.bool (!(a.toList == b.toList)))
    | .lss => some (.bool (Op.bytesLess a.toList b.toList))
    | .leq => some (.bool (Op.bytesLess a.toList b.toList || a.toList == b.toList))
    | .gtr => some (.bool (!(Op.bytesLess a.toList b.toList || a.toList == b.toList)))
    | .geq => some (.bool (!Op.bytesLess a.toList b.toList))
    | _ => none
  | _, _ => none

def pun (op : UnOp) : Value → Option Value
  | .bool b => match op with | .not => some (.bool (!b)) | _ => none
  | .int k n => match op with
    | .neg => some (.int k (k.wrap (0 - n)))
    | .xor => some (.int k (k.wrap (BitVec.ofInt k.bits (if k.signed then -1 else k.max) ^^^ BitVec.ofInt k.bits n).toNat))
    | _ => none
  | _ => none

/-- Are rows of exact cells the same? -/
def eqC : List LK → List AV → List AV → Option Bool
  | [], [], [] => some true
  | .int k :: ks, .v (.int k1 a) :: cs, .v (.int k2 b) :: ds => if k1 = k ∧ k2 = k then (match eqC ks cs ds with | some r => some (a == b && r) | none => none) else none
  | .bool :: ks, .v (.bool a) :: cs, .v (.bool b) :: ds => match eqC ks cs ds with | some r => some (a == b && r) | none => none
  | .str :: ks, .v (.string a) :: cs, .v (.string b) :: ds => match eqC ks cs ds with | some r => some (a.toList == b.toList && r) | none => none
  | _, _, _ => none

def eqV : List LK → List Value → List Value → Option Bool
  | [], [], [] => some true
  | .int k :: ks, .int k1 a :: cs, .int k2 b :: ds => if k1 = k ∧ k2 = k then (match eqV ks cs ds with | some r => some (a == b && r) | none => none) else none
  | .bool :: ks, .bool a :: cs, .bool b :: ds => match eqV ks cs ds with | some r => some (a == b && r) | none => none
  | .str :: ks, .string a :: cs, .string b :: ds => match eqV ks cs ds with | some r => some (a.toList == b.toList && r) | none => none
  | _, _, _ => none

/-- The place of a key. -/
def findK (ls : List LK) (k : List Value) : List (List Value) → Nat → Option (Option Nat)
  | [], _ => some none
  | k' :: r, i => match eqV ls k k' with
    | some true => some (some i)
    | some false => findK ls k r (i + 1)
    | none => none
def exactL : List AV → Option (List Value)
  | [] => some []
  | .v x :: r => match exactL r with
    | some l => some (x :: l)
    | none => none
  | _ :: _ => none
/-- A key's cells. -/
def keyC (ag : Bool) (ls : List LK) (x : AV) : Option (List Value) :=
  match (if ag then (match aggC x with | some cs => exactL cs | none => none) else (match x with | .v u => some [u] | _ => none)) with
  | some k => match eqV ls k k with
    | some _ => some k
    | none => none
  | none => none
/-- The map that a value is. -/
def mapAt (T : Tab) (ag : Bool) : AV → Option (List (List Value) × List AV)
  | .v (.map none) => some ([], [])
  | .mp i => match getT T i with
    | some (.map ag' ks vs _ _) => if ag = ag' then some (ks, vs) else none
    | _ => none
  | _ => none

/-- Parts laid into cells. -/
def layA (cells : List AV) : List (Nat × Nat × AV) → Option (List AV)
  | [] => some cells
  | (off, n, x) :: r =>
    if (cellsA x).length = n ∧ off + n ≤ cells.length ∧ (cellsA x).all oneC = true then layA (cells.take off ++ cellsA x ++ cells.drop (off + n)) r else none

def groups (k : Nat) : Nat → List AV → List (List AV)
  | 0, _ => []
  | n + 1, cs => cs.take k :: groups k n (cs.drop k)

/-- What an operation (no call) gives, and leaves. -/
def hop (T : Tab) (ev : Operand → AV) : HOp → Option (AV × Tab)
  | .mov x => some (ev x, T)
  | .pick c a b => match ev c with
    | .v (.bool t) => some (if t then ev a else ev b, T)
    | _ => none
  | .bin op x y => match ev x, ev y with
    | .v a, .v b => match pbin op a b with
      | some u => some (.v u, T)
      | none => none
    | _, _ => none
  | .eqa neg ks x y => match aggC (ev x), aggC (ev y) with
    | some cs, some ds => match eqC ks cs ds with
      | some t => some (.v (.bool (if neg then !t else t)), T)
      | none => none
    | _, _ => none
  | .eqb neg x y => match ev x, ev y with
    | .v (.bool a), .v (.bool b) => some (.v (.bool (if neg then !(a == b) else a == b)), T)
    | _, _ => none
  | .un op x => match ev x with
    | .v a => match pun op a with
      | some u => some (.v u, T)
      | none => none
    | _ => none
  | .conv k x => match ev x with
    | .v (.int _ n) => some (.v (.int k (k.wrap n)), T)
    | _ => none
  | .box x => if (cellsA (ev x)).all oneC then some (.ptr T.length 0, T ++ [some (.box (cellsA (ev x)))]) else none
  | .alloc z => some (.ptr T.length 0, T ++ [some (.box (z.map .v))])
  | .bld z parts => match layA (z.map .v) (parts.map fun p => (p.1, p.2.1, ev p.2.2)) with
    | some cs => some (.ag cs, T)
    | none => none
  | .bsl k z parts len => match layA (z.map .v) (parts.map fun p => (p.1, p.2.1, ev p.2.2)) with
    | some cs => if cs.all closedA then some (.own T.length, T ++ [some (.arr k (groups k len cs))]) else none
    | none => none
  | .ld n p => match ev p with
    | .ptr i off => match getT T i with
      | some (.box cs) => match cutA cs off n with
        | some x => some (x, T)
        | none => none
      | _ => none
    | .rp cs => match cutA cs 0 n with
      | some x => some (x, T)
      | none => none
    | .elt i k j off => match getT T i with
      | some (.arr k' es) => if k = k' then match es[j]? with
        | some e => match cutA e off n with
          | some x => some (x, T)
          | none => none
        | none => none else none
      | _ => none
    | _ => none
  | .st n p x => match ev p with
    | .ptr i off => match getT T i with
      | some (.box cs) =>
        if (cellsA (ev x)).length = n ∧ off + n ≤ cs.length ∧ (cellsA (ev x)).all oneC then
          some (.v undef, T.set i (some (.box (cs.take off ++ cellsA (ev x) ++ cs.drop (off + n)))))
        else none
      | _ => none
    | .elt i k j off => match getT T i with
      | some (.arr k' es) => if k = k' then match es[j]? with
        | some e =>
          if (cellsA (ev x)).length = n ∧ off + n ≤ e.length ∧ (cellsA (ev x)).all closedA then
            some (.v undef, T.set i (some (.arr k (es.set j (e.take off ++ cellsA (ev x) ++ e.drop (off + n))))))
          else none
        | none => none else none
      | _ => none
    | _ => none
  | .fad p off => match ev p with
    | .ptr i o => some (.ptr i (o + off), T)
    | .elt i k j o => some (.elt i k j (o + off), T)
    | .rp cs => some (.rp (cs.drop off), T)
    | _ => none
  | .fld x off n => match ev x with
    | .ag cs => match cutA cs off n with
      | some y => some (y, T)
      | none => none
    | .v (.agg us) => match cutA (us.toList.map .v) off n with
      | some y => some (y, T)
      | none => none
    | _ => none
  | .iad x ix k => match ev x, ev ix with
    | .ls k' es, .v (.int _ i) => if k = k' ∧ 0 ≤ i then match es[i.toNat]? with
      | some e => some (.rp e, T)
      | none => none else none
    | .own a, .v (.int _ i) => match getT T a with
      | some (.arr k' es) => if k = k' ∧ 0 ≤ i ∧ i.toNat < es.length then some (.elt a k i.toNat 0, T) else none
      | _ => none
    | .vw a k' lo m, .v (.int _ i) => if k = k' ∧ 0 ≤ i ∧ i.toNat < m then some (.elt a k (lo + i.toNat) 0, T) else none
    | _, _ => none
  | .iadA x ix len k => match ev x, ev ix with
    | .ptr a o, .v (.int _ i) => if 0 ≤ i ∧ i < len then some (.ptr a (o + i.toNat * k), T) else none
    | .rp cs, .v (.int _ i) => if 0 ≤ i ∧ i < len then some (.rp (cs.drop (i.toNat * k)), T) else none
    | _, _ => none
  | .ixS x ix => match ev x, ev ix with
    | .v (.string s), .v (.int _ i) => if 0 ≤ i then match s.data[i.toNat]? with
      | some b => some (.v (.int .u8 b.toNat), T)
      | none => none else none
    | _, _ => none
  | .lenS x => match ev x with
    | .v (.string s) => some (.v (.int .i64 s.size), T)
    | _ => none
  | .lenL x => match ev x with
    | .ls _ es => some (.v (.int .i64 es.length), T)
    | .own a => match getT T a with
      | some (.arr _ es) => some (.v (.int .i64 es.length), T)
      | _ => none
    | .v (.slice none 0 0) => some (.v (.int .i64 0), T)
    | .vw _ _ _ m => some (.v (.int .i64 m), T)
    | _ => none
  | .app x y k bytes =>
    let src : Option (List (List AV)) := match ev y with
      | .ls k' es => if k = k' then some es else none
      | .own a => match getT T a with
        | some (.arr k' es) => if k = k' then some es else none
        | _ => none
      | .v (.slice none 0 0) => some []
      | .vw a k' lo m => match getT T a with
        | some (.arr k'' es) => if k = k' ∧ k = k'' ∧ lo + m ≤ es.length then some ((es.drop lo).take m) else none
        | _ => none
      | _ => none
    match src with
    | none => none
    | some new => match ev x with
      | .v (.slice none 0 0) => if new.length * bytes ≤ 140737488355328 ∧ new.length ≤ maxLen then some (.own T.length, T ++ [some (.arr k new)]) else none
      | .own a => match getT T a with
        | some (.arr k' es) => if k = k' ∧ (es.length + new.length) * bytes ≤ 140737488355328 ∧ es.length + new.length ≤ maxLen then some (.own T.length, T.set a none ++ [some (.arr k (es ++ new))]) else none
        | _ => none
      | _ => none
  | .ext x i => match ev x with
    | .tup vs => match vs[i]? with
      | some y => some (y, T)
      | none => none
    | .v (.tuple us) => match us.toList[i]? with
      | some y => some (.v y, T)
      | none => none
    | _ => none
  | .clo f caps => some (.cl f (caps.map ev), T)
  | .call _ _ => none
  | .nilc x => match ev x with
    | .ptr i o => some (.ptr i o, T)
    | .elt i k j o => some (.elt i k j o, T)
    | .rp cs => some (.rp cs, T)
    | _ => none
  | .slc x lo hi k =>
    let bound (o : Option Operand) (d : Nat) : Option Nat := match o with
      | none => some d
      | some o => match ev o with
        | .v (.int _ n) => if 0 ≤ n then some n.toNat else none
        | _ => none
    match ev x with
    | .ls k' es => match bound lo 0, bound hi es.length with
      | some l, some h => if k = k' ∧ l ≤ h ∧ h ≤ es.length then some (.ls k ((es.drop l).take (h - l)), T) else none
      | _, _ => none
    | .own a => match getT T a with
      | some (.arr k' es) => match bound lo 0, bound hi es.length with
        | some l, some h => if k = k' ∧ l ≤ h ∧ h ≤ es.length then some (.vw a k l (h - l), T) else none
        | _, _ => none
      | _ => none
    | .vw a k' lo' m => match bound lo 0, bound hi m with
      | some l, some h => if k = k' ∧ l ≤ h ∧ h ≤ m then some (.vw a k (lo' + l) (h - l), T) else none
      | _, _ => none
    | .v (.slice none 0 0) => match bound lo 0, bound hi 0 with
      | some l, some h => if l = 0 ∧ h = 0 then some (.v (.slice none 0 0), T) else none
      | _, _ => none
    | _ => none
  | .slcS x lo hi =>
    let bound (o : Option Operand) (d : Nat) : Option Nat := match o with
      | none => some d
      | some o => match ev o with
        | .v (.int _ n) => if 0 ≤ n then some n.toNat else none
        | _ => none
    match ev x with
    | .v (.string s) => match bound lo 0, bound hi s.size with
      | some l, some h => if l ≤ h ∧ h ≤ s.size then some (.v (.string (s.extract l h)), T) else none
      | _, _ => none
    | _ => none
  | .nilS neg kd x =>
    let r : Option Bool := match kd, ev x with
      | 0, .v (.pointer none) => some true
      | 0, .ptr _ _ => some false
      | 0, .elt _ _ _ _ => some false
      | 0, .rp _ => some false
      | 1, .v (.slice none 0 0) => some true
      | 1, .own a => match getT T a with
        | some (.arr _ (_ :: _)) => some false
        | _ => none
      | 1, .ls _ (_ :: _) => some false
      | 2, .v .nilFunc => some true
      | 2, .cl _ _ => some false
      | _, _ => none
    match r with
    | some b => some (.v (.bool (if neg then !b else b)), T)
    | none => none
  | .mm mx x y => match ev x, ev y with
    | .v (.int k a), .v (.int k' b) => if k = k' then some (.v (.int k (if mx then (if b > a then b else a) else if b < a then b else a)), T) else none
    | _, _ => none
  | .mkm ag => some (.mp T.length, T ++ [some (.map ag [] [] [] 0)])
  | .lku ag ls z m k ok => match mapAt T ag (ev m), keyC ag ls (ev k) with
    | some (ks, vs), some kc => match findK ls kc ks 0 with
      | some none => some (if ok then .tup [.v z, .v (.bool false)] else .v z, T)
      | some (some j) => match vs[j]? with
        | some x => some (if ok then .tup [x, .v (.bool true)] else x, T)
        | none => none
      | none => none
    | _, _ => none
  | .mup ag ls m k x => match ev m with
    | .mp i => match getT T i, keyC ag ls (ev k) with
      | some (.map ag' ks vs bs cl), some kc => if ag = ag' then match findK ls kc ks 0 with
        | some none => some (.v undef, T.set i (some (.map ag (ks ++ [kc]) (vs ++ [ev x]) (bs ++ [cl]) (cl + 1))))
        | some (some j) => some (.v undef, T.set i (some (.map ag ks (vs.set j (ev x)) bs cl)))
        | none => none else none
      | _, _ => none
    | _ => none
  | .men ag ls z m k => match ev m with
    | .mp i => match getT T i, keyC ag ls (ev k) with
      | some (.map ag' ks vs bs cl), some kc => if ag = ag' then match findK ls kc ks 0 with
        | some none => some (.tup [.v z, .v (.int .i64 cl)], T.set i (some (.map ag (ks ++ [kc]) (vs ++ [.v z]) (bs ++ [cl]) (cl + 1))))
        | some (some j) => match vs[j]?, bs[j]? with
          | some x, some b => some (.tup [x, .v (.int .i64 b)], T)
          | _, _ => none
        | none => none else none
      | _, _ => none
    | _ => none
  | .mst m s x => match ev m, ev s with
    | .mp i, .v (.int _ n) => match getT T i with
      | some (.map ag ks vs bs cl) => match bs.findIdx? (fun (b : Nat) => (b : Int) == n) with
        | some j => some (.v undef, T.set i (some (.map ag ks (vs.set j (ev x)) bs cl)))
        | none => none
      | _ => none
    | _, _ => none
  | .del ag ls m k => match ev m with
    | .mp i => match getT T i, keyC ag ls (ev k) with
      | some (.map ag' ks vs bs cl), some kc => if ag = ag' then match findK ls kc ks 0 with
        | some none => some (.v (.tuple #[]), T)
        | some (some j) => some (.v (.tuple #[]), T.set i (some (.map ag (ks.eraseIdx j) (vs.eraseIdx j) (bs.eraseIdx j) cl)))
        | none => none else none
      | _, _ => none
    | _ => none
  | .lenM m => match ev m with
    | .v (.map none) => some (.v (.int .i64 0), T)
    | .mp i => match getT T i with
      | some (.map _ ks _ _ _) => some (.v (.int .i64 ks.length), T)
      | _ => none
    | _ => none
end Hud
