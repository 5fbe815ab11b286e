/- Which objects are still named, in a row of their own; the predicate transformer. -/
import Derived.Test.YthmdkjeflllfpaaHudC
set_option linter.all false
namespace Hud
open Go

mutual
/-- The objects that a value names. -/
def idsA : AV → List Nat
  | .own i => [i]
  | .ptr i _ => [i]
  | .elt i _ _ _ => [i]
  | .vw i _ _ _ => [i]
  | .mp i => [i]
  | .ag cs => idsL cs
  | .cl _ cs => idsL cs
  | .tup cs => idsL cs
  | _ => []
def idsL : List AV → List Nat
  | [] => []
  | c :: cs => idsA c ++ idsL cs
end

def idsO : Option AObj → List Nat
  | some (.box cs) => idsL cs
  | some (.map _ _ vs _ _) => idsL vs
  | _ => []

def addN : List Nat → List Nat → List Nat
  | L, [] => L
  | L, i :: r => if L.contains i then addN L r else addN (L ++ [i]) r
def idsM (T : Tab) : List Nat → List Nat
  | [] => []
  | i :: r => idsO (getT T i) ++ idsM T r
def rounds (T : Tab) : Tab → List Nat → List Nat
  | [], L => L
  | _ :: R, L => rounds T R (addN L (idsM T L))
/-- What is reached from some. -/
def reach (T : Tab) (ids : List Nat) : List Nat := rounds T T (addN [] ids)

def idx (L : List Nat) (i : Nat) : Option Nat := L.idxOf? i

mutual
/-- A value, its objects named by their places in L. -/
def rnA (L : List Nat) : AV → AV
  | .own i => match idx L i with | some j => .own j | none => .any
  | .ptr i o => match idx L i with | some j => .ptr j o | none => .any
  | .elt i k j o => match idx L i with | some m => .elt m k j o | none => .any
  | .vw i k j o => match idx L i with | some m => .vw m k j o | none => .any
  | .mp i => match idx L i with | some m => .mp m | none => .any
  | .ag cs => .ag (rnL L cs)
  | .cl f cs => .cl f (rnL L cs)
  | .tup cs => .tup (rnL L cs)
  | x => x
def rnL (L : List Nat) : List AV → List AV
  | [] => []
  | c :: cs => rnA L c :: rnL L cs
end
def rnO (L : List Nat) : AObj → AObj
  | .box cs => .box (rnL L cs)
  | .arr k es => .arr k es
  | .map ag ks vs bs cl => .map ag ks (rnL L vs) bs cl
def rnT (L : List Nat) (T : Tab) : Tab := L.map fun i => (getT T i).map (rnO L)

def insS (p : Nat × AV) : List (Nat × AV) → List (Nat × AV)
  | [] => [p]
  | q :: r => if p.1 < q.1 then p :: q :: r else q :: insS p r
def sortS : List (Nat × AV) → List (Nat × AV)
  | [] => []
  | p :: r => insS p (sortS r)
def dropS (d : List Nat) : List (Nat × AV) → List (Nat × AV)
  | [] => []
  | (i, x) :: r => if d.contains i then dropS d r else (i, x) :: dropS d r
def rnS (L : List Nat) : List (Nat × AV) → List (Nat × AV)
  | [] => []
  | (i, x) :: r => (i, rnA L x) :: rnS L r
def idsS : List (Nat × AV) → List Nat
  | [] => []
  | (_, x) :: r => idsA x ++ idsS r

/-- At a loop's head: what the round does not need is forgotten; the objects stand in one row. -/
def gcs (d : List Nat) (st : St) : St :=
  let s := sortS (dropS d st.s)
  let L := reach st.T (List.range st.r ++ idsS s)
  ⟨st.r, rnS L s, rnT L st.T⟩

/-- A value handed back by a callee that was handed the objects L: its objects as the caller names them. -/
def bk (L : List Nat) (n : Nat) (j : Nat) : Nat := if j < L.length then L.getD j 0 else n + (j - L.length)
mutual
def bkA (L : List Nat) (n : Nat) : AV → AV
  | .own i => .own (bk L n i)
  | .ptr i o => .ptr (bk L n i) o
  | .elt i k j o => .elt (bk L n i) k j o
  | .vw i k j o => .vw (bk L n i) k j o
  | .mp i => .mp (bk L n i)
  | .ag cs => .ag (bkL L n cs)
  | .cl f cs => .cl f (bkL L n cs)
  | .tup cs => .tup (bkL L n cs)
  | x => x
def bkL (L : List Nat) (n : Nat) : List AV → List AV
  | [] => []
  | c :: cs => bkA L n c :: bkL L n cs
end
def bkO (L : List Nat) (n : Nat) : Option AObj → Option AObj
  | some (.box cs) => some (.box (bkL L n cs))
  | some (.arr k es) => some (.arr k es)
  | some (.map ag ks vs bs cl) => some (.map ag ks (bkL L n vs) bs cl)
  | none => none
/-- The caller's table behind the call. -/
def bkT (L : List Nat) (n : Nat) : Tab → List Nat → Tab → Tab
  | T, _, [] => T
  | T, [], T' => T ++ T'.map (bkO L n)
  | T, i :: L', o :: T' => bkT L n (T.set i (bkO L n o)) L' T'

mutual
/-- Arrays of the function's own, lent as immutable ones. -/
def lendA (T : Tab) : AV → AV
  | .own i => match getT T i with | some (.arr k es) => .ls k es | _ => .any
  | .vw i k lo m => match getT T i with | some (.arr k' es) => if k = k' ∧ lo + m ≤ es.length then .ls k ((es.drop lo).take m) else .any | _ => .any
  | .ag cs => .ag (lendL T cs)
  | x => x
def lendL (T : Tab) : List AV → List AV
  | [] => []
  | c :: cs => lendA T c :: lendL T cs
end
mutual
/-- Without any immutable slice. -/
def flatA : AV → Prop
  | .ls _ es => es = []
  | .rp cs => cs = []
  | .ag cs => flatL cs
  | .cl _ cs => flatL cs
  | .tup cs => flatL cs
  | _ => True
def flatL : List AV → Prop
  | [] => True
  | c :: cs => flatA c ∧ flatL cs
end
def flatO : Option AObj → Prop
  | some (.box cs) => flatL cs
  | some (.map _ _ vs _ _) => flatL vs
  | some (.arr _ es) => ∀ e ∈ es, ∀ c ∈ e, ∃ x, c = .v x
  | none => True

mutual
/-- May be seen as: an empty slice without memory as any empty one. -/
def subA : AV → AV → Prop
  | .ag cs, y => y = .ag cs ∨ ∃ ds, y = .ag ds ∧ subL cs ds
  | .v u, y => y = .v u ∨ (u = .slice none 0 0 ∧ ∃ k, y = .ls k []) ∨ (∃ us, u = .agg us ∧ y = .ag (us.toList.map .v))
  | x, y => y = x
def subL : List AV → List AV → Prop
  | [], y => y = []
  | c :: cs, y => ∃ d ds, y = d :: ds ∧ subA c d ∧ subL cs ds
end

/-- A call: the objects that it is handed are handed on; or the arrays among the arguments are lent. -/
def callW0 (P : Program) (G : Nat → Option (List AV)) (f : FuncId) (args : List AV) (T : Tab) (K : AV → Tab → Prop) : Prop :=
  (let L := (reach T (idsL args)).filter (· < T.length)
   CallOk P G f (rnL L args) (rnT L T) fun r T' => K (bkA L T.length r) (bkT L T.length T L T')) ∨
  (idsL (lendL T args) = [] ∧ CallOk P G f (lendL T args) [] fun r T' => flatA r ∧ (∀ o ∈ T', flatO o) ∧ K (bkA [] T.length r) (T ++ T'.map (bkO [] T.length)))

/-- A call, of arguments as they are, or as they may be seen. -/
def callW (P : Program) (G : Nat → Option (List AV)) (f : FuncId) (args : List AV) (T : Tab) (K : AV → Tab → Prop) : Prop :=
  ∃ args', subL args args' ∧ callW0 P G f args' T K

/-- A slice without memory in a slot, or in a box that a slot points to, is taken for an array of the function's own. -/
def ownSt (st : St) (j : Nat) (c : Option Nat) (k : Nat) : St :=
  match c with
  | none => match getS st.s j with
    | .v (.slice none 0 0) => ⟨st.r, putS st.s j (.own st.T.length), st.T ++ [some (.arr k [])]⟩
    | _ => st
  | some c => match getS st.s j with
    | .ptr i _ => match getT st.T i with
      | some (.box cs) => match cs[c]? with
        | some (.v (.slice none 0 0)) => ⟨st.r, st.s, (st.T ++ [some (AObj.arr k [])]).set i (some (.box (cs.set c (.own st.T.length))))⟩
        | _ => st
      | _ => st
    | _ => st

def opW (P : Program) (G : Nat → Option (List AV)) (st : St) (o : HOp) (K : AV → Tab → Prop) : Prop :=
  match o with
  | .call f args => match evO G st.s f with
    | .cl g caps => callW P G g (args.map (evO G st.s) ++ caps) st.T K
    | _ => False
  | o => match hop st.T (evO G st.s) o with
    | some (x, T) => K x T
    | none => False

def wants (s : List (Nat × AV)) : Option (Nat × Bool) → Option Bool
  | none => some true
  | some (j, b) => match getS s j with
    | .v (.bool t) => some (t == b)
    | .v (.tuple _) => some false
    | _ => none

def opsW (P : Program) (G : Nat → Option (List AV)) : List HOper → St → (St → Prop) → Prop
  | [], st, K => K st
  | o :: os, st, K => match wants st.s o.guard with
    | some true => opW P G st o.op fun x T => opsW P G os ⟨st.r, putO st.s o.dst x, T⟩ K
    | some false => opsW P G os ⟨st.r, putO st.s o.dst (.v undef), st.T⟩ K
    | none => False

/-- These, made already, would be the same if they were made now. -/
def chkW (G : Nat → Option (List AV)) (st : St) : List HOper → Prop
  | [] => True
  | o :: os => (match wants st.s o.guard with
    | some true => match hop st.T (evO G st.s) o.op with
      | some (x, _) => o.dst.map (getS st.s) = some x
      | none => False
    | some false => o.dst.map (getS st.s) = some (.v undef)
    | none => False) ∧ chkW G st os

def hdW (P : Program) (G : Nat → Option (List AV)) : HD → St → (St → Prop) → Prop
  | .done b, st, K => K (if b then gcs [] st else st)
  | .no, _, _ => True
  | .q o next, st, K => match wants st.s o.guard with
    | some true => match hop st.T (evO G st.s) o.op with
      | some (x, _) => hdW P G next ⟨st.r, putO st.s o.dst x, st.T⟩ K
      | none => False
    | some false => hdW P G next ⟨st.r, putO st.s o.dst (.v undef), st.T⟩ K
    | none => False
  | .alt o chk next other, st, K => (match wants st.s o.guard with
    | some true => opW P G st o.op fun x T => chkW G ⟨st.r, putO st.s o.dst x, T⟩ chk ∧ hdW P G next ⟨st.r, putO st.s o.dst x, T⟩ K
    | some false => chkW G ⟨st.r, putO st.s o.dst (.v undef), st.T⟩ chk ∧ hdW P G next ⟨st.r, putO st.s o.dst (.v undef), st.T⟩ K
    | none => False) ∧ hdW P G other st K

inductive Ex where
  | normal
  | exit (id : Nat)
  | ret

def codeW (P : Program) (G : Nat → Option (List AV)) : HC → (Ex → St → Prop) → St → Prop
  | .skip, Q, st => Q .normal st
  | .reg ops, Q, st => opsW P G ops st (Q .normal)
  | .regd d, Q, st => hdW P G d st (Q .normal)
  | .seq a b, Q, st => codeW P G a (fun e st' => match e with | .normal => codeW P G b Q st' | e => Q e st') st
  | .cond c a b, Q, st => match evO G st.s c with
    | .v (.bool t) => if t then codeW P G a Q st else codeW P G b Q st
    | _ => False
  | .block id a, Q, st => codeW P G a (fun e st' => match e with | .exit j => if j = id then Q .normal st' else Q (.exit j) st' | e => Q e st') st
  | .loop d a, Q, st => ∃ I : Nat → St → Prop, (∃ n, I n (gcs d st)) ∧ ∀ n s, I n s → codeW P G a (fun e s' => match e with | .normal => ∃ m, m < n ∧ I m (gcs d s') | e => Q e s') s
  | .exit id, Q, st => Q (.exit id) st
  | .ret, Q, st => Q .ret st
  | .kill d, Q, st => Q .normal ⟨st.r, dropS d st.s, st.T⟩
  | .own j c k, Q, st => Q .normal (ownSt st j c k)
end Hud
