/- Operations that leave the world alone. -/
import Derived.Test.YthmdkjeflllfpaaHudF
set_option linter.all false
namespace Hud
open Go

section
variable {P : Program} {G : Nat → Option (List AV)} {h : GH} {φ : Nat → Value} {T : Tab} {w : World} {s : List (Nat × AV)} {a : Act}

/-- It gives a value that the abstract one stands for, and leaves the world as it is. -/
def Gives (P : Program) (h : GH) (φ : Nat → Value) (n : Nat) (a : Act) (w : World) (o : Oper) (x : AV) : Prop :=
  ∃ v, (execOp a.eval o).run P w = .ok (.value v) w ∧ Rp h φ n x v

theorem bin_run {op : BinOp} {t : TypeId} {x y : Operand} {a b u : Value} (e : pbin op a b = some u) :
    (do eqGuard op t x y a b; binOp op t a b : Sem Value).run P w = .ok u w := by
  unfold pbin at e
  split at e
  · rename_i k p k' q
    cases op
    case shl =>
      simp only at e
      split at e
      · simp at e
      · rename_i hq
        injection e with e; subst e
        have : (binOp BinOp.shl t (Value.int k p) (Value.int k' q)) = Op.shift BinOp.shl k p k' q := rfl
        simp [eqGuard, this, Op.shift, hq]
    case shr =>
      simp only at e
      split at e
      · simp at e
      · rename_i hq
        injection e with e; subst e
        have : (binOp BinOp.shr t (Value.int k p) (Value.int k' q)) = Op.shift BinOp.shr k p k' q := rfl
        simp [eqGuard, this, Op.shift, hq]
    all_goals
      simp only at e
      split at e
      · rename_i hk
        subst hk
        first
          | (injection e with e; subst e; simp [eqGuard, binOp, Op.intArith, Op.intDiv, Op.intBits, Op.intCmp]; done)
          | (split at e
             · simp at e
             · rename_i hq
               injection e with e; subst e; simp [eqGuard, binOp, Op.intDiv, hq])
          | (simp at e; done)
      · simp at e
  · rename_i p q
    cases op <;> simp only at e <;> (try split at e) <;> (try (simp at e; done)) <;> (injection e with e; subst e) <;> (try (simp [eqGuard, binOp, Op.stringOp]; done))
    rename_i hle
    unfold maxLen at hle
    simp [eqGuard, binOp, Op.stringOp]
    omega
  · simp at e

theorem equal_bool {t : TypeId} (ht : P.underlying t = some .bool) {a b : Bool} : (Op.equal t (.bool a) (.bool b)).run P w = .ok (a == b) w := by
  have key : ∀ d, (Op.equalIn (d + 1) t (.bool a) (.bool b)).run P w = .ok (a == b) w := fun d => by simp [Op.equalIn, run_underlying ht]
  exact key 9999
theorem eqb_run {op : BinOp} (hop : op = .eql ∨ op = .neq) {t : TypeId} (ht : P.underlying t = some .bool) {x y : Operand} {a b : Bool} :
    (do eqGuard op t x y (.bool a) (.bool b); binOp op t (.bool a) (.bool b) : Sem Value).run P w = .ok (.bool (if op == .neq then !(a == b) else a == b)) w := by
  rcases hop with rfl | rfl
  · have e : binOp .eql t (.bool a) (.bool b) = (do pure (.bool (← Op.equal t (.bool a) (.bool b)))) := rfl
    rw [e]
    simp [eqGuard, equal_bool ht]
  · have e : binOp .neq t (.bool a) (.bool b) = (do pure (.bool (!(← Op.equal t (.bool a) (.bool b))))) := rfl
    rw [e]
    simp [eqGuard, equal_bool ht]

theorem un_run {op : UnOp} {a u : Value} (e : pun op a = some u) : (Op.unary op a).run P w = .ok u w := by
  unfold pun at e
  split at e
  · cases op <;> simp only at e <;> (try (simp at e; done)) <;> (injection e with e; subst e; simp [Op.unary])
  · rename_i k p
    cases op <;> simp only at e <;> (try (simp at e; done)) <;> (injection e with e; subst e; simp [Op.unary, Op.intArith, Op.intBits])
  · simp at e
end
end Hud
