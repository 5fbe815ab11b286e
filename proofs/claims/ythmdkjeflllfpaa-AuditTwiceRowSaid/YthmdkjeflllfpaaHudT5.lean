/- The program's Twice. -/
import Derived.Test.YthmdkjeflllfpaaHudT4
set_option linter.all false
namespace Hud
open Go
/-- A set, as a map to true. -/
def setO {α : Type} (enc : α → List Value) (K : List α) : AObj := .map true (K.map enc) (K.map fun _ => .v (.bool true)) (List.range K.length) K.length
theorem findK_no {α : Type} [DecidableEq α] {ls : List LK} {enc : α → List Value} (h : ∀ a b, eqV ls (enc a) (enc b) = some (decide (a = b))) {a : α} : ∀ {K : List α} {i : Nat}, a ∉ K → findK ls (enc a) (K.map enc) i = some none
  | [], _, _ => rfl
  | b :: K, i, hm => by
    have h1 : a ≠ b := fun e => hm (by simp [e])
    have h2 : a ∉ K := fun e => hm (by simp [e])
    simp only [List.map_cons, findK, h, h1, decide_false]
    exact findK_no h h2
theorem findK_yes {α : Type} [DecidableEq α] {ls : List LK} {enc : α → List Value} (h : ∀ a b, eqV ls (enc a) (enc b) = some (decide (a = b))) {a : α} : ∀ {K : List α} {i : Nat}, a ∈ K → ∃ j, j < K.length ∧ findK ls (enc a) (K.map enc) i = some (some (i + j))
  | [], _, hm => by simp at hm
  | b :: K, i, hm => by
    by_cases h1 : a = b
    · exact ⟨0, by simp, by simp only [List.map_cons, findK, h, h1, decide_true, Nat.add_zero]⟩
    · have h2 : a ∈ K := by simpa [h1] using hm
      obtain ⟨j, h3, h4⟩ := findK_yes h (i := i + 1) h2
      exact ⟨j + 1, by simpa using h3, by simp only [List.map_cons, findK, h, h1, decide_false]; rw [h4]; congr 2; omega⟩
theorem set_const {α : Type} (l : List α) (c : AV) (j : Nat) : (l.map fun _ => c).set j c = l.map fun _ => c := by
  apply List.ext_getElem?
  intro i
  rw [List.getElem?_set]
  split
  · rename_i h; subst h; split
    · rename_i h; simp at h; simp [h]
    · rename_i h; simp at h; simp [h]
  · rfl
def Id.K (x : Id) : List Value := [.int .i64 x.a, .int .i64 x.b, .int .u64 x.c]
theorem Id.K_eq (x y : Id) : eqV [.int .i64, .int .i64, .int .u64] x.K y.K = some (decide (x = y)) := by
  obtain ⟨xa, xb, xc⟩ := x
  obtain ⟨ya, yb, yc⟩ := y
  simp only [Id.K, eqV, and_self, if_true, Bool.and_true]
  congr 1
  rw [Bool.eq_iff_iff]
  simp
/-- What 'names' has gathered. -/
def namT (out : List Id) : Tab := [some (.box [.mp 2]), some (.box [.own 3]), some (setO Id.K out), some (.arr 3 (out.map Id.A))]
def putI (out : List Id) (x : Id) : List Id := if x ∈ out then out else out ++ [x]
section
variable {G : Nat → Option (List AV)}
set_option maxHeartbeats 4000000
theorem c_audit_names : CallOk Go.Proofs.Try.prog G n_audit_names [] [] fun r T => r = .tup [.cl n_audit_names_1 [.ptr 0 0, .ptr 1 0], .cl n_audit_names_2 [.ptr 1 0]] ∧ T = namT [] := by
  refine fun_okH h_audit_names_ok (by decide) ?_
  unfold h_audit_names
  simp only [go_sem, ↓reduceIte, reduceCtorEq, Nat.reduceEqDiff, Nat.reduceBEq, Nat.reduceAdd, Nat.reduceSub, Nat.reduceMul, Nat.reduceLT, Nat.reduceLeDiff, Int.reduceEq, Int.reduceLT, Int.reduceLE, Int.reduceToNat, Int.reduceNeg, Int.reduceBEq, Int.reduceMul, Int.reduceAdd, Int.reduceSub]
  rfl
theorem c_audit_names_1 (out : List Id) (x : Id) (hl : out.length ≤ 1000000) : CallOk Go.Proofs.Try.prog G n_audit_names_1 [.ag x.A, .ptr 0 0, .ptr 1 0] (namT out) fun r T => r = .tup [] ∧ T = if x ∈ out then namT out else [some (.box [.mp 2]), some (.box [.own 4]), some (setO Id.K (out ++ [x])), none, some (.arr 3 ((out ++ [x]).map Id.A))] := by
  refine fun_okH h_audit_names_1_ok (by simp [namT]) ?_
  unfold h_audit_names_1
  simp only [go_sem, ↓reduceIte, reduceCtorEq, Nat.reduceEqDiff, Nat.reduceBEq, Nat.reduceAdd, Nat.reduceSub, Nat.reduceMul, Nat.reduceLT, Nat.reduceLeDiff, Int.reduceEq, Int.reduceLT, Int.reduceLE, Int.reduceToNat, Int.reduceNeg, Int.reduceBEq, Int.reduceMul, Int.reduceAdd, Int.reduceSub, Id.A_def, namT, setO]
  by_cases hm : x ∈ out
  · obtain ⟨j, h1, h2⟩ := findK_yes Id.K_eq (i := 0) hm
    simp only [Id.K, Nat.zero_add] at h2
    have h3 : (out.map fun _ => AV.v (.bool true))[j]? = some (.v (.bool true)) := by simp [h1]
    simp only [go_sem, ↓reduceIte, reduceCtorEq, Nat.reduceEqDiff, Nat.reduceBEq, Nat.reduceAdd, Nat.reduceSub, Nat.reduceMul, Nat.reduceLT, Nat.reduceLeDiff, Int.reduceEq, Int.reduceLT, Int.reduceLE, Int.reduceToNat, Int.reduceNeg, Int.reduceBEq, Int.reduceMul, Int.reduceAdd, Int.reduceSub, h2, h3, set_const, hm, namT, setO]
  · have h2 := findK_no Id.K_eq (i := 0) hm
    simp only [Id.K] at h2
    simp only [go_sem, ↓reduceIte, reduceCtorEq, Nat.reduceEqDiff, Nat.reduceBEq, Nat.reduceAdd, Nat.reduceSub, Nat.reduceMul, Nat.reduceLT, Nat.reduceLeDiff, Int.reduceEq, Int.reduceLT, Int.reduceLE, Int.reduceToNat, Int.reduceNeg, Int.reduceBEq, Int.reduceMul, Int.reduceAdd, Int.reduceSub, h2, hm, setO, show (out.length + 1) * 24 ≤ 140737488355328 by omega, show out.length + 1 ≤ maxLen by unfold maxLen; omega, List.range_succ]
    rfl
end
end Hud
