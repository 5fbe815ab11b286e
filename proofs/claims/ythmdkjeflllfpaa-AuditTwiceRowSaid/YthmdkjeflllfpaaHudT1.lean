/- Small helpers. -/
import Derived.Test.YthmdkjeflllfpaaHudT0
import Derived.Test.YthmdkjeflllfpaaHudY
set_option linter.all false
namespace Hud
open Go

structure Id where
  a : Int
  b : Int
  c : Int
  deriving DecidableEq, Inhabited
def Id.A (x : Id) : List AV := [.v (.int .i64 x.a), .v (.int .i64 x.b), .v (.int .u64 x.c)]
theorem Id.A_def (x : Id) : x.A = [.v (.int .i64 x.a), .v (.int .i64 x.b), .v (.int .u64 x.c)] := rfl
def Id.lt (x y : Id) : Bool := if x.a = y.a then (if x.b = y.b then decide (x.c < y.c) else decide (x.b < y.b)) else decide (x.a < y.a)
@[go_sem] theorem Id.beq (x y : Id) : (x.a == y.a && (x.b == y.b && x.c == y.c)) = decide (x = y) := by
  obtain ⟨xa, xb, xc⟩ := x
  obtain ⟨ya, yb, yc⟩ := y
  rw [Bool.eq_iff_iff]
  simp
theorem idsA_cells (x : Id) : idsL x.A = [] := rfl
theorem Id.lt_irrefl (x : Id) : x.lt x = false := by simp [Id.lt]
theorem Id.lt_trans {x y z : Id} (h1 : x.lt y = true) (h2 : y.lt z = true) : x.lt z = true := by
  unfold Id.lt at *
  (repeat' split at h1) <;> (repeat' split at h2) <;> (repeat' split) <;> simp_all <;> omega
theorem Id.lt_total {x y : Id} (h1 : x.lt y = false) (h2 : y.lt x = false) : x = y := by
  obtain ⟨xa, xb, xc⟩ := x
  obtain ⟨ya, yb, yc⟩ := y
  unfold Id.lt at *
  (repeat' split at h1) <;> (repeat' split at h2) <;> simp_all <;> omega
theorem Id.lt_asymm {x y : Id} (h : x.lt y = true) : y.lt x = false := by
  cases e : y.lt x with
  | false => rfl
  | true => have := Id.lt_trans h e; rw [Id.lt_irrefl] at this; simp at this
theorem Id.nlt_trans {x y z : Id} (h1 : x.lt y = false) (h2 : y.lt z = false) : x.lt z = false := by
  cases e : x.lt z with
  | false => rfl
  | true =>
    cases e2 : y.lt x with
    | true => have := Id.lt_trans e2 e; rw [h2] at this; simp at this
    | false => have := Id.lt_total h1 e2; subst this; rw [h2] at e; simp at e
abbrev ids (l : List Id) : AV := .ls 3 (l.map Id.A)

section
variable {G : Nat → Option (List AV)}
set_option maxHeartbeats 2000000

theorem c_r11_Less (x y : Id) : CallOk Go.Proofs.Try.prog G n_r11_Less [.ag x.A, .ag y.A] [] fun r T => r = .v (.bool (x.lt y)) ∧ T = [] := by
  refine fun_okH h_r11_Less_ok (by decide) ?_
  unfold h_r11_Less
  simp only [go_sem, ↓reduceIte, reduceCtorEq, Nat.reduceEqDiff, Nat.reduceBEq, Nat.reduceAdd, Nat.reduceSub, Nat.reduceMul, Nat.reduceLT, Nat.reduceLeDiff, Int.reduceEq, Int.reduceLT, Int.reduceLE, Int.reduceToNat, Int.reduceNeg, Int.reduceBEq, Int.reduceMul, Int.reduceAdd, Int.reduceSub, Id.A]
  refine condW_i (fun h => ?_) (fun h => ?_) <;> simp only [go_sem, ↓reduceIte, reduceCtorEq, Nat.reduceEqDiff, Nat.reduceBEq, Nat.reduceAdd, Nat.reduceSub, Nat.reduceMul, Nat.reduceLT, Nat.reduceLeDiff, Int.reduceEq, Int.reduceLT, Int.reduceLE, Int.reduceToNat, Int.reduceNeg, Int.reduceBEq, Int.reduceMul, Int.reduceAdd, Int.reduceSub]
  · simp_all [Id.lt]
  · refine condW_i (fun h2 => ?_) (fun h2 => ?_) <;> simp only [go_sem, ↓reduceIte, reduceCtorEq, Nat.reduceEqDiff, Nat.reduceBEq, Nat.reduceAdd, Nat.reduceSub, Nat.reduceMul, Nat.reduceLT, Nat.reduceLeDiff, Int.reduceEq, Int.reduceLT, Int.reduceLE, Int.reduceToNat, Int.reduceNeg, Int.reduceBEq, Int.reduceMul, Int.reduceAdd, Int.reduceSub] <;> simp_all [Id.lt]

theorem c_cmp_isNaN_int (x : Int) : CallOk Go.Proofs.Try.prog G n_cmp_isNaN_int [.v (.int .i64 x)] [] fun r T => r = .v (.bool false) ∧ T = [] := by
  refine fun_okH h_cmp_isNaN_int_ok (by decide) ?_
  unfold h_cmp_isNaN_int
  simp only [go_sem, ↓reduceIte, reduceCtorEq, Nat.reduceEqDiff, Nat.reduceBEq, Nat.reduceAdd, Nat.reduceSub, Nat.reduceMul, Nat.reduceLT, Nat.reduceLeDiff, Int.reduceEq, Int.reduceLT, Int.reduceLE, Int.reduceToNat, Int.reduceNeg, Int.reduceBEq, Int.reduceMul, Int.reduceAdd, Int.reduceSub, bne_self_eq_false]
theorem c_cmp_isNaN_uint64 (x : Int) : CallOk Go.Proofs.Try.prog G n_cmp_isNaN_uint64 [.v (.int .u64 x)] [] fun r T => r = .v (.bool false) ∧ T = [] := by
  refine fun_okH h_cmp_isNaN_uint64_ok (by decide) ?_
  unfold h_cmp_isNaN_uint64
  simp only [go_sem, ↓reduceIte, reduceCtorEq, Nat.reduceEqDiff, Nat.reduceBEq, Nat.reduceAdd, Nat.reduceSub, Nat.reduceMul, Nat.reduceLT, Nat.reduceLeDiff, Int.reduceEq, Int.reduceLT, Int.reduceLE, Int.reduceToNat, Int.reduceNeg, Int.reduceBEq, Int.reduceMul, Int.reduceAdd, Int.reduceSub, bne_self_eq_false]
def cmp3 (x y : Int) : Int := if x < y then -1 else if y < x then 1 else 0
theorem c_cmp_Compare_int (x y : Int) : CallOk Go.Proofs.Try.prog G n_cmp_Compare_int [.v (.int .i64 x), .v (.int .i64 y)] [] fun r T => r = .v (.int .i64 (cmp3 x y)) ∧ T = [] := by
  refine fun_okH h_cmp_Compare_int_ok (by decide) ?_
  unfold h_cmp_Compare_int
  simp only [go_sem, ↓reduceIte, reduceCtorEq, Nat.reduceEqDiff, Nat.reduceBEq, Nat.reduceAdd, Nat.reduceSub, Nat.reduceMul, Nat.reduceLT, Nat.reduceLeDiff, Int.reduceEq, Int.reduceLT, Int.reduceLE, Int.reduceToNat, Int.reduceNeg, Int.reduceBEq, Int.reduceMul, Int.reduceAdd, Int.reduceSub]
  refine call_pure (subL_refl _) rfl (c_cmp_isNaN_int x) rfl ?_
  simp only [go_sem, ↓reduceIte, reduceCtorEq, Nat.reduceEqDiff, Nat.reduceBEq, Nat.reduceAdd, Nat.reduceSub, Nat.reduceMul, Nat.reduceLT, Nat.reduceLeDiff, Int.reduceEq, Int.reduceLT, Int.reduceLE, Int.reduceToNat, Int.reduceNeg, Int.reduceBEq, Int.reduceMul, Int.reduceAdd, Int.reduceSub]
  refine call_pure (subL_refl _) rfl (c_cmp_isNaN_int y) rfl ?_
  simp only [go_sem, ↓reduceIte, reduceCtorEq, Nat.reduceEqDiff, Nat.reduceBEq, Nat.reduceAdd, Nat.reduceSub, Nat.reduceMul, Nat.reduceLT, Nat.reduceLeDiff, Int.reduceEq, Int.reduceLT, Int.reduceLE, Int.reduceToNat, Int.reduceNeg, Int.reduceBEq, Int.reduceMul, Int.reduceAdd, Int.reduceSub]
  refine condW_i (fun h => ?_) (fun h => ?_) <;> simp only [go_sem, ↓reduceIte, reduceCtorEq, Nat.reduceEqDiff, Nat.reduceBEq, Nat.reduceAdd, Nat.reduceSub, Nat.reduceMul, Nat.reduceLT, Nat.reduceLeDiff, Int.reduceEq, Int.reduceLT, Int.reduceLE, Int.reduceToNat, Int.reduceNeg, Int.reduceBEq, Int.reduceMul, Int.reduceAdd, Int.reduceSub]
  · simp_all [cmp3]
  · refine condW_i (fun h2 => ?_) (fun h2 => ?_) <;> simp only [go_sem, ↓reduceIte, reduceCtorEq, Nat.reduceEqDiff, Nat.reduceBEq, Nat.reduceAdd, Nat.reduceSub, Nat.reduceMul, Nat.reduceLT, Nat.reduceLeDiff, Int.reduceEq, Int.reduceLT, Int.reduceLE, Int.reduceToNat, Int.reduceNeg, Int.reduceBEq, Int.reduceMul, Int.reduceAdd, Int.reduceSub] <;> simp_all [cmp3]
    omega
theorem c_cmp_Compare_uint64 (x y : Int) : CallOk Go.Proofs.Try.prog G n_cmp_Compare_uint64 [.v (.int .u64 x), .v (.int .u64 y)] [] fun r T => r = .v (.int .i64 (cmp3 x y)) ∧ T = [] := by
  refine fun_okH h_cmp_Compare_uint64_ok (by decide) ?_
  unfold h_cmp_Compare_uint64
  simp only [go_sem, ↓reduceIte, reduceCtorEq, Nat.reduceEqDiff, Nat.reduceBEq, Nat.reduceAdd, Nat.reduceSub, Nat.reduceMul, Nat.reduceLT, Nat.reduceLeDiff, Int.reduceEq, Int.reduceLT, Int.reduceLE, Int.reduceToNat, Int.reduceNeg, Int.reduceBEq, Int.reduceMul, Int.reduceAdd, Int.reduceSub]
  refine call_pure (subL_refl _) rfl (c_cmp_isNaN_uint64 x) rfl ?_
  simp only [go_sem, ↓reduceIte, reduceCtorEq, Nat.reduceEqDiff, Nat.reduceBEq, Nat.reduceAdd, Nat.reduceSub, Nat.reduceMul, Nat.reduceLT, Nat.reduceLeDiff, Int.reduceEq, Int.reduceLT, Int.reduceLE, Int.reduceToNat, Int.reduceNeg, Int.reduceBEq, Int.reduceMul, Int.reduceAdd, Int.reduceSub]
  refine call_pure (subL_refl _) rfl (c_cmp_isNaN_uint64 y) rfl ?_
  simp only [go_sem, ↓reduceIte, reduceCtorEq, Nat.reduceEqDiff, Nat.reduceBEq, Nat.reduceAdd, Nat.reduceSub, Nat.reduceMul, Nat.reduceLT, Nat.reduceLeDiff, Int.reduceEq, Int.reduceLT, Int.reduceLE, Int.reduceToNat, Int.reduceNeg, Int.reduceBEq, Int.reduceMul, Int.reduceAdd, Int.reduceSub]
  refine condW_i (fun h => ?_) (fun h => ?_) <;> simp only [go_sem, ↓reduceIte, reduceCtorEq, Nat.reduceEqDiff, Nat.reduceBEq, Nat.reduceAdd, Nat.reduceSub, Nat.reduceMul, Nat.reduceLT, Nat.reduceLeDiff, Int.reduceEq, Int.reduceLT, Int.reduceLE, Int.reduceToNat, Int.reduceNeg, Int.reduceBEq, Int.reduceMul, Int.reduceAdd, Int.reduceSub]
  · simp_all [cmp3]
  · refine condW_i (fun h2 => ?_) (fun h2 => ?_) <;> simp only [go_sem, ↓reduceIte, reduceCtorEq, Nat.reduceEqDiff, Nat.reduceBEq, Nat.reduceAdd, Nat.reduceSub, Nat.reduceMul, Nat.reduceLT, Nat.reduceLeDiff, Int.reduceEq, Int.reduceLT, Int.reduceLE, Int.reduceToNat, Int.reduceNeg, Int.reduceBEq, Int.reduceMul, Int.reduceAdd, Int.reduceSub] <;> simp_all [cmp3]
    omega
end
end Hud
