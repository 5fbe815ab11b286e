/- Small helpers, lists. -/
import Derived.Test.YthmdkjeflllfpaaHudT1
set_option linter.all false
namespace Hud
open Go
def I1 (x : Int) : List AV := [.v (.int .i64 x)]
theorem I1_def (x : Int) : I1 x = [.v (.int .i64 x)] := rfl
abbrev ints (l : List Int) : AV := .ls 1 (l.map I1)
def around (n m : Int) : Int := (if n < 0 then -(n + 1) else n) % m
def firstNz : List Int → Int
  | [] => 0
  | x :: r => if x = 0 then firstNz r else x
theorem firstNz_take {l : List Int} {i : Nat} (h : ∀ j, j < i → l.getD j 0 = 0) (hi : i < l.length) (hx : l[i] ≠ 0) : firstNz l = l[i] := by
  induction l generalizing i with
  | nil => simp at hi
  | cons a l ih =>
    cases i with
    | zero => simp only [List.getElem_cons_zero] at hx ⊢; simp [firstNz, hx]
    | succ i =>
      have h0 : a = 0 := by simpa using h 0 (by omega)
      simp only [firstNz, h0, if_true, List.getElem_cons_succ]
      exact ih (fun j hj => by simpa using h (j + 1) (by omega)) (by simpa using hi) (by simpa using hx)
theorem firstNz_zero {l : List Int} (h : ∀ j, j < l.length → l.getD j 0 = 0) : firstNz l = 0 := by
  induction l with
  | nil => rfl
  | cons a l ih =>
    have h0 : a = 0 := by simpa using h 0 (by simp)
    simp only [firstNz, h0, if_true]
    exact ih fun j hj => by simpa using h (j + 1) (by simpa using hj)

theorem cmp3_z {x y : Int} : cmp3 x y = 0 ↔ x = y := by
  unfold cmp3; constructor <;> intro h <;> (repeat' split at *) <;> omega
theorem cmp3_n {x y : Int} : cmp3 x y < 0 ↔ x < y := by
  unfold cmp3; constructor <;> intro h <;> (repeat' split at *) <;> omega
theorem lt_cmp (x y : Id) : decide (firstNz [cmp3 x.a y.a, cmp3 x.b y.b, cmp3 x.c y.c] < 0) = x.lt y := by
  rw [Bool.eq_iff_iff]
  simp only [firstNz, Id.lt, cmp3_z]
  by_cases h1 : x.a = y.a
  · by_cases h2 : x.b = y.b
    · by_cases h3 : x.c = y.c
      · simp [h1, h2, h3]
      · simp only [h1, h2, h3, if_true, if_false, decide_eq_true_eq, cmp3_n]
    · simp only [h1, h2, if_true, if_false, decide_eq_true_eq, cmp3_n]
  · simp only [h1, if_false, decide_eq_true_eq, cmp3_n]

section
variable {G : Nat → Option (List AV)}
set_option maxHeartbeats 2000000

theorem c_cmp_Or_int (l : List Int) (hl : l.length ≤ maxLen) : CallOk Go.Proofs.Try.prog G n_cmp_Or_int [ints l] [] fun r T => r = .v (.int .i64 (firstNz l)) ∧ T = [] := by
  refine fun_okH h_cmp_Or_int_ok (by decide) ?_
  unfold h_cmp_Or_int
  unfold maxLen at hl
  simp only [go_sem, ↓reduceIte, reduceCtorEq, Nat.reduceEqDiff, Nat.reduceBEq, Nat.reduceAdd, Nat.reduceSub, Nat.reduceMul, Nat.reduceLT, Nat.reduceLeDiff, Int.reduceEq, Int.reduceLT, Int.reduceLE, Int.reduceToNat, Int.reduceNeg, Int.reduceBEq, Int.reduceMul, Int.reduceAdd, Int.reduceSub, List.length_map]
  refine loop_up l.length (fun i => ⟨0, [(3, .v (.int .i64 0)), (6, ints l), (7, .v (.int .i64 l.length)), (8, .v (.int .i64 i))], []⟩) (fun i => ∀ j, j < i → l.getD j 0 = 0) ?_ (by simp) ?_ ?_
  · (simp only [go_sem, ↓reduceIte, reduceCtorEq, Nat.reduceEqDiff, Nat.reduceBEq, Nat.reduceAdd, Nat.reduceSub, Nat.reduceMul, Nat.reduceLT, Nat.reduceLeDiff, Int.reduceEq, Int.reduceLT, Int.reduceLE, Int.reduceToNat, Int.reduceNeg, Int.reduceBEq, Int.reduceMul, Int.reduceAdd, Int.reduceSub]) <;> rfl
  · intro i hi hj
    simp only [go_sem, ↓reduceIte, reduceCtorEq, Nat.reduceEqDiff, Nat.reduceBEq, Nat.reduceAdd, Nat.reduceSub, Nat.reduceMul, Nat.reduceLT, Nat.reduceLeDiff, Int.reduceEq, Int.reduceLT, Int.reduceLE, Int.reduceToNat, Int.reduceNeg, Int.reduceBEq, Int.reduceMul, Int.reduceAdd, Int.reduceSub, dlt_t hi, nth_map I1 l i hi, I1_def, wrap_suc (show i < 9223372036854775807 by omega)]
    refine condW_i (fun h => ?_) (fun h => ?_) <;> simp only [go_sem, ↓reduceIte, reduceCtorEq, Nat.reduceEqDiff, Nat.reduceBEq, Nat.reduceAdd, Nat.reduceSub, Nat.reduceMul, Nat.reduceLT, Nat.reduceLeDiff, Int.reduceEq, Int.reduceLT, Int.reduceLE, Int.reduceToNat, Int.reduceNeg, Int.reduceBEq, Int.reduceMul, Int.reduceAdd, Int.reduceSub, wrap_suc (show i < 9223372036854775807 by omega)]
    · rw [firstNz_take hj hi (by simpa using h)]
    · intro j hj'
      rcases Nat.lt_or_ge j i with h1 | h1
      · exact hj j h1
      · obtain rfl : j = i := by omega
        simpa [List.getD_eq_getElem?_getD, hi] using h
  · intro hj
    simp only [go_sem, ↓reduceIte, reduceCtorEq, Nat.reduceEqDiff, Nat.reduceBEq, Nat.reduceAdd, Nat.reduceSub, Nat.reduceMul, Nat.reduceLT, Nat.reduceLeDiff, Int.reduceEq, Int.reduceLT, Int.reduceLE, Int.reduceToNat, Int.reduceNeg, Int.reduceBEq, Int.reduceMul, Int.reduceAdd, Int.reduceSub, dlt_f (Nat.lt_irrefl _), firstNz_zero hj]

theorem c_op_Less (x y : Id) : CallOk Go.Proofs.Try.prog G n_op_Less [.ag x.A, .ag y.A] [] fun r T => r = .v (.bool (x.lt y)) ∧ T = [] := by
  refine fun_okH h_op_Less_ok (by decide) ?_
  unfold h_op_Less
  simp only [go_sem, ↓reduceIte, reduceCtorEq, Nat.reduceEqDiff, Nat.reduceBEq, Nat.reduceAdd, Nat.reduceSub, Nat.reduceMul, Nat.reduceLT, Nat.reduceLeDiff, Int.reduceEq, Int.reduceLT, Int.reduceLE, Int.reduceToNat, Int.reduceNeg, Int.reduceBEq, Int.reduceMul, Int.reduceAdd, Int.reduceSub, Id.A]
  refine call_pure (subL_refl _) rfl (c_cmp_Compare_int x.a y.a) rfl ?_
  simp only [go_sem, ↓reduceIte, reduceCtorEq, Nat.reduceEqDiff, Nat.reduceBEq, Nat.reduceAdd, Nat.reduceSub, Nat.reduceMul, Nat.reduceLT, Nat.reduceLeDiff, Int.reduceEq, Int.reduceLT, Int.reduceLE, Int.reduceToNat, Int.reduceNeg, Int.reduceBEq, Int.reduceMul, Int.reduceAdd, Int.reduceSub]
  refine call_pure (subL_refl _) rfl (c_cmp_Compare_int x.b y.b) rfl ?_
  simp only [go_sem, ↓reduceIte, reduceCtorEq, Nat.reduceEqDiff, Nat.reduceBEq, Nat.reduceAdd, Nat.reduceSub, Nat.reduceMul, Nat.reduceLT, Nat.reduceLeDiff, Int.reduceEq, Int.reduceLT, Int.reduceLE, Int.reduceToNat, Int.reduceNeg, Int.reduceBEq, Int.reduceMul, Int.reduceAdd, Int.reduceSub]
  refine call_pure (subL_refl _) rfl (c_cmp_Compare_uint64 x.c y.c) rfl ?_
  simp only [go_sem, ↓reduceIte, reduceCtorEq, Nat.reduceEqDiff, Nat.reduceBEq, Nat.reduceAdd, Nat.reduceSub, Nat.reduceMul, Nat.reduceLT, Nat.reduceLeDiff, Int.reduceEq, Int.reduceLT, Int.reduceLE, Int.reduceToNat, Int.reduceNeg, Int.reduceBEq, Int.reduceMul, Int.reduceAdd, Int.reduceSub]
  refine call_lend_pure (subL_refl _) rfl rfl (c_cmp_Or_int [cmp3 x.a y.a, cmp3 x.b y.b, cmp3 x.c y.c] (by simp [maxLen])) ?_
  simp only [go_sem, ↓reduceIte, reduceCtorEq, Nat.reduceEqDiff, Nat.reduceBEq, Nat.reduceAdd, Nat.reduceSub, Nat.reduceMul, Nat.reduceLT, Nat.reduceLeDiff, Int.reduceEq, Int.reduceLT, Int.reduceLE, Int.reduceToNat, Int.reduceNeg, Int.reduceBEq, Int.reduceMul, Int.reduceAdd, Int.reduceSub]
  rw [lt_cmp]

theorem c_r01_Around (n m : Int) (h1 : -9223372036854775808 ≤ n) (h2 : n ≤ 9223372036854775807) (h3 : 1 ≤ m) (h4 : m ≤ 9223372036854775807) :
    CallOk Go.Proofs.Try.prog G n_r01_Around [.v (.int .i64 n), .v (.int .i64 m)] [] fun r T => r = .v (.int .i64 (around n m)) ∧ T = [] := by
  refine fun_okH h_r01_Around_ok (by decide) ?_
  unfold h_r01_Around
  have hm : ¬ m = 0 := by omega
  simp only [go_sem, ↓reduceIte, reduceCtorEq, Nat.reduceEqDiff, Nat.reduceBEq, Nat.reduceAdd, Nat.reduceSub, Nat.reduceMul, Nat.reduceLT, Nat.reduceLeDiff, Int.reduceEq, Int.reduceLT, Int.reduceLE, Int.reduceToNat, Int.reduceNeg, Int.reduceBEq, Int.reduceMul, Int.reduceAdd, Int.reduceSub, hm]
  refine condW_i (fun h => ?_) (fun h => ?_) <;> simp only [go_sem, ↓reduceIte, reduceCtorEq, Nat.reduceEqDiff, Nat.reduceBEq, Nat.reduceAdd, Nat.reduceSub, Nat.reduceMul, Nat.reduceLT, Nat.reduceLeDiff, Int.reduceEq, Int.reduceLT, Int.reduceLE, Int.reduceToNat, Int.reduceNeg, Int.reduceBEq, Int.reduceMul, Int.reduceAdd, Int.reduceSub, hm]
  · have hn : n < 0 := by simpa using h
    rw [wrap_i64 (n := n + 1) (by omega) (by omega), wrap_i64 (by omega) (by omega)]
    simp only [around, hn, if_true]
    rw [Int.zero_sub, Int.tmod_eq_emod_of_nonneg (by omega)]
  · have hn : ¬ n < 0 := by simpa using h
    simp only [around, hn, if_false]
    rw [Int.tmod_eq_emod_of_nonneg (by omega)]

theorem c_audit_Bound (n : Int) (h1 : 0 ≤ n) (h2 : n ≤ 4611686018427387903) : CallOk Go.Proofs.Try.prog G n_audit_Bound [.v (.int .i64 n)] [] fun r T => r = .v (.int .i64 (2 * n)) ∧ T = [] := by
  refine fun_okH h_audit_Bound_ok (by decide) ?_
  unfold h_audit_Bound
  simp only [go_sem, ↓reduceIte, reduceCtorEq, Nat.reduceEqDiff, Nat.reduceBEq, Nat.reduceAdd, Nat.reduceSub, Nat.reduceMul, Nat.reduceLT, Nat.reduceLeDiff, Int.reduceEq, Int.reduceLT, Int.reduceLE, Int.reduceToNat, Int.reduceNeg, Int.reduceBEq, Int.reduceMul, Int.reduceAdd, Int.reduceSub, wrap_i64 (n := 2 * n) (by omega) (by omega)]

theorem c_r11_SameIDs (x y : List Id) (hl : x.length ≤ maxLen) : CallOk Go.Proofs.Try.prog G n_r11_SameIDs [ids x, ids y] [] fun r T => r = .v (.bool (decide (x = y))) ∧ T = [] := by
  refine fun_okH h_r11_SameIDs_ok (by decide) ?_
  unfold h_r11_SameIDs
  unfold maxLen at hl
  simp only [go_sem, ↓reduceIte, reduceCtorEq, Nat.reduceEqDiff, Nat.reduceBEq, Nat.reduceAdd, Nat.reduceSub, Nat.reduceMul, Nat.reduceLT, Nat.reduceLeDiff, Int.reduceEq, Int.reduceLT, Int.reduceLE, Int.reduceToNat, Int.reduceNeg, Int.reduceBEq, Int.reduceMul, Int.reduceAdd, Int.reduceSub, List.length_map]
  refine condW_i (fun h => ?_) (fun h => ?_) <;> simp only [go_sem, ↓reduceIte, reduceCtorEq, Nat.reduceEqDiff, Nat.reduceBEq, Nat.reduceAdd, Nat.reduceSub, Nat.reduceMul, Nat.reduceLT, Nat.reduceLeDiff, Int.reduceEq, Int.reduceLT, Int.reduceLE, Int.reduceToNat, Int.reduceNeg, Int.reduceBEq, Int.reduceMul, Int.reduceAdd, Int.reduceSub]
  · have : x ≠ y := fun e => len_ne h (by rw [e])
    simp [this]
  have hxy := len_eq h
  refine loop_up x.length (fun i => ⟨0, [(0, ids x), (1, ids y), (5, .v (.int .i64 i))], []⟩) (fun i => x.take i = y.take i) ?_ (by simp) ?_ ?_
  · (simp only [go_sem, ↓reduceIte, reduceCtorEq, Nat.reduceEqDiff, Nat.reduceBEq, Nat.reduceAdd, Nat.reduceSub, Nat.reduceMul, Nat.reduceLT, Nat.reduceLeDiff, Int.reduceEq, Int.reduceLT, Int.reduceLE, Int.reduceToNat, Int.reduceNeg, Int.reduceBEq, Int.reduceMul, Int.reduceAdd, Int.reduceSub]) <;> rfl
  · intro i hi hj
    have hy : i < y.length := by omega
    simp only [go_sem, ↓reduceIte, reduceCtorEq, Nat.reduceEqDiff, Nat.reduceBEq, Nat.reduceAdd, Nat.reduceSub, Nat.reduceMul, Nat.reduceLT, Nat.reduceLeDiff, Int.reduceEq, Int.reduceLT, Int.reduceLE, Int.reduceToNat, Int.reduceNeg, Int.reduceBEq, Int.reduceMul, Int.reduceAdd, Int.reduceSub, List.length_map, dlt_t hi, nth_map Id.A x i hi, nth_map Id.A y i hy, Id.A_def, wrap_suc (show i < 9223372036854775807 by omega)]
    refine condW_i (fun h => ?_) (fun h => ?_) <;> simp only [go_sem, ↓reduceIte, reduceCtorEq, Nat.reduceEqDiff, Nat.reduceBEq, Nat.reduceAdd, Nat.reduceSub, Nat.reduceMul, Nat.reduceLT, Nat.reduceLeDiff, Int.reduceEq, Int.reduceLT, Int.reduceLE, Int.reduceToNat, Int.reduceNeg, Int.reduceBEq, Int.reduceMul, Int.reduceAdd, Int.reduceSub, wrap_suc (show i < 9223372036854775807 by omega)]
    · have : x ≠ y := by rintro rfl; simp at h
      simp [this]
    · have : x[i] = y[i] := by simpa using h
      rw [List.take_succ_eq_append_getElem hi, List.take_succ_eq_append_getElem hy, hj, this]
  · intro hj
    have : x = y := by
      rw [List.take_length] at hj
      rw [hj, hxy, List.take_length]
    simp only [go_sem, ↓reduceIte, reduceCtorEq, Nat.reduceEqDiff, Nat.reduceBEq, Nat.reduceAdd, Nat.reduceSub, Nat.reduceMul, Nat.reduceLT, Nat.reduceLeDiff, Int.reduceEq, Int.reduceLT, Int.reduceLE, Int.reduceToNat, Int.reduceNeg, Int.reduceBEq, Int.reduceMul, Int.reduceAdd, Int.reduceSub, List.length_map, dlt_f (Nat.lt_irrefl _), this]

theorem c_r11_HasID (l : List Id) (x : Id) (hl : l.length ≤ maxLen) : CallOk Go.Proofs.Try.prog G n_r11_HasID [ids l, .ag x.A] [] fun r T => r = .v (.bool (decide (x ∈ l))) ∧ T = [] := by
  refine fun_okH h_r11_HasID_ok (by decide) ?_
  unfold h_r11_HasID
  unfold maxLen at hl
  simp only [go_sem, ↓reduceIte, reduceCtorEq, Nat.reduceEqDiff, Nat.reduceBEq, Nat.reduceAdd, Nat.reduceSub, Nat.reduceMul, Nat.reduceLT, Nat.reduceLeDiff, Int.reduceEq, Int.reduceLT, Int.reduceLE, Int.reduceToNat, Int.reduceNeg, Int.reduceBEq, Int.reduceMul, Int.reduceAdd, Int.reduceSub, List.length_map, Id.A_def]
  refine loop_up l.length (fun i => ⟨0, [(0, ids l), (3, .ptr 0 0), (5, .v (.int .i64 i))], [some (.box x.A)]⟩) (fun i => x ∉ l.take i) ?_ (by simp) ?_ ?_
  · simp only [go_sem, ↓reduceIte, reduceCtorEq, Nat.reduceEqDiff, Nat.reduceBEq, Nat.reduceAdd, Nat.reduceSub, Nat.reduceMul, Nat.reduceLT, Nat.reduceLeDiff, Int.reduceEq, Int.reduceLT, Int.reduceLE, Int.reduceToNat, Int.reduceNeg, Int.reduceBEq, Int.reduceMul, Int.reduceAdd, Int.reduceSub]; rfl
  · intro i hi hj
    simp only [go_sem, ↓reduceIte, reduceCtorEq, Nat.reduceEqDiff, Nat.reduceBEq, Nat.reduceAdd, Nat.reduceSub, Nat.reduceMul, Nat.reduceLT, Nat.reduceLeDiff, Int.reduceEq, Int.reduceLT, Int.reduceLE, Int.reduceToNat, Int.reduceNeg, Int.reduceBEq, Int.reduceMul, Int.reduceAdd, Int.reduceSub, List.length_map, dlt_t hi, nth_map Id.A l i hi, Id.A_def, wrap_suc (show i < 9223372036854775807 by omega)]
    refine condW_i (fun h => ?_) (fun h => ?_) <;> simp only [go_sem, ↓reduceIte, reduceCtorEq, Nat.reduceEqDiff, Nat.reduceBEq, Nat.reduceAdd, Nat.reduceSub, Nat.reduceMul, Nat.reduceLT, Nat.reduceLeDiff, Int.reduceEq, Int.reduceLT, Int.reduceLE, Int.reduceToNat, Int.reduceNeg, Int.reduceBEq, Int.reduceMul, Int.reduceAdd, Int.reduceSub, wrap_suc (show i < 9223372036854775807 by omega)]
    · have : l[i] = x := by simpa using h
      have : x ∈ l := by rw [← this]; exact List.getElem_mem hi
      simp [this]
    · refine ⟨rfl, ?_⟩
      have : l[i] ≠ x := by simpa using h
      intro hx
      rw [List.take_succ_eq_append_getElem hi] at hx
      rcases List.mem_append.1 hx with hx | hx
      · exact hj hx
      · exact this (List.mem_singleton.1 hx).symm
  · intro hj
    rw [List.take_length] at hj
    simp only [go_sem, ↓reduceIte, reduceCtorEq, Nat.reduceEqDiff, Nat.reduceBEq, Nat.reduceAdd, Nat.reduceSub, Nat.reduceMul, Nat.reduceLT, Nat.reduceLeDiff, Int.reduceEq, Int.reduceLT, Int.reduceLE, Int.reduceToNat, Int.reduceNeg, Int.reduceBEq, Int.reduceMul, Int.reduceAdd, Int.reduceSub, List.length_map, dlt_f (Nat.lt_irrefl _), hj]
end
end Hud
