/- Lists in a row. -/
import Derived.Test.YthmdkjeflllfpaaHudT2
set_option linter.all false
namespace Hud
open Go
/-- Where x is put into a row, from behind. -/
def posI (x : Id) (out : List Id) : Nat → Nat
  | 0 => 0
  | n + 1 => match out[n]? with | some y => if x.lt y then posI x out n else n + 1 | none => n + 1
def insI (out : List Id) (x : Id) : List Id := out.take (posI x out out.length) ++ [x] ++ out.drop (posI x out out.length)
def sortI (l : List Id) : List Id := l.foldl insI []
theorem posI_le (x : Id) (out : List Id) : ∀ n, posI x out n ≤ n
  | 0 => Nat.le_refl _
  | n + 1 => by
    simp only [posI]
    split
    · split
      · have := posI_le x out n; omega
      · omega
    · omega
theorem insI_len (out : List Id) (x : Id) : (insI out x).length = out.length + 1 := by
  have := posI_le x out out.length
  simp only [insI, List.length_append, List.length_take, List.length_drop, List.length_cons, List.length_nil]
  omega
theorem foldI_len (l : List Id) : ∀ out, (l.foldl insI out).length = out.length + l.length := by
  induction l with
  | nil => simp
  | cons x l ih => intro out; simp only [List.foldl_cons, ih, insI_len, List.length_cons]; omega
theorem sortI_len (l : List Id) : (sortI l).length = l.length := by simp [sortI, foldI_len]
theorem sortI_take (l : List Id) (i : Nat) (h : i < l.length) : sortI (l.take (i + 1)) = insI (sortI (l.take i)) l[i] := by
  rw [List.take_succ_eq_append_getElem h, sortI, List.foldl_append]; rfl

section
variable {G : Nat → Option (List AV)}
set_option maxHeartbeats 2000000
theorem c_r11_Sorted (l : List Id) (hl : l.length ≤ 1000000000) : CallOk Go.Proofs.Try.prog G n_r11_Sorted [ids l] [] fun r T => r = .own 0 ∧ T = [some (.arr 3 ((sortI l).map Id.A))] := by
  refine fun_okH h_r11_Sorted_ok (by decide) ?_
  unfold h_r11_Sorted
  simp only [go_sem, ↓reduceIte, reduceCtorEq, Nat.reduceEqDiff, Nat.reduceBEq, Nat.reduceAdd, Nat.reduceSub, Nat.reduceMul, Nat.reduceLT, Nat.reduceLeDiff, Int.reduceEq, Int.reduceLT, Int.reduceLE, Int.reduceToNat, Int.reduceNeg, Int.reduceBEq, Int.reduceMul, Int.reduceAdd, Int.reduceSub, List.length_map]
  refine loop_up l.length (fun i => ⟨0, [(0, ids l), (3, .own 0), (4, .v (.int .i64 i))], [some (.arr 3 ((sortI (l.take i)).map Id.A))]⟩) (fun _ => True) ?_ trivial ?_ ?_
  · (simp only [go_sem, ↓reduceIte, reduceCtorEq, Nat.reduceEqDiff, Nat.reduceBEq, Nat.reduceAdd, Nat.reduceSub, Nat.reduceMul, Nat.reduceLT, Nat.reduceLeDiff, Int.reduceEq, Int.reduceLT, Int.reduceLE, Int.reduceToNat, Int.reduceNeg, Int.reduceBEq, Int.reduceMul, Int.reduceAdd, Int.reduceSub]) <;> rfl
  · intro i hi _
    simp only [go_sem, ↓reduceIte, reduceCtorEq, Nat.reduceEqDiff, Nat.reduceBEq, Nat.reduceAdd, Nat.reduceSub, Nat.reduceMul, Nat.reduceLT, Nat.reduceLeDiff, Int.reduceEq, Int.reduceLT, Int.reduceLE, Int.reduceToNat, Int.reduceNeg, Int.reduceBEq, Int.reduceMul, Int.reduceAdd, Int.reduceSub, List.length_map, dlt_t hi]
    have hn := sortI_len (l.take i)
    rw [List.length_take] at hn
    have hp := posI_le l[i] (sortI (l.take i)) (sortI (l.take i)).length
    refine cut_block (fun s => s = ⟨0, [(0, ids l), (3, .own 0), (4, .v (.int .i64 i)), (5, .v (.int .i64 (posI l[i] (sortI (l.take i)) (sortI (l.take i)).length : Nat)))], [some (.arr 3 ((sortI (l.take i)).map Id.A))]⟩) ?_ ?_
    · refine loop_dn (sortI (l.take i)).length (fun k => ⟨0, [(0, ids l), (3, .own 0), (4, .v (.int .i64 i)), (5, .v (.int .i64 k))], [some (.arr 3 ((sortI (l.take i)).map Id.A))]⟩) (fun k => posI l[i] (sortI (l.take i)) (sortI (l.take i)).length = posI l[i] (sortI (l.take i)) k) ?_ rfl ?_ ?_
      · simp only [go_sem, ↓reduceIte, reduceCtorEq, Nat.reduceEqDiff, Nat.reduceBEq, Nat.reduceAdd, Nat.reduceSub, Nat.reduceMul, Nat.reduceLT, Nat.reduceLeDiff, Int.reduceEq, Int.reduceLT, Int.reduceLE, Int.reduceToNat, Int.reduceNeg, Int.reduceBEq, Int.reduceMul, Int.reduceAdd, Int.reduceSub, List.length_map]
      · intro k hk hj
        have hnth := nth_map Id.A (sortI (l.take i)) k hk
        simp only [go_sem, ↓reduceIte, reduceCtorEq, Nat.reduceEqDiff, Nat.reduceBEq, Nat.reduceAdd, Nat.reduceSub, Nat.reduceMul, Nat.reduceLT, Nat.reduceLeDiff, Int.reduceEq, Int.reduceLT, Int.reduceLE, Int.reduceToNat, Int.reduceNeg, Int.reduceBEq, Int.reduceMul, Int.reduceAdd, Int.reduceSub, List.length_map, nth_map Id.A l i hi, wrap_pred (show k < 9223372036854775807 by omega), hk, hnth, Id.A_def]
        refine call_pure (subL_refl _) rfl (c_r11_Less l[i] (sortI (l.take i))[k]) rfl ?_
        simp only [go_sem, ↓reduceIte, reduceCtorEq, Nat.reduceEqDiff, Nat.reduceBEq, Nat.reduceAdd, Nat.reduceSub, Nat.reduceMul, Nat.reduceLT, Nat.reduceLeDiff, Int.reduceEq, Int.reduceLT, Int.reduceLE, Int.reduceToNat, Int.reduceNeg, Int.reduceBEq, Int.reduceMul, Int.reduceAdd, Int.reduceSub]
        refine condW_i (fun h => ?_) (fun h => ?_) <;> simp only [go_sem, ↓reduceIte, reduceCtorEq, Nat.reduceEqDiff, Nat.reduceBEq, Nat.reduceAdd, Nat.reduceSub, Nat.reduceMul, Nat.reduceLT, Nat.reduceLeDiff, Int.reduceEq, Int.reduceLT, Int.reduceLE, Int.reduceToNat, Int.reduceNeg, Int.reduceBEq, Int.reduceMul, Int.reduceAdd, Int.reduceSub, wrap_pred (show k < 9223372036854775807 by omega)]
        · rw [hj]; simp only [posI, List.getElem?_eq_getElem hk]; simp at h; simp [h]
        · rw [hj]; simp only [posI, List.getElem?_eq_getElem hk]; simp at h; simp [h]
      · intro hj
        simp only [go_sem, ↓reduceIte, reduceCtorEq, Nat.reduceEqDiff, Nat.reduceBEq, Nat.reduceAdd, Nat.reduceSub, Nat.reduceMul, Nat.reduceLT, Nat.reduceLeDiff, Int.reduceEq, Int.reduceLT, Int.reduceLE, Int.reduceToNat, Int.reduceNeg, Int.reduceBEq, Int.reduceMul, Int.reduceAdd, Int.reduceSub, hj, posI]
    · rintro s rfl
      generalize hq : posI l[i] (sortI (l.take i)) (sortI (l.take i)).length = p at hp
      simp only [go_sem, ↓reduceIte, reduceCtorEq, Nat.reduceEqDiff, Nat.reduceBEq, Nat.reduceAdd, Nat.reduceSub, Nat.reduceMul, Nat.reduceLT, Nat.reduceLeDiff, Int.reduceEq, Int.reduceLT, Int.reduceLE, Int.reduceToNat, Int.reduceNeg, Int.reduceBEq, Int.reduceMul, Int.reduceAdd, Int.reduceSub, List.length_map, List.length_take, List.length_drop, List.length_append, Nat.min_eq_left hp, hp, Nat.sub_zero, Nat.zero_add, Nat.zero_le, nth_map Id.A l i hi, Id.A_def, show p * 24 ≤ 140737488355328 by omega, show p ≤ maxLen by unfold maxLen; omega, show (p + 1) * 24 ≤ 140737488355328 by omega, show p + 1 ≤ maxLen by unfold maxLen; omega,
        show p + ((sortI (l.take i)).length - p) = (sortI (l.take i)).length by omega, wrap_suc (show i < 9223372036854775807 by omega),
        show (p + 1 + ((sortI (l.take i)).length - p)) * 24 ≤ 140737488355328 by omega, show p + 1 + ((sortI (l.take i)).length - p) ≤ maxLen by unfold maxLen; omega, Nat.le_refl, Nat.min_self, List.append_assoc]
      rw [sortI_take l i hi, insI, hq]
      simp only [List.map_append, List.map_take, List.map_drop, List.map_cons, List.map_nil, Id.A_def, List.append_assoc, List.cons_append, List.nil_append]
  · intro _
    simp only [go_sem, ↓reduceIte, reduceCtorEq, Nat.reduceEqDiff, Nat.reduceBEq, Nat.reduceAdd, Nat.reduceSub, Nat.reduceMul, Nat.reduceLT, Nat.reduceLeDiff, Int.reduceEq, Int.reduceLT, Int.reduceLE, Int.reduceToNat, Int.reduceNeg, Int.reduceBEq, Int.reduceMul, Int.reduceAdd, Int.reduceSub, List.length_map, dlt_f (Nat.lt_irrefl _), List.take_length]
end
end Hud
