/- The program's Twice. -/
import Derived.Test.YthmdkjeflllfpaaHudT5
import Derived.Test.YthmdkjeflllfpaaHudT7
set_option linter.all false
namespace Hud
open Go
def cfI (x y : Id) : Int := if x.lt y then -1 else 1
def OdK (x : Int × Id) : List Value := [.int .i64 x.1, .int .i64 x.2.a, .int .i64 x.2.b, .int .u64 x.2.c]
theorem OdK_eq (x y : Int × Id) : eqV [.int .i64, .int .i64, .int .i64, .int .u64] (OdK x) (OdK y) = some (decide (x = y)) := by
  obtain ⟨xd, xa, xb, xc⟩ := x
  obtain ⟨yd, ya, yb, yc⟩ := y
  simp only [OdK, eqV, and_self, if_true, Bool.and_true]
  congr 1
  rw [Bool.eq_iff_iff]
  simp
def stepTw (s : List (Int × Id) × List Id) (e : Ev) : List (Int × Id) × List Id :=
  if e.kind = 3 then (if (e.dev, e.id) ∈ s.1 then (s.1, if e.id ∈ s.2 then s.2 else s.2 ++ [e.id]) else (s.1 ++ [(e.dev, e.id)], s.2)) else s
def foldTw (l : List Ev) : List (Int × Id) × List Id := l.foldl stepTw ([], [])
theorem foldTw_take (l : List Ev) (i : Nat) (h : i < l.length) : foldTw (l.take (i + 1)) = stepTw (foldTw (l.take i)) l[i] := by
  rw [List.take_succ_eq_append_getElem h, foldTw, List.foldl_append]; rfl
theorem foldTw_len (l : List Ev) : ∀ s, (l.foldl stepTw s).1.length ≤ s.1.length + l.length ∧ (l.foldl stepTw s).2.length ≤ s.2.length + l.length := by
  induction l with
  | nil => intro s; simp
  | cons e l ih =>
    intro s
    have h := ih (stepTw s e)
    have h1 : (stepTw s e).1.length ≤ s.1.length + 1 ∧ (stepTw s e).2.length ≤ s.2.length + 1 := by
      unfold stepTw
      (repeat' split) <;> simp
    simp only [List.foldl_cons, List.length_cons]
    omega
def twT (s : List (Int × Id) × List Id) : Tab := [some (.box [.mp 3]), some (.box [.own 4]), some (setO OdK s.1), some (setO Id.K s.2), some (.arr 3 (s.2.map Id.A))]
section
variable {G : Nat → Option (List AV)}
set_option maxHeartbeats 4000000
theorem c_audit_Twice (l : List Ev) (hl : l.length ≤ 100000) : CallOk Go.Proofs.Try.prog G n_audit_Twice [evs l] [] fun r T => r = .own 0 ∧ T = [some (.arr 3 ((msortI (foldTw l).2).map Id.A))] := by
  refine fun_okH h_audit_Twice_ok (by decide) ?_
  unfold h_audit_Twice
  simp only [go_sem, ↓reduceIte, reduceCtorEq, Nat.reduceEqDiff, Nat.reduceBEq, Nat.reduceAdd, Nat.reduceSub, Nat.reduceMul, Nat.reduceLT, Nat.reduceLeDiff, Int.reduceEq, Int.reduceLT, Int.reduceLE, Int.reduceToNat, Int.reduceNeg, Int.reduceBEq, Int.reduceMul, Int.reduceAdd, Int.reduceSub]
  refine call_new (subL_refl _) rfl c_audit_names ?_
  simp only [go_sem, ↓reduceIte, reduceCtorEq, Nat.reduceEqDiff, Nat.reduceBEq, Nat.reduceAdd, Nat.reduceSub, Nat.reduceMul, Nat.reduceLT, Nat.reduceLeDiff, Int.reduceEq, Int.reduceLT, Int.reduceLE, Int.reduceToNat, Int.reduceNeg, Int.reduceBEq, Int.reduceMul, Int.reduceAdd, Int.reduceSub, namT, setO]
  refine loop_up l.length (fun i => ⟨0, [(3, .cl n_audit_names_1 [.ptr 0 0, .ptr 1 0]), (4, .cl n_audit_names_2 [.ptr 1 0]), (5, .mp 2), (14, evs l), (15, .v (.int .i64 l.length)), (16, .v (.int .i64 i))], twT (foldTw (l.take i))⟩) (fun _ => True) ?_ trivial ?_ ?_
  · (simp only [go_sem, ↓reduceIte, reduceCtorEq, Nat.reduceEqDiff, Nat.reduceBEq, Nat.reduceAdd, Nat.reduceSub, Nat.reduceMul, Nat.reduceLT, Nat.reduceLeDiff, Int.reduceEq, Int.reduceLT, Int.reduceLE, Int.reduceToNat, Int.reduceNeg, Int.reduceBEq, Int.reduceMul, Int.reduceAdd, Int.reduceSub]) <;> rfl
  · intro i hi _
    have hfl := foldTw_len (l.take i) ([], [])
    rw [List.length_take] at hfl
    have hfl2 : (foldTw (l.take i)).2.length ≤ 100000 := by have := hfl.2; simp at this; unfold foldTw; omega
    rw [foldTw_take l i hi]
    revert hfl2
    generalize foldTw (l.take i) = s
    intro hfl2
    have hn := nth_map Ev.A l i hi
    revert hn
    generalize l[i] = e
    intro hn
    simp only [go_sem, ↓reduceIte, reduceCtorEq, Nat.reduceEqDiff, Nat.reduceBEq, Nat.reduceAdd, Nat.reduceSub, Nat.reduceMul, Nat.reduceLT, Nat.reduceLeDiff, Int.reduceEq, Int.reduceLT, Int.reduceLE, Int.reduceToNat, Int.reduceNeg, Int.reduceBEq, Int.reduceMul, Int.reduceAdd, Int.reduceSub, dlt_t hi, hn, Ev.A_def, twT, setO]
    refine condW_i (fun h => ?_) (fun h => ?_)
    · have hk : ¬ e.kind = 3 := by simpa using h
      simp only [go_sem, ↓reduceIte, reduceCtorEq, Nat.reduceEqDiff, Nat.reduceBEq, Nat.reduceAdd, Nat.reduceSub, Nat.reduceMul, Nat.reduceLT, Nat.reduceLeDiff, Int.reduceEq, Int.reduceLT, Int.reduceLE, Int.reduceToNat, Int.reduceNeg, Int.reduceBEq, Int.reduceMul, Int.reduceAdd, Int.reduceSub, stepTw, hk, twT, setO, wrap_suc (show i < 9223372036854775807 by omega)]
    · have hk : e.kind = 3 := by simpa using h
      by_cases hm : (e.dev, e.id) ∈ s.1
      · obtain ⟨j, h1, h2⟩ := findK_yes OdK_eq (i := 0) hm
        simp only [OdK, Nat.zero_add] at h2
        have h3 : (s.1.map fun _ => AV.v (.bool true))[j]? = some (.v (.bool true)) := by simp [h1]
        simp only [go_sem, ↓reduceIte, reduceCtorEq, Nat.reduceEqDiff, Nat.reduceBEq, Nat.reduceAdd, Nat.reduceSub, Nat.reduceMul, Nat.reduceLT, Nat.reduceLeDiff, Int.reduceEq, Int.reduceLT, Int.reduceLE, Int.reduceToNat, Int.reduceNeg, Int.reduceBEq, Int.reduceMul, Int.reduceAdd, Int.reduceSub, h2, h3]
        refine call_on (L := [0, 1, 3, 4]) (subL_refl _) (by simp only [go_sem, ↓reduceIte, reduceCtorEq, Nat.reduceEqDiff, Nat.reduceBEq, Nat.reduceAdd, Nat.reduceSub, Nat.reduceMul, Nat.reduceLT, Nat.reduceLeDiff, Int.reduceEq, Int.reduceLT, Int.reduceLE, Int.reduceToNat, Int.reduceNeg, Int.reduceBEq, Int.reduceMul, Int.reduceAdd, Int.reduceSub]) (by simp only [go_sem, ↓reduceIte, reduceCtorEq, Nat.reduceEqDiff, Nat.reduceBEq, Nat.reduceAdd, Nat.reduceSub, Nat.reduceMul, Nat.reduceLT, Nat.reduceLeDiff, Int.reduceEq, Int.reduceLT, Int.reduceLE, Int.reduceToNat, Int.reduceNeg, Int.reduceBEq, Int.reduceMul, Int.reduceAdd, Int.reduceSub, Id.A_def]) (by simp only [go_sem, ↓reduceIte, reduceCtorEq, Nat.reduceEqDiff, Nat.reduceBEq, Nat.reduceAdd, Nat.reduceSub, Nat.reduceMul, Nat.reduceLT, Nat.reduceLeDiff, Int.reduceEq, Int.reduceLT, Int.reduceLE, Int.reduceToNat, Int.reduceNeg, Int.reduceBEq, Int.reduceMul, Int.reduceAdd, Int.reduceSub, namT, setO]) (c_audit_names_1 s.2 e.id (by omega)) ?_
        rintro r T' ⟨rfl, rfl⟩
        by_cases hm2 : e.id ∈ s.2
        · simp only [go_sem, ↓reduceIte, reduceCtorEq, Nat.reduceEqDiff, Nat.reduceBEq, Nat.reduceAdd, Nat.reduceSub, Nat.reduceMul, Nat.reduceLT, Nat.reduceLeDiff, Int.reduceEq, Int.reduceLT, Int.reduceLE, Int.reduceToNat, Int.reduceNeg, Int.reduceBEq, Int.reduceMul, Int.reduceAdd, Int.reduceSub, hm2, namT, setO, h2, set_const, wrap_suc (show i < 9223372036854775807 by omega), stepTw, hk, hm, twT]
        · simp only [go_sem, ↓reduceIte, reduceCtorEq, Nat.reduceEqDiff, Nat.reduceBEq, Nat.reduceAdd, Nat.reduceSub, Nat.reduceMul, Nat.reduceLT, Nat.reduceLeDiff, Int.reduceEq, Int.reduceLT, Int.reduceLE, Int.reduceToNat, Int.reduceNeg, Int.reduceBEq, Int.reduceMul, Int.reduceAdd, Int.reduceSub, hm2, namT, setO, h2, set_const, wrap_suc (show i < 9223372036854775807 by omega), stepTw, hk, hm, twT]
      · have h2 := findK_no OdK_eq (i := 0) hm
        simp only [OdK] at h2
        simp only [go_sem, ↓reduceIte, reduceCtorEq, Nat.reduceEqDiff, Nat.reduceBEq, Nat.reduceAdd, Nat.reduceSub, Nat.reduceMul, Nat.reduceLT, Nat.reduceLeDiff, Int.reduceEq, Int.reduceLT, Int.reduceLE, Int.reduceToNat, Int.reduceNeg, Int.reduceBEq, Int.reduceMul, Int.reduceAdd, Int.reduceSub, h2, wrap_suc (show i < 9223372036854775807 by omega)]
        simp only [go_sem, ↓reduceIte, reduceCtorEq, Nat.reduceEqDiff, Nat.reduceBEq, Nat.reduceAdd, Nat.reduceSub, Nat.reduceMul, Nat.reduceLT, Nat.reduceLeDiff, Int.reduceEq, Int.reduceLT, Int.reduceLE, Int.reduceToNat, Int.reduceNeg, Int.reduceBEq, Int.reduceMul, Int.reduceAdd, Int.reduceSub, stepTw, hk, hm, twT, setO, List.range_succ]
        rfl
  · intro _
    simp only [go_sem, ↓reduceIte, reduceCtorEq, Nat.reduceEqDiff, Nat.reduceBEq, Nat.reduceAdd, Nat.reduceSub, Nat.reduceMul, Nat.reduceLT, Nat.reduceLeDiff, Int.reduceEq, Int.reduceLT, Int.reduceLE, Int.reduceToNat, Int.reduceNeg, Int.reduceBEq, Int.reduceMul, Int.reduceAdd, Int.reduceSub, dlt_f (Nat.lt_irrefl _), List.take_length, twT]
    have hfl := (foldTw_len l ([], [])).2
    simp only [List.length_nil, Nat.zero_add] at hfl
    refine call_on (L := [1, 4]) (subL_refl _) (by simp only [go_sem, ↓reduceIte, reduceCtorEq, Nat.reduceEqDiff, Nat.reduceBEq, Nat.reduceAdd, Nat.reduceSub, Nat.reduceMul, Nat.reduceLT, Nat.reduceLeDiff, Int.reduceEq, Int.reduceLT, Int.reduceLE, Int.reduceToNat, Int.reduceNeg, Int.reduceBEq, Int.reduceMul, Int.reduceAdd, Int.reduceSub, setO]) (by simp only [go_sem, ↓reduceIte, reduceCtorEq, Nat.reduceEqDiff, Nat.reduceBEq, Nat.reduceAdd, Nat.reduceSub, Nat.reduceMul, Nat.reduceLT, Nat.reduceLeDiff, Int.reduceEq, Int.reduceLT, Int.reduceLE, Int.reduceToNat, Int.reduceNeg, Int.reduceBEq, Int.reduceMul, Int.reduceAdd, Int.reduceSub]) (by simp only [go_sem, ↓reduceIte, reduceCtorEq, Nat.reduceEqDiff, Nat.reduceBEq, Nat.reduceAdd, Nat.reduceSub, Nat.reduceMul, Nat.reduceLT, Nat.reduceLeDiff, Int.reduceEq, Int.reduceLT, Int.reduceLE, Int.reduceToNat, Int.reduceNeg, Int.reduceBEq, Int.reduceMul, Int.reduceAdd, Int.reduceSub, setO]) (c_audit_names_2 (foldTw l).2 (Nat.lt_of_le_of_lt hfl (by omega))) ?_
    rintro r T' ⟨rfl, rfl⟩
    simp only [go_sem, ↓reduceIte, reduceCtorEq, Nat.reduceEqDiff, Nat.reduceBEq, Nat.reduceAdd, Nat.reduceSub, Nat.reduceMul, Nat.reduceLT, Nat.reduceLeDiff, Int.reduceEq, Int.reduceLT, Int.reduceLE, Int.reduceToNat, Int.reduceNeg, Int.reduceBEq, Int.reduceMul, Int.reduceAdd, Int.reduceSub, setO]
end
end Hud
