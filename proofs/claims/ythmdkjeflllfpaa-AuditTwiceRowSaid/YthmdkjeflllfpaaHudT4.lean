/- Events; which messages a device opened twice, by definition. -/
import Derived.Test.YthmdkjeflllfpaaHudT3
set_option linter.all false
namespace Hud
open Go
structure Ev where
  kind : Int
  round : Int
  dev : Int
  n : Int
  id : Id
  e : Int
  text : ByteArray
def Ev.A (x : Ev) : List AV := [.v (.int .i64 x.kind), .v (.int .i64 x.round), .v (.int .i64 x.dev), .v (.int .i64 x.n), .v (.int .i64 x.id.a), .v (.int .i64 x.id.b), .v (.int .u64 x.id.c), .v (.int .i64 x.e), .v (.string x.text)]
theorem Ev.A_def (x : Ev) : x.A = [.v (.int .i64 x.kind), .v (.int .i64 x.round), .v (.int .i64 x.dev), .v (.int .i64 x.n), .v (.int .i64 x.id.a), .v (.int .i64 x.id.b), .v (.int .u64 x.id.c), .v (.int .i64 x.e), .v (.string x.text)] := rfl
abbrev evs (l : List Ev) : AV := .ls 9 (l.map Ev.A)
def evOf (n : Int) (i : Nat) : Ev :=
  { kind := [3, 3, 9, 2, 4].getD (n % 5).toNat 0, round := i, dev := 1 + n / 5 % 3, n := 0, id := ⟨1 + n / 15 % 2, 1 + n / 30 % 2, n / 60 % 2⟩, e := 0, text := bs [] }
def evFrom : Nat → List Int → List Ev
  | _, [] => []
  | i, x :: r => evOf (around x 100000) i :: evFrom (i + 1) r
def evsOf (l : List Int) : List Ev := evFrom 0 (l.take 20)
theorem evFrom_len : ∀ i l, (evFrom i l).length = l.length
  | _, [] => rfl
  | i, x :: r => by simp [evFrom, evFrom_len (i + 1) r]
theorem evFrom_snoc : ∀ i l x, evFrom i (l ++ [x]) = evFrom i l ++ [evOf (around x 100000) (i + l.length)]
  | _, [], x => rfl
  | i, y :: r, x => by simp [evFrom, evFrom_snoc (i + 1) r x]; congr 1; omega
def okI (n : Int) : Prop := -9223372036854775808 ≤ n ∧ n ≤ 9223372036854775807

section
variable {G : Nat → Option (List AV)}
set_option maxHeartbeats 4000000
theorem nth5 {n : Int} (h : 0 ≤ n) : [[AV.v (.int .i64 3)], [.v (.int .i64 3)], [.v (.int .i64 9)], [.v (.int .i64 2)], [.v (.int .i64 4)]][(n % 5).toNat]? = some [.v (.int .i64 ([3, 3, 9, 2, 4].getD (n % 5).toNat 0))] := by
  have h1 : (n % 5).toNat < 5 := by omega
  generalize (n % 5).toNat = k at h1
  match k, h1 with
  | 0, _ => rfl
  | 1, _ => rfl
  | 2, _ => rfl
  | 3, _ => rfl
  | 4, _ => rfl
theorem c_r36_Events (l : List Int) (ho : ∀ x ∈ l, okI x) : CallOk Go.Proofs.Try.prog G n_r36_Events [ints l] [] fun r T => r = .own 0 ∧ T = [some (.arr 9 ((evsOf l).map Ev.A))] := by
  refine fun_okH h_r36_Events_ok (by decide) ?_
  unfold h_r36_Events
  simp only [go_sem, ↓reduceIte, reduceCtorEq, Nat.reduceEqDiff, Nat.reduceBEq, Nat.reduceAdd, Nat.reduceSub, Nat.reduceMul, Nat.reduceLT, Nat.reduceLeDiff, Int.reduceEq, Int.reduceLT, Int.reduceLE, Int.reduceToNat, Int.reduceNeg, Int.reduceBEq, Int.reduceMul, Int.reduceAdd, Int.reduceSub, List.length_map]
  refine loop_up (min l.length 20) (fun i => ⟨0, [(0, ints l), (3, .own 0), (4, .v (.int .i64 i))], [some (.arr 9 ((evFrom 0 (l.take i)).map Ev.A))]⟩) (fun _ => True) ?_ trivial ?_ ?_
  · (simp only [go_sem, ↓reduceIte, reduceCtorEq, Nat.reduceEqDiff, Nat.reduceBEq, Nat.reduceAdd, Nat.reduceSub, Nat.reduceMul, Nat.reduceLT, Nat.reduceLeDiff, Int.reduceEq, Int.reduceLT, Int.reduceLE, Int.reduceToNat, Int.reduceNeg, Int.reduceBEq, Int.reduceMul, Int.reduceAdd, Int.reduceSub]) <;> rfl
  · intro i hi _
    have h1 : i < l.length := by omega
    have h2 : decide ((i : Int) < 20) = true := by simp; omega
    obtain ⟨o1, o2⟩ := ho l[i] (List.getElem_mem h1)
    simp only [go_sem, ↓reduceIte, reduceCtorEq, Nat.reduceEqDiff, Nat.reduceBEq, Nat.reduceAdd, Nat.reduceSub, Nat.reduceMul, Nat.reduceLT, Nat.reduceLeDiff, Int.reduceEq, Int.reduceLT, Int.reduceLE, Int.reduceToNat, Int.reduceNeg, Int.reduceBEq, Int.reduceMul, Int.reduceAdd, Int.reduceSub, dlt_t h1, h2, nth_map I1 l i h1, I1_def, beq_self_eq_true]
    refine call_pure (subL_refl _) rfl (c_r01_Around l[i] 100000 o1 o2 (by decide) (by decide)) rfl ?_
    have hn0 : 0 ≤ around l[i] 100000 := Int.emod_nonneg _ (by decide)
    have hn1 : around l[i] 100000 < 100000 := Int.emod_lt_of_pos _ (by decide)
    generalize hn : around l[i] 100000 = n at hn0 hn1
    have e5 : IntKind.i64.wrap (1 + n / 5 % 3) = 1 + n / 5 % 3 := wrap_i64 (by omega) (by omega)
    have e15 : IntKind.i64.wrap (1 + n / 15 % 2) = 1 + n / 15 % 2 := wrap_i64 (by omega) (by omega)
    have e30 : IntKind.i64.wrap (1 + n / 30 % 2) = 1 + n / 30 % 2 := wrap_i64 (by omega) (by omega)
    have e60 : IntKind.u64.wrap (n / 60 % 2) = n / 60 % 2 := wrap_u64 (by omega) (by omega)
    have w5 : IntKind.i64.wrap (n / 5) = n / 5 := wrap_i64 (by omega) (by omega)
    have w15 : IntKind.i64.wrap (n / 15) = n / 15 := wrap_i64 (by omega) (by omega)
    have w30 : IntKind.i64.wrap (n / 30) = n / 30 := wrap_i64 (by omega) (by omega)
    have w60 : IntKind.i64.wrap (n / 60) = n / 60 := wrap_i64 (by omega) (by omega)
    have m5 : 0 ≤ n % 5 := Int.emod_nonneg _ (by decide)
    have n5 := nth5 hn0
    have l5 : (n % 5).toNat < 5 := by omega
    have t5 : (n / 5).tmod 3 = n / 5 % 3 := Int.tmod_eq_emod_of_nonneg (by omega)
    have t15 : (n / 15).tmod 2 = n / 15 % 2 := Int.tmod_eq_emod_of_nonneg (by omega)
    have t30 : (n / 30).tmod 2 = n / 30 % 2 := Int.tmod_eq_emod_of_nonneg (by omega)
    have t60 : (n / 60).tmod 2 = n / 60 % 2 := Int.tmod_eq_emod_of_nonneg (by omega)
    have hlen : (evFrom 0 (l.take i)).length = i := by rw [evFrom_len, List.length_take]; omega
    simp only [go_sem, ↓reduceIte, reduceCtorEq, Nat.reduceEqDiff, Nat.reduceBEq, Nat.reduceAdd, Nat.reduceSub, Nat.reduceMul, Nat.reduceLT, Nat.reduceLeDiff, Int.reduceEq, Int.reduceLT, Int.reduceLE, Int.reduceToNat, Int.reduceNeg, Int.reduceBEq, Int.reduceMul, Int.reduceAdd, Int.reduceSub, Int.tmod_eq_emod_of_nonneg hn0, Int.tdiv_eq_ediv_of_nonneg hn0, e5, e15, e30, e60, w5, w15, w30, w60, m5, n5, l5, t5, t15, t30, t60, hlen, show (i + 1) * 80 ≤ 140737488355328 by omega, show i + 1 ≤ maxLen by unfold maxLen; omega,
      wrap_suc (show i < 9223372036854775807 by omega)]
    rw [List.take_succ_eq_append_getElem h1, evFrom_snoc, hn, List.map_append, List.length_take, Nat.min_eq_left (by omega : i ≤ l.length), Nat.zero_add]
    rfl
  · intro _
    have e20 : evFrom 0 (l.take (min l.length 20)) = evsOf l := by
      unfold evsOf
      congr 1
      rcases Nat.le_total l.length 20 with h | h
      · rw [Nat.min_eq_left h, List.take_length, List.take_of_length_le h]
      · rw [Nat.min_eq_right h]
    rw [← e20]
    generalize hN : min l.length 20 = N
    by_cases h : N < l.length
    · have h2 : decide ((N : Int) < 20) = false := by simp; omega
      simp only [go_sem, ↓reduceIte, reduceCtorEq, Nat.reduceEqDiff, Nat.reduceBEq, Nat.reduceAdd, Nat.reduceSub, Nat.reduceMul, Nat.reduceLT, Nat.reduceLeDiff, Int.reduceEq, Int.reduceLT, Int.reduceLE, Int.reduceToNat, Int.reduceNeg, Int.reduceBEq, Int.reduceMul, Int.reduceAdd, Int.reduceSub, dlt_t h, h2]
    · simp only [go_sem, ↓reduceIte, reduceCtorEq, Nat.reduceEqDiff, Nat.reduceBEq, Nat.reduceAdd, Nat.reduceSub, Nat.reduceMul, Nat.reduceLT, Nat.reduceLeDiff, Int.reduceEq, Int.reduceLT, Int.reduceLE, Int.reduceToNat, Int.reduceNeg, Int.reduceBEq, Int.reduceMul, Int.reduceAdd, Int.reduceSub, dlt_f h]

/-- Opened both, and the same. -/
def Ev.twin (x y : Ev) : Bool := x.kind == 3 && (y.kind == 3 && (decide (x.id = y.id) && x.dev == y.dev))
/-- With one name more, if it is of a twin. -/
def addTw (l : List Ev) (i k : Nat) (out : List Id) : List Id := match l[i]?, l[k]? with | some x, some y => if x.twin y = true ∧ x.id ∉ out then out ++ [x.id] else out | _, _ => out
def rowTw (l : List Ev) (i : Nat) : Nat → List Id → List Id
  | 0, out => out
  | k + 1, out => addTw l i k (rowTw l i k out)
def allTw (l : List Ev) : Nat → List Id
  | 0 => []
  | i + 1 => rowTw l i i (allTw l i)
def r36Twice (l : List Ev) : List Id := sortI (allTw l l.length)
theorem addTw_len (l : List Ev) (i k : Nat) (out : List Id) : (addTw l i k out).length ≤ out.length + 1 := by
  unfold addTw; split <;> (try split) <;> simp
theorem rowTw_len (l : List Ev) (i : Nat) : ∀ k out, (rowTw l i k out).length ≤ out.length + k
  | 0, out => Nat.le_refl _
  | k + 1, out => by have := addTw_len l i k (rowTw l i k out); have := rowTw_len l i k out; simp only [rowTw]; omega
theorem allTw_len (l : List Ev) : ∀ i, (allTw l i).length ≤ i * i
  | 0 => Nat.le_refl _
  | i + 1 => by
    have h1 := rowTw_len l i i (allTw l i)
    have h2 := allTw_len l i
    have : (i + 1) * (i + 1) = i * i + 2 * i + 1 := by rw [Nat.mul_add, Nat.add_mul]; omega
    simp only [allTw]; omega
set_option maxHeartbeats 8000000
theorem c_r36_Twice (l : List Ev) (hl : l.length ≤ 1000) : CallOk Go.Proofs.Try.prog G n_r36_Twice [evs l] [] fun r T => r = .own 0 ∧ T = [some (.arr 3 ((r36Twice l).map Id.A))] := by
  refine fun_okH h_r36_Twice_ok (by decide) ?_
  unfold h_r36_Twice
  simp only [go_sem, ↓reduceIte, reduceCtorEq, Nat.reduceEqDiff, Nat.reduceBEq, Nat.reduceAdd, Nat.reduceSub, Nat.reduceMul, Nat.reduceLT, Nat.reduceLeDiff, Int.reduceEq, Int.reduceLT, Int.reduceLE, Int.reduceToNat, Int.reduceNeg, Int.reduceBEq, Int.reduceMul, Int.reduceAdd, Int.reduceSub]
  refine loop_up l.length (fun i => ⟨0, [(0, evs l), (3, .own 0), (4, .v (.int .i64 i))], [some (.arr 3 ((allTw l i).map Id.A))]⟩) (fun _ => True) ?_ trivial ?_ ?_
  · (simp only [go_sem, ↓reduceIte, reduceCtorEq, Nat.reduceEqDiff, Nat.reduceBEq, Nat.reduceAdd, Nat.reduceSub, Nat.reduceMul, Nat.reduceLT, Nat.reduceLeDiff, Int.reduceEq, Int.reduceLT, Int.reduceLE, Int.reduceToNat, Int.reduceNeg, Int.reduceBEq, Int.reduceMul, Int.reduceAdd, Int.reduceSub]) <;> rfl
  · intro i hi _
    simp only [go_sem, ↓reduceIte, reduceCtorEq, Nat.reduceEqDiff, Nat.reduceBEq, Nat.reduceAdd, Nat.reduceSub, Nat.reduceMul, Nat.reduceLT, Nat.reduceLeDiff, Int.reduceEq, Int.reduceLT, Int.reduceLE, Int.reduceToNat, Int.reduceNeg, Int.reduceBEq, Int.reduceMul, Int.reduceAdd, Int.reduceSub, dlt_t hi]
    have hlen0 := allTw_len l i
    have hi2 : i * i ≤ 1000 * 1000 := Nat.mul_le_mul (by omega) (by omega)
    refine loop_up i (fun k => ⟨0, [(0, evs l), (3, .own 0), (4, .v (.int .i64 i)), (5, .v (.int .i64 k))], [some (.arr 3 ((rowTw l i k (allTw l i)).map Id.A))]⟩) (fun _ => True) ?_ trivial ?_ ?_
    · (simp only [go_sem, ↓reduceIte, reduceCtorEq, Nat.reduceEqDiff, Nat.reduceBEq, Nat.reduceAdd, Nat.reduceSub, Nat.reduceMul, Nat.reduceLT, Nat.reduceLeDiff, Int.reduceEq, Int.reduceLT, Int.reduceLE, Int.reduceToNat, Int.reduceNeg, Int.reduceBEq, Int.reduceMul, Int.reduceAdd, Int.reduceSub]) <;> rfl
    · intro k hk _
      have hk2 : k < l.length := by omega
      have hlen := rowTw_len l i k (allTw l i)
      have s1 := wrap_suc (show k < 9223372036854775807 by omega)
      simp only [go_sem, ↓reduceIte, reduceCtorEq, Nat.reduceEqDiff, Nat.reduceBEq, Nat.reduceAdd, Nat.reduceSub, Nat.reduceMul, Nat.reduceLT, Nat.reduceLeDiff, Int.reduceEq, Int.reduceLT, Int.reduceLE, Int.reduceToNat, Int.reduceNeg, Int.reduceBEq, Int.reduceMul, Int.reduceAdd, Int.reduceSub, dlt_t hk, nth_map Ev.A l i hi, nth_map Ev.A l k hk2, Ev.A_def]
      have hadd : ∀ out, addTw l i k out = if l[i].twin l[k] = true ∧ l[i].id ∉ out then out ++ [l[i].id] else out := by
        intro out; simp only [addTw, List.getElem?_eq_getElem hi, List.getElem?_eq_getElem hk2]
      by_cases h1 : l[i].kind = 3
      · by_cases h2 : l[k].kind = 3
        · by_cases h3 : l[i].id = l[k].id
          · by_cases h4 : l[i].dev = l[k].dev
            · have hw : l[i].twin l[k] = true := by simp [Ev.twin, h1, h2, h3, h4]
              simp only [go_sem, ↓reduceIte, reduceCtorEq, Nat.reduceEqDiff, Nat.reduceBEq, Nat.reduceAdd, Nat.reduceSub, Nat.reduceMul, Nat.reduceLT, Nat.reduceLeDiff, Int.reduceEq, Int.reduceLT, Int.reduceLE, Int.reduceToNat, Int.reduceNeg, Int.reduceBEq, Int.reduceMul, Int.reduceAdd, Int.reduceSub, h1, h2, h3, h4, nth_map Ev.A l i hi, nth_map Ev.A l k hk2, Ev.A_def]
              refine call_lend_pure (subL_refl _) rfl rfl (c_r11_HasID (rowTw l i k (allTw l i)) l[k].id (by unfold maxLen; omega)) ?_
              simp only [go_sem, ↓reduceIte, reduceCtorEq, Nat.reduceEqDiff, Nat.reduceBEq, Nat.reduceAdd, Nat.reduceSub, Nat.reduceMul, Nat.reduceLT, Nat.reduceLeDiff, Int.reduceEq, Int.reduceLT, Int.reduceLE, Int.reduceToNat, Int.reduceNeg, Int.reduceBEq, Int.reduceMul, Int.reduceAdd, Int.reduceSub]
              refine condW_i (fun h => ?_) (fun h => ?_)
              · have hr : rowTw l i (k + 1) (allTw l i) = rowTw l i k (allTw l i) ++ [l[k].id] := by
                  have : l[k].id ∉ rowTw l i k (allTw l i) := by simpa using h
                  simp only [rowTw, hadd, hw, h3, this, not_false_eq_true, and_self, if_true]
                simp only [go_sem, ↓reduceIte, reduceCtorEq, Nat.reduceEqDiff, Nat.reduceBEq, Nat.reduceAdd, Nat.reduceSub, Nat.reduceMul, Nat.reduceLT, Nat.reduceLeDiff, Int.reduceEq, Int.reduceLT, Int.reduceLE, Int.reduceToNat, Int.reduceNeg, Int.reduceBEq, Int.reduceMul, Int.reduceAdd, Int.reduceSub, hr, s1, h3, nth_map Ev.A l i hi, Ev.A_def, show ((rowTw l i k (allTw l i)).length + 1) * 24 ≤ 140737488355328 by omega, show (rowTw l i k (allTw l i)).length + 1 ≤ maxLen by unfold maxLen; omega]
                rfl
              · have hr : rowTw l i (k + 1) (allTw l i) = rowTw l i k (allTw l i) := by
                  have : l[k].id ∈ rowTw l i k (allTw l i) := by simpa using h
                  simp only [rowTw, hadd, hw, h3, this, not_true_eq_false, and_false, if_false]
                simp only [go_sem, ↓reduceIte, reduceCtorEq, Nat.reduceEqDiff, Nat.reduceBEq, Nat.reduceAdd, Nat.reduceSub, Nat.reduceMul, Nat.reduceLT, Nat.reduceLeDiff, Int.reduceEq, Int.reduceLT, Int.reduceLE, Int.reduceToNat, Int.reduceNeg, Int.reduceBEq, Int.reduceMul, Int.reduceAdd, Int.reduceSub, hr, s1]
            · have hw : l[i].twin l[k] = false := by simp [Ev.twin, h4]
              have h4' : (l[i].dev == l[k].dev) = false := by simpa using h4
              have hr : rowTw l i (k + 1) (allTw l i) = rowTw l i k (allTw l i) := by
                simp only [rowTw, hadd, hw, Bool.false_eq_true, false_and, if_false]
              simp only [go_sem, ↓reduceIte, reduceCtorEq, Nat.reduceEqDiff, Nat.reduceBEq, Nat.reduceAdd, Nat.reduceSub, Nat.reduceMul, Nat.reduceLT, Nat.reduceLeDiff, Int.reduceEq, Int.reduceLT, Int.reduceLE, Int.reduceToNat, Int.reduceNeg, Int.reduceBEq, Int.reduceMul, Int.reduceAdd, Int.reduceSub, hr, s1, h1, h2, h3, h4', nth_map Ev.A l i hi, nth_map Ev.A l k hk2, Ev.A_def]

          · have hw : l[i].twin l[k] = false := by simp [Ev.twin, h3]
            have hr : rowTw l i (k + 1) (allTw l i) = rowTw l i k (allTw l i) := by
              simp only [rowTw, hadd, hw, Bool.false_eq_true, false_and, if_false]
            simp only [go_sem, ↓reduceIte, reduceCtorEq, Nat.reduceEqDiff, Nat.reduceBEq, Nat.reduceAdd, Nat.reduceSub, Nat.reduceMul, Nat.reduceLT, Nat.reduceLeDiff, Int.reduceEq, Int.reduceLT, Int.reduceLE, Int.reduceToNat, Int.reduceNeg, Int.reduceBEq, Int.reduceMul, Int.reduceAdd, Int.reduceSub, hr, s1, h1, h2, h3, nth_map Ev.A l i hi, nth_map Ev.A l k hk2, Ev.A_def]

        · have hw : l[i].twin l[k] = false := by simp [Ev.twin, h2]
          have h2' : (l[k].kind == 3) = false := by simpa using h2
          have hr : rowTw l i (k + 1) (allTw l i) = rowTw l i k (allTw l i) := by
            simp only [rowTw, hadd, hw, Bool.false_eq_true, false_and, if_false]
          simp only [go_sem, ↓reduceIte, reduceCtorEq, Nat.reduceEqDiff, Nat.reduceBEq, Nat.reduceAdd, Nat.reduceSub, Nat.reduceMul, Nat.reduceLT, Nat.reduceLeDiff, Int.reduceEq, Int.reduceLT, Int.reduceLE, Int.reduceToNat, Int.reduceNeg, Int.reduceBEq, Int.reduceMul, Int.reduceAdd, Int.reduceSub, hr, s1, h1, h2', nth_map Ev.A l i hi, nth_map Ev.A l k hk2, Ev.A_def]

      · have hw : l[i].twin l[k] = false := by simp [Ev.twin, h1]
        have h1' : (l[i].kind == 3) = false := by simpa using h1
        have hr : rowTw l i (k + 1) (allTw l i) = rowTw l i k (allTw l i) := by
          simp only [rowTw, hadd, hw, Bool.false_eq_true, false_and, if_false]
        simp only [go_sem, ↓reduceIte, reduceCtorEq, Nat.reduceEqDiff, Nat.reduceBEq, Nat.reduceAdd, Nat.reduceSub, Nat.reduceMul, Nat.reduceLT, Nat.reduceLeDiff, Int.reduceEq, Int.reduceLT, Int.reduceLE, Int.reduceToNat, Int.reduceNeg, Int.reduceBEq, Int.reduceMul, Int.reduceAdd, Int.reduceSub, hr, s1, h1', nth_map Ev.A l i hi, nth_map Ev.A l k hk2, Ev.A_def]
    · intro _
      simp only [go_sem, ↓reduceIte, reduceCtorEq, Nat.reduceEqDiff, Nat.reduceBEq, Nat.reduceAdd, Nat.reduceSub, Nat.reduceMul, Nat.reduceLT, Nat.reduceLeDiff, Int.reduceEq, Int.reduceLT, Int.reduceLE, Int.reduceToNat, Int.reduceNeg, Int.reduceBEq, Int.reduceMul, Int.reduceAdd, Int.reduceSub, dlt_f (Nat.lt_irrefl _), wrap_suc (show i < 9223372036854775807 by omega)]
      rfl
  · intro _
    simp only [go_sem, ↓reduceIte, reduceCtorEq, Nat.reduceEqDiff, Nat.reduceBEq, Nat.reduceAdd, Nat.reduceSub, Nat.reduceMul, Nat.reduceLT, Nat.reduceLeDiff, Int.reduceEq, Int.reduceLT, Int.reduceLE, Int.reduceToNat, Int.reduceNeg, Int.reduceBEq, Int.reduceMul, Int.reduceAdd, Int.reduceSub, dlt_f (Nat.lt_irrefl _)]
    have hlen0 := allTw_len l l.length
    have hi2 : l.length * l.length ≤ 1000 * 1000 := Nat.mul_le_mul (by omega) (by omega)
    refine call_lend (subL_refl _) rfl rfl (c_r11_Sorted (allTw l l.length) (by omega)) ?_
    rintro r T' ⟨rfl, rfl⟩
    refine ⟨by simp [flatA], by simp [flatO, Id.A], ?_⟩
    simp only [go_sem, ↓reduceIte, reduceCtorEq, Nat.reduceEqDiff, Nat.reduceBEq, Nat.reduceAdd, Nat.reduceSub, Nat.reduceMul, Nat.reduceLT, Nat.reduceLeDiff, Int.reduceEq, Int.reduceLT, Int.reduceLE, Int.reduceToNat, Int.reduceNeg, Int.reduceBEq, Int.reduceMul, Int.reduceAdd, Int.reduceSub]
    rfl
end
end Hud
