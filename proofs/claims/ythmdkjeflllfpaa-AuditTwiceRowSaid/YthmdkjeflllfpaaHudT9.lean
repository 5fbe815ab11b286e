/- The two laws. -/
import Derived.Test.YthmdkjeflllfpaaHudT8
set_option linter.all false
namespace Hud
open Go
section
variable {G : Nat → Option (List AV)}
set_option maxHeartbeats 4000000
theorem flat_ids (l : List Id) : ∀ o ∈ [some (AObj.arr 3 (l.map Id.A))], flatO o := by
  simp only [List.mem_singleton, forall_eq, flatO, List.mem_map]
  rintro e ⟨x, _, rfl⟩ c hc
  simp [Id.A] at hc
  rcases hc with rfl | rfl | rfl <;> exact ⟨_, rfl⟩
theorem flat_evs (l : List Ev) : ∀ o ∈ [some (AObj.arr 9 (l.map Ev.A))], flatO o := by
  simp only [List.mem_singleton, forall_eq, flatO, List.mem_map]
  rintro e ⟨x, _, rfl⟩ c hc
  simp [Ev.A] at hc
  rcases hc with rfl | rfl | rfl | rfl | rfl | rfl | rfl | rfl | rfl <;> exact ⟨_, rfl⟩
def ev1 : Ev := ⟨3, 0, 2, 0, ⟨1, 2, 3⟩, 0, bs []⟩
def ev2 : Ev := ⟨3, 0, 3, 0, ⟨1, 2, 3⟩, 0, bs []⟩
theorem tw1 : Twice [ev1, ev2] = [] := by
  have : (foldTw [ev1, ev2]).2 = [] := by decide
  rw [Twice, this, msortI, List.mergeSort_nil]
theorem tw2 : Twice [ev1, ev2, ev2] = [⟨1, 2, 3⟩] := by
  have : (foldTw [ev1, ev2, ev2]).2 = [⟨1, 2, 3⟩] := by decide
  rw [Twice, this, msortI, List.mergeSort_singleton]
theorem c_l36_lives : CallOk Go.Proofs.Try.prog G n_l36_lives [] [] fun r T => r = .v (.bool true) ∧ T = [] := by
  refine fun_okH h_l36_lives_ok (by decide) ?_
  unfold h_l36_lives
  simp only [go_sem, ↓reduceIte, reduceCtorEq, Nat.reduceEqDiff, Nat.reduceBEq, Nat.reduceAdd, Nat.reduceSub, Nat.reduceMul, Nat.reduceLT, Nat.reduceLeDiff, Int.reduceEq, Int.reduceLT, Int.reduceLE, Int.reduceToNat, Int.reduceNeg, Int.reduceBEq, Int.reduceMul, Int.reduceAdd, Int.reduceSub]
  refine call_lend (subL_refl _) rfl rfl (c_audit_Twice [ev1, ev2] (by simp)) ?_
  rintro r T' ⟨rfl, rfl⟩
  refine ⟨by simp [flatA], flat_ids _, ?_⟩
  rw [show msortI (foldTw [ev1, ev2]).2 = [] from tw1]
  simp only [go_sem, ↓reduceIte, reduceCtorEq, Nat.reduceEqDiff, Nat.reduceBEq, Nat.reduceAdd, Nat.reduceSub, Nat.reduceMul, Nat.reduceLT, Nat.reduceLeDiff, Int.reduceEq, Int.reduceLT, Int.reduceLE, Int.reduceToNat, Int.reduceNeg, Int.reduceBEq, Int.reduceMul, Int.reduceAdd, Int.reduceSub, show (3 : Nat) ≤ maxLen by simp [maxLen]]
  refine call_lend (subL_refl _) rfl rfl (c_audit_Twice [ev1, ev2, ev2] (by simp)) ?_
  rintro r T' ⟨rfl, rfl⟩
  refine ⟨by simp [flatA], flat_ids _, ?_⟩
  rw [show msortI (foldTw [ev1, ev2, ev2]).2 = [⟨1, 2, 3⟩] from tw2]
  simp only [go_sem, ↓reduceIte, reduceCtorEq, Nat.reduceEqDiff, Nat.reduceBEq, Nat.reduceAdd, Nat.reduceSub, Nat.reduceMul, Nat.reduceLT, Nat.reduceLeDiff, Int.reduceEq, Int.reduceLT, Int.reduceLE, Int.reduceToNat, Int.reduceNeg, Int.reduceBEq, Int.reduceMul, Int.reduceAdd, Int.reduceSub, Id.A_def, beq_self_eq_true]
  refine call_lend_pure (subL_refl _) rfl rfl (c_r11_SameIDs [⟨1, 2, 3⟩] [⟨1, 2, 3⟩] (by simp [maxLen])) ?_
  simp only [go_sem, ↓reduceIte, reduceCtorEq, Nat.reduceEqDiff, Nat.reduceBEq, Nat.reduceAdd, Nat.reduceSub, Nat.reduceMul, Nat.reduceLT, Nat.reduceLeDiff, Int.reduceEq, Int.reduceLT, Int.reduceLE, Int.reduceToNat, Int.reduceNeg, Int.reduceBEq, Int.reduceMul, Int.reduceAdd, Int.reduceSub]
  refine call_pure (subL_refl _) rfl (c_audit_Bound 3 (by decide) (by decide)) rfl ?_
  simp only [go_sem, ↓reduceIte, reduceCtorEq, Nat.reduceEqDiff, Nat.reduceBEq, Nat.reduceAdd, Nat.reduceSub, Nat.reduceMul, Nat.reduceLT, Nat.reduceLeDiff, Int.reduceEq, Int.reduceLT, Int.reduceLE, Int.reduceToNat, Int.reduceNeg, Int.reduceBEq, Int.reduceMul, Int.reduceAdd, Int.reduceSub]
theorem c_l36_AuditTwice (l : List Int) (e : Ev) (ho : ∀ x ∈ l, okI x) : CallOk Go.Proofs.Try.prog G n_l36_AuditTwice [ints l, .ag e.A] [] fun r T => r = .v (.bool true) ∧ T = [] := by
  refine fun_okH h_l36_AuditTwice_ok (by decide) ?_
  unfold h_l36_AuditTwice
  have hlen : (evsOf l).length ≤ 20 := by rw [evsOf, evFrom_len, List.length_take]; omega
  have b1 : ((evsOf l).length + 1) * 80 ≤ 140737488355328 := by omega
  have b2 : (evsOf l).length + 1 ≤ maxLen := by unfold maxLen; omega
  have htw : CallOk Go.Proofs.Try.prog G n_audit_Twice [.ls 9 ((evsOf l).map Ev.A ++ [e.A])] [] fun r T => r = .own 0 ∧ T = [some (.arr 3 ((Twice (evsOf l ++ [e])).map Id.A))] := by
    have := c_audit_Twice (G := G) (evsOf l ++ [e]) (by simp; omega)
    simpa only [evs, List.map_append, List.map_cons, List.map_nil, Twice] using this
  have htr : CallOk Go.Proofs.Try.prog G n_r36_Twice [.ls 9 ((evsOf l).map Ev.A ++ [e.A])] [] fun r T => r = .own 0 ∧ T = [some (.arr 3 ((Twice (evsOf l ++ [e])).map Id.A))] := by
    have := c_r36_Twice (G := G) (evsOf l ++ [e]) (by simp; omega)
    rw [← twice_same] at this
    simpa only [evs, List.map_append, List.map_cons, List.map_nil, Twice] using this
  have hl2 : (Twice (evsOf l ++ [e])).length ≤ maxLen := by
    have := Twice_len (evsOf l ++ [e])
    simp only [List.length_append, List.length_cons, List.length_nil] at this
    unfold maxLen; omega
  generalize Twice (evsOf l ++ [e]) = tw at htw htr hl2
  simp only [go_sem, ↓reduceIte, reduceCtorEq, Nat.reduceEqDiff, Nat.reduceBEq, Nat.reduceAdd, Nat.reduceSub, Nat.reduceMul, Nat.reduceLT, Nat.reduceLeDiff, Int.reduceEq, Int.reduceLT, Int.reduceLE, Int.reduceToNat, Int.reduceNeg, Int.reduceBEq, Int.reduceMul, Int.reduceAdd, Int.reduceSub, Ev.A_def]
  refine ⟨?_, ?_⟩
  · refine call_new (subL_refl _) rfl (c_r36_Events l ho) ?_
    simp only [go_sem, ↓reduceIte, reduceCtorEq, Nat.reduceEqDiff, Nat.reduceBEq, Nat.reduceAdd, Nat.reduceSub, Nat.reduceMul, Nat.reduceLT, Nat.reduceLeDiff, Int.reduceEq, Int.reduceLT, Int.reduceLE, Int.reduceToNat, Int.reduceNeg, Int.reduceBEq, Int.reduceMul, Int.reduceAdd, Int.reduceSub, b1, b2]
    refine call_lend (subL_refl _) rfl rfl htw ?_
    rintro r T' ⟨rfl, rfl⟩
    refine ⟨by simp [flatA], flat_ids _, ?_⟩
    simp only [go_sem, ↓reduceIte, reduceCtorEq, Nat.reduceEqDiff, Nat.reduceBEq, Nat.reduceAdd, Nat.reduceSub, Nat.reduceMul, Nat.reduceLT, Nat.reduceLeDiff, Int.reduceEq, Int.reduceLT, Int.reduceLE, Int.reduceToNat, Int.reduceNeg, Int.reduceBEq, Int.reduceMul, Int.reduceAdd, Int.reduceSub]
    refine call_lend (subL_refl _) rfl rfl htr ?_
    rintro r T' ⟨rfl, rfl⟩
    refine ⟨by simp [flatA], flat_ids _, ?_⟩
    simp only [go_sem, ↓reduceIte, reduceCtorEq, Nat.reduceEqDiff, Nat.reduceBEq, Nat.reduceAdd, Nat.reduceSub, Nat.reduceMul, Nat.reduceLT, Nat.reduceLeDiff, Int.reduceEq, Int.reduceLT, Int.reduceLE, Int.reduceToNat, Int.reduceNeg, Int.reduceBEq, Int.reduceMul, Int.reduceAdd, Int.reduceSub]
    refine call_lend_pure (subL_refl _) rfl rfl (c_r11_SameIDs tw tw hl2) ?_
    simp only [go_sem, ↓reduceIte, reduceCtorEq, Nat.reduceEqDiff, Nat.reduceBEq, Nat.reduceAdd, Nat.reduceSub, Nat.reduceMul, Nat.reduceLT, Nat.reduceLeDiff, Int.reduceEq, Int.reduceLT, Int.reduceLE, Int.reduceToNat, Int.reduceNeg, Int.reduceBEq, Int.reduceMul, Int.reduceAdd, Int.reduceSub]
    refine call_pure (subL_refl _) rfl c_l36_lives rfl ?_
    simp only [go_sem, ↓reduceIte, reduceCtorEq, Nat.reduceEqDiff, Nat.reduceBEq, Nat.reduceAdd, Nat.reduceSub, Nat.reduceMul, Nat.reduceLT, Nat.reduceLeDiff, Int.reduceEq, Int.reduceLT, Int.reduceLE, Int.reduceToNat, Int.reduceNeg, Int.reduceBEq, Int.reduceMul, Int.reduceAdd, Int.reduceSub]
  · refine call_new (subL_refl _) rfl (c_r36_Events l ho) ?_
    simp only [go_sem, ↓reduceIte, reduceCtorEq, Nat.reduceEqDiff, Nat.reduceBEq, Nat.reduceAdd, Nat.reduceSub, Nat.reduceMul, Nat.reduceLT, Nat.reduceLeDiff, Int.reduceEq, Int.reduceLT, Int.reduceLE, Int.reduceToNat, Int.reduceNeg, Int.reduceBEq, Int.reduceMul, Int.reduceAdd, Int.reduceSub, b1, b2]
    refine call_lend (subL_refl _) rfl rfl htw ?_
    rintro r T' ⟨rfl, rfl⟩
    refine ⟨by simp [flatA], flat_ids _, ?_⟩
    simp only [go_sem, ↓reduceIte, reduceCtorEq, Nat.reduceEqDiff, Nat.reduceBEq, Nat.reduceAdd, Nat.reduceSub, Nat.reduceMul, Nat.reduceLT, Nat.reduceLeDiff, Int.reduceEq, Int.reduceLT, Int.reduceLE, Int.reduceToNat, Int.reduceNeg, Int.reduceBEq, Int.reduceMul, Int.reduceAdd, Int.reduceSub]
    refine call_lend (subL_refl _) rfl rfl htr ?_
    rintro r T' ⟨rfl, rfl⟩
    refine ⟨by simp [flatA], flat_ids _, ?_⟩
    simp only [go_sem, ↓reduceIte, reduceCtorEq, Nat.reduceEqDiff, Nat.reduceBEq, Nat.reduceAdd, Nat.reduceSub, Nat.reduceMul, Nat.reduceLT, Nat.reduceLeDiff, Int.reduceEq, Int.reduceLT, Int.reduceLE, Int.reduceToNat, Int.reduceNeg, Int.reduceBEq, Int.reduceMul, Int.reduceAdd, Int.reduceSub]
    refine call_lend_pure (subL_refl _) rfl rfl (c_r11_SameIDs tw tw hl2) ?_
    simp only [go_sem, ↓reduceIte, reduceCtorEq, Nat.reduceEqDiff, Nat.reduceBEq, Nat.reduceAdd, Nat.reduceSub, Nat.reduceMul, Nat.reduceLT, Nat.reduceLeDiff, Int.reduceEq, Int.reduceLT, Int.reduceLE, Int.reduceToNat, Int.reduceNeg, Int.reduceBEq, Int.reduceMul, Int.reduceAdd, Int.reduceSub]
    refine call_pure (subL_refl _) rfl c_l36_lives rfl ?_
    simp only [go_sem, ↓reduceIte, reduceCtorEq, Nat.reduceEqDiff, Nat.reduceBEq, Nat.reduceAdd, Nat.reduceSub, Nat.reduceMul, Nat.reduceLT, Nat.reduceLeDiff, Int.reduceEq, Int.reduceLT, Int.reduceLE, Int.reduceToNat, Int.reduceNeg, Int.reduceBEq, Int.reduceMul, Int.reduceAdd, Int.reduceSub]

theorem evsOf_len (l : List Int) : (evsOf l).length ≤ 20 := by rw [evsOf, evFrom_len, List.length_take]; omega
theorem c_l36_AuditTwiceRow (l m : List Int) (n : Int) (ho : ∀ x ∈ l, okI x) (hm : ∀ x ∈ m, okI x) (hn : okI n) : CallOk Go.Proofs.Try.prog G n_l36_AuditTwiceRow [ints l, ints m, .v (.int .i64 n)] [] fun r T => r = .v (.bool true) ∧ T = [] := by
  refine fun_okH h_l36_AuditTwiceRow_ok (by decide) ?_
  unfold h_l36_AuditTwiceRow
  have hx := evsOf_len l
  have hy := evsOf_len m
  have c1 := c_r36_Events (G := G) l ho
  have c2 := c_r36_Events (G := G) m hm
  generalize evsOf l = x at c1 hx
  generalize evsOf m = y at c2 hy
  obtain ⟨k, hk, hkn⟩ : ∃ k : Nat, around n ((x.length : Int) + 1) = k ∧ k ≤ x.length := by
    have h1 : 0 ≤ around n ((x.length : Int) + 1) := Int.emod_nonneg _ (by omega)
    have h2 : around n ((x.length : Int) + 1) < (x.length : Int) + 1 := Int.emod_lt_of_pos _ (by omega)
    exact ⟨(around n ((x.length : Int) + 1)).toNat, by omega, by omega⟩
  have c3 := c_r01_Around (G := G) n ((x.length : Int) + 1) hn.1 hn.2 (by omega) (by omega)
  rw [hk] at c3
  have ha := c_audit_Twice (G := G) x (by omega)
  have hb := c_audit_Twice (G := G) (x ++ y) (by simp; omega)
  have hc := c_audit_Twice (G := G) (x.drop k ++ x.take k) (by simp; omega)
  have hsame : msortI (foldTw (x.drop k ++ x.take k)).2 = msortI (foldTw x).2 := Twice_perm (List.perm_append_comm.trans (by rw [List.take_append_drop]))
  rw [hsame] at hc
  have hmore : ∀ i, i ∈ msortI (foldTw x).2 → i ∈ msortI (foldTw (x ++ y)).2 := fun i => Twice_more x y i
  have hl1 : (msortI (foldTw x).2).length ≤ 20 := Nat.le_trans (Twice_len x) hx
  have hl2 : (msortI (foldTw (x ++ y)).2).length ≤ 40 := by have := Twice_len (x ++ y); simp only [List.length_append] at this; unfold Twice at this; omega
  generalize msortI (foldTw x).2 = a at ha hc hmore hl1
  generalize msortI (foldTw (x ++ y)).2 = b at hb hmore hl2
  simp only [evs, List.map_append, List.map_drop, List.map_take] at ha hb hc
  simp only [go_sem, ↓reduceIte, reduceCtorEq, Nat.reduceEqDiff, Nat.reduceBEq, Nat.reduceAdd, Nat.reduceSub, Nat.reduceMul, Nat.reduceLT, Nat.reduceLeDiff, Int.reduceEq, Int.reduceLT, Int.reduceLE, Int.reduceToNat, Int.reduceNeg, Int.reduceBEq, Int.reduceMul, Int.reduceAdd, Int.reduceSub]
  refine call_new (subL_refl _) rfl c1 ?_
  simp only [go_sem, ↓reduceIte, reduceCtorEq, Nat.reduceEqDiff, Nat.reduceBEq, Nat.reduceAdd, Nat.reduceSub, Nat.reduceMul, Nat.reduceLT, Nat.reduceLeDiff, Int.reduceEq, Int.reduceLT, Int.reduceLE, Int.reduceToNat, Int.reduceNeg, Int.reduceBEq, Int.reduceMul, Int.reduceAdd, Int.reduceSub, wrap_i64 (show -9223372036854775808 ≤ (x.length : Int) + 1 by omega) (by omega)]
  refine call_pure (subL_refl _) rfl c3 rfl ?_
  have b1 : k + (x.length - k) = x.length := by omega
  simp only [go_sem, ↓reduceIte, reduceCtorEq, Nat.reduceEqDiff, Nat.reduceBEq, Nat.reduceAdd, Nat.reduceSub, Nat.reduceMul, Nat.reduceLT, Nat.reduceLeDiff, Int.reduceEq, Int.reduceLT, Int.reduceLE, Int.reduceToNat, Int.reduceNeg, Int.reduceBEq, Int.reduceMul, Int.reduceAdd, Int.reduceSub, hkn, b1, show (x.length - k) * 80 ≤ 140737488355328 by omega, show x.length - k ≤ maxLen by unfold maxLen; omega, Nat.min_eq_left hkn,
    show (x.length - k + k) * 80 ≤ 140737488355328 by omega, show x.length - k + k ≤ maxLen by unfold maxLen; omega]
  refine call_lend (subL_refl _) rfl rfl ha ?_
  rintro r T' ⟨rfl, rfl⟩
  refine ⟨by simp [flatA], flat_ids _, ?_⟩
  simp only [go_sem, ↓reduceIte, reduceCtorEq, Nat.reduceEqDiff, Nat.reduceBEq, Nat.reduceAdd, Nat.reduceSub, Nat.reduceMul, Nat.reduceLT, Nat.reduceLeDiff, Int.reduceEq, Int.reduceLT, Int.reduceLE, Int.reduceToNat, Int.reduceNeg, Int.reduceBEq, Int.reduceMul, Int.reduceAdd, Int.reduceSub, show x.length * 80 ≤ 140737488355328 by omega, show x.length ≤ maxLen by unfold maxLen; omega]
  refine call_new (subL_refl _) rfl c2 ?_
  simp only [go_sem, ↓reduceIte, reduceCtorEq, Nat.reduceEqDiff, Nat.reduceBEq, Nat.reduceAdd, Nat.reduceSub, Nat.reduceMul, Nat.reduceLT, Nat.reduceLeDiff, Int.reduceEq, Int.reduceLT, Int.reduceLE, Int.reduceToNat, Int.reduceNeg, Int.reduceBEq, Int.reduceMul, Int.reduceAdd, Int.reduceSub, show (x.length + y.length) * 80 ≤ 140737488355328 by omega, show x.length + y.length ≤ maxLen by unfold maxLen; omega]
  refine call_lend (subL_refl _) rfl rfl hb ?_
  rintro r T' ⟨rfl, rfl⟩
  refine ⟨by simp [flatA], flat_ids _, ?_⟩
  simp only [go_sem, ↓reduceIte, reduceCtorEq, Nat.reduceEqDiff, Nat.reduceBEq, Nat.reduceAdd, Nat.reduceSub, Nat.reduceMul, Nat.reduceLT, Nat.reduceLeDiff, Int.reduceEq, Int.reduceLT, Int.reduceLE, Int.reduceToNat, Int.reduceNeg, Int.reduceBEq, Int.reduceMul, Int.reduceAdd, Int.reduceSub]
  refine loop_up a.length (fun i => ⟨0, [(9, .own 0), (10, .own 1), (11, .own 2), (12, .v (.int .i64 i))], [some (.arr 9 ((x.map Ev.A).drop k ++ (x.map Ev.A).take k)), some (.arr 3 (a.map Id.A)), some (.arr 3 (b.map Id.A))]⟩) (fun _ => True) ?_ trivial ?_ ?_
  · simp only [go_sem, ↓reduceIte, reduceCtorEq, Nat.reduceEqDiff, Nat.reduceBEq, Nat.reduceAdd, Nat.reduceSub, Nat.reduceMul, Nat.reduceLT, Nat.reduceLeDiff, Int.reduceEq, Int.reduceLT, Int.reduceLE, Int.reduceToNat, Int.reduceNeg, Int.reduceBEq, Int.reduceMul, Int.reduceAdd, Int.reduceSub]
  · intro i hi _
    simp only [go_sem, ↓reduceIte, reduceCtorEq, Nat.reduceEqDiff, Nat.reduceBEq, Nat.reduceAdd, Nat.reduceSub, Nat.reduceMul, Nat.reduceLT, Nat.reduceLeDiff, Int.reduceEq, Int.reduceLT, Int.reduceLE, Int.reduceToNat, Int.reduceNeg, Int.reduceBEq, Int.reduceMul, Int.reduceAdd, Int.reduceSub, dlt_t hi, hi, nth_map Id.A a i hi, Id.A_def]
    have hin : a[i] ∈ b := hmore _ (List.getElem_mem hi)
    refine call_lend_pure (subL_refl _) rfl rfl (c_r11_HasID b a[i] (by unfold maxLen; omega)) ?_
    simp only [go_sem, ↓reduceIte, reduceCtorEq, Nat.reduceEqDiff, Nat.reduceBEq, Nat.reduceAdd, Nat.reduceSub, Nat.reduceMul, Nat.reduceLT, Nat.reduceLeDiff, Int.reduceEq, Int.reduceLT, Int.reduceLE, Int.reduceToNat, Int.reduceNeg, Int.reduceBEq, Int.reduceMul, Int.reduceAdd, Int.reduceSub, hin, wrap_suc (show i < 9223372036854775807 by omega)]
  · intro _
    simp only [go_sem, ↓reduceIte, reduceCtorEq, Nat.reduceEqDiff, Nat.reduceBEq, Nat.reduceAdd, Nat.reduceSub, Nat.reduceMul, Nat.reduceLT, Nat.reduceLeDiff, Int.reduceEq, Int.reduceLT, Int.reduceLE, Int.reduceToNat, Int.reduceNeg, Int.reduceBEq, Int.reduceMul, Int.reduceAdd, Int.reduceSub, dlt_f (Nat.lt_irrefl _)]
    refine call_lend (subL_refl _) rfl rfl hc ?_
    rintro r T' ⟨rfl, rfl⟩
    refine ⟨by simp [flatA], flat_ids _, ?_⟩
    simp only [go_sem, ↓reduceIte, reduceCtorEq, Nat.reduceEqDiff, Nat.reduceBEq, Nat.reduceAdd, Nat.reduceSub, Nat.reduceMul, Nat.reduceLT, Nat.reduceLeDiff, Int.reduceEq, Int.reduceLT, Int.reduceLE, Int.reduceToNat, Int.reduceNeg, Int.reduceBEq, Int.reduceMul, Int.reduceAdd, Int.reduceSub]
    refine call_lend_pure (subL_refl _) rfl rfl (c_r11_SameIDs a a (by unfold maxLen; omega)) ?_
    simp only [go_sem, ↓reduceIte, reduceCtorEq, Nat.reduceEqDiff, Nat.reduceBEq, Nat.reduceAdd, Nat.reduceSub, Nat.reduceMul, Nat.reduceLT, Nat.reduceLeDiff, Int.reduceEq, Int.reduceLT, Int.reduceLE, Int.reduceToNat, Int.reduceNeg, Int.reduceBEq, Int.reduceMul, Int.reduceAdd, Int.reduceSub]
    refine call_pure (subL_refl _) rfl c_l36_lives rfl ?_
    simp only [go_sem, ↓reduceIte, reduceCtorEq, Nat.reduceEqDiff, Nat.reduceBEq, Nat.reduceAdd, Nat.reduceSub, Nat.reduceMul, Nat.reduceLT, Nat.reduceLeDiff, Int.reduceEq, Int.reduceLT, Int.reduceLE, Int.reduceToNat, Int.reduceNeg, Int.reduceBEq, Int.reduceMul, Int.reduceAdd, Int.reduceSub]
end
end Hud
