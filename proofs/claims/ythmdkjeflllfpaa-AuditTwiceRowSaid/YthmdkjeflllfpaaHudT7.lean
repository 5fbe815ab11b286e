/- The sort. -/
import Derived.Test.YthmdkjeflllfpaaHudT5
import Derived.Test.YthmdkjeflllfpaaHudT0L
import Derived.Test.YthmdkjeflllfpaaHudZ
set_option linter.all false
namespace Hud
open Go
def msortI (l : List Id) : List Id := l.mergeSort (fun x y => !(y.lt x))
section
variable {G : Nat → Option (List AV)}
theorem c_audit_names_2_1 (x y : Id) : CallOk Go.Proofs.Try.prog G n_audit_names_2_1 [.ag x.A, .ag y.A] [] fun r T => r = .v (.int .i64 (if x.lt y then -1 else 1)) ∧ T = [] := by
  refine fun_okH h_audit_names_2_1_ok (by decide) ?_
  unfold h_audit_names_2_1
  simp only [go_sem, ↓reduceIte, reduceCtorEq, Nat.reduceEqDiff, Nat.reduceBEq, Nat.reduceAdd, Nat.reduceSub, Nat.reduceMul, Nat.reduceLT, Nat.reduceLeDiff, Int.reduceEq, Int.reduceLT, Int.reduceLE, Int.reduceToNat, Int.reduceNeg, Int.reduceBEq, Int.reduceMul, Int.reduceAdd, Int.reduceSub, Id.A_def]
  refine call_pure (subL_refl _) rfl (c_op_Less x y) rfl ?_
  simp only [go_sem, ↓reduceIte, reduceCtorEq, Nat.reduceEqDiff, Nat.reduceBEq, Nat.reduceAdd, Nat.reduceSub, Nat.reduceMul, Nat.reduceLT, Nat.reduceLeDiff, Int.reduceEq, Int.reduceLT, Int.reduceLE, Int.reduceToNat, Int.reduceNeg, Int.reduceBEq, Int.reduceMul, Int.reduceAdd, Int.reduceSub]
  refine condW_i (fun h => ?_) (fun h => ?_) <;> simp only [go_sem, ↓reduceIte, reduceCtorEq, Nat.reduceEqDiff, Nat.reduceBEq, Nat.reduceAdd, Nat.reduceSub, Nat.reduceMul, Nat.reduceLT, Nat.reduceLeDiff, Int.reduceEq, Int.reduceLT, Int.reduceLE, Int.reduceToNat, Int.reduceNeg, Int.reduceBEq, Int.reduceMul, Int.reduceAdd, Int.reduceSub, h]
theorem c_SortI (l : List Id) (hl : l.length < 4611686018427387904) : CallOk Go.Proofs.Try.prog G n_slices_SortFunc_Lapi_Ident_api_Ident [.own 0, .cl n_audit_names_2_1 []] [some (.arr 3 (l.map Id.A))] fun r T => r = .tup [] ∧ T = [some (.arr 3 ((msortI l).map Id.A))] := by
  have hlt : ∀ x y : Id, Go.Proofs.ltOf (fun x y : Id => if x.lt y then (-1 : Int) else 1) x y = x.lt y := by
    intro x y
    unfold Go.Proofs.ltOf
    cases h : x.lt y <;> simp [h]
  have := sort_ok (k := 3) (enc := Id.K) Go.Proofs.Try.laysSort Go.Proofs.Try.isAgg25 Go.Proofs.Try.sizeOf25 (fun _ => rfl) (fun x v hv => by simp [Id.K] at hv; rcases hv with rfl | rfl | rfl <;> rfl)
    (fun x c hc => by simp [cellsOf, Id.K] at hc; rcases hc with rfl | rfl | rfl <;> rfl) (cf := fun x y : Id => if x.lt y then -1 else 1)
    ⟨fun x => by rw [hlt, Id.lt_irrefl], fun x y z h1 h2 => by rw [hlt] at *; exact Id.lt_trans h1 h2, fun x y z h1 h2 => by rw [hlt] at *; exact Id.nlt_trans h1 h2⟩
    (fun x y h1 h2 => by rw [hlt] at *; exact Id.lt_total h1 h2) (g := n_audit_names_2_1) (Go.Proofs.enters_of Go.Proofs.Try.func18 (by kernel_rfl) rfl) (Go.Proofs.enters_of Go.Proofs.Try.func17 (by kernel_rfl) rfl) (G := G) c_audit_names_2_1 l hl
  have e : (fun x y : Id => !(Go.Proofs.ltOf (fun x y : Id => if x.lt y then (-1 : Int) else 1) y x)) = fun x y => !(y.lt x) := by funext x y; rw [hlt]
  rw [e] at this
  exact this
theorem c_audit_names_2 (l : List Id) (hl : l.length < 4611686018427387904) : CallOk Go.Proofs.Try.prog G n_audit_names_2 [.ptr 0 0] [some (.box [.own 1]), some (.arr 3 (l.map Id.A))] fun r T => r = .own 1 ∧ T = [some (.box [.own 1]), some (.arr 3 ((msortI l).map Id.A))] := by
  refine fun_okH h_audit_names_2_ok (by simp) ?_
  unfold h_audit_names_2
  simp only [go_sem, ↓reduceIte, reduceCtorEq, Nat.reduceEqDiff, Nat.reduceBEq, Nat.reduceAdd, Nat.reduceSub, Nat.reduceMul, Nat.reduceLT, Nat.reduceLeDiff, Int.reduceEq, Int.reduceLT, Int.reduceLE, Int.reduceToNat, Int.reduceNeg, Int.reduceBEq, Int.reduceMul, Int.reduceAdd, Int.reduceSub]
  refine call_on (L := [1]) (subL_refl _) rfl rfl rfl (c_SortI l hl) ?_
  rintro r T' ⟨rfl, rfl⟩
  simp only [go_sem, ↓reduceIte, reduceCtorEq, Nat.reduceEqDiff, Nat.reduceBEq, Nat.reduceAdd, Nat.reduceSub, Nat.reduceMul, Nat.reduceLT, Nat.reduceLeDiff, Int.reduceEq, Int.reduceLT, Int.reduceLE, Int.reduceToNat, Int.reduceNeg, Int.reduceBEq, Int.reduceMul, Int.reduceAdd, Int.reduceSub]
end
end Hud
