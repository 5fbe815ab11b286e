import Derived.Test.YtialbdgcgiaebaaGreatLib13
set_option linter.all false
section
namespace Hud
open Go
theorem pbin_remN (x m : Nat) (h : m ≠ 0) : pbin .rem (.int .u64 (x : Int)) (.int .u64 (m : Int)) = some (.int .u64 ((x % m : Nat) : Int)) := by
  have : ((m : Nat) : Int) ≠ 0 := by omega
  simp only [pbin, if_true, if_neg this]
  rw [Int.tmod_eq_emod_of_nonneg (by omega)]
  rfl
theorem pbin_rem60 (x : Nat) : pbin .rem (.int .u64 (x : Int)) (.int .u64 1152921504606846976) = some (.int .u64 ((x % 1152921504606846976 : Nat) : Int)) := pbin_remN x 1152921504606846976 (by decide)
section
variable {G : Nat → Option (List AV)}
end
end Hud
end
section
namespace Hud
open Go
@[go_sem] theorem wrapI_0 : IntKind.i64.wrap 0 = 0 := by decide
@[go_sem] theorem wrapU_0 : IntKind.u64.wrap 0 = 0 := by decide
@[go_sem] theorem wrapI_1 : IntKind.i64.wrap 1 = 1 := by decide
@[go_sem] theorem wrapU_1 : IntKind.u64.wrap 1 = 1 := by decide
@[go_sem] theorem wrapI_2 : IntKind.i64.wrap 2 = 2 := by decide
@[go_sem] theorem wrapU_2 : IntKind.u64.wrap 2 = 2 := by decide
@[go_sem] theorem wrapI_3 : IntKind.i64.wrap 3 = 3 := by decide
@[go_sem] theorem wrapU_3 : IntKind.u64.wrap 3 = 3 := by decide
@[go_sem] theorem wrapI_4 : IntKind.i64.wrap 4 = 4 := by decide
@[go_sem] theorem wrapU_4 : IntKind.u64.wrap 4 = 4 := by decide
@[go_sem] theorem wrapI_5 : IntKind.i64.wrap 5 = 5 := by decide
@[go_sem] theorem wrapU_5 : IntKind.u64.wrap 5 = 5 := by decide
@[go_sem] theorem wrapI_6 : IntKind.i64.wrap 6 = 6 := by decide
@[go_sem] theorem wrapU_6 : IntKind.u64.wrap 6 = 6 := by decide
@[go_sem] theorem wrapI_7 : IntKind.i64.wrap 7 = 7 := by decide
@[go_sem] theorem wrapU_7 : IntKind.u64.wrap 7 = 7 := by decide
@[go_sem] theorem wrapI_8 : IntKind.i64.wrap 8 = 8 := by decide
@[go_sem] theorem wrapU_8 : IntKind.u64.wrap 8 = 8 := by decide
@[go_sem] theorem wrapI_16 : IntKind.i64.wrap 16 = 16 := by decide
@[go_sem] theorem wrapU_16 : IntKind.u64.wrap 16 = 16 := by decide
@[go_sem] theorem wrapI_24 : IntKind.i64.wrap 24 = 24 := by decide
@[go_sem] theorem wrapU_24 : IntKind.u64.wrap 24 = 24 := by decide
@[go_sem] theorem wrapI_32 : IntKind.i64.wrap 32 = 32 := by decide
@[go_sem] theorem wrapU_32 : IntKind.u64.wrap 32 = 32 := by decide
@[go_sem] theorem wrapI_64 : IntKind.i64.wrap 64 = 64 := by decide
@[go_sem] theorem wrapU_64 : IntKind.u64.wrap 64 = 64 := by decide
def hst (s w : Fq) (k : Nat) : Fq := (37 * s + (w + Fin.ofNat PP k)) ^ 17
theorem fq_of_nat (n : Nat) (h : n < PP) : ((Fin.ofNat PP n : Fq)).val = n := Nat.mod_eq_of_lt h
theorem fq_addn (w : Fq) (k : Nat) (h : k < PP) : (w.val + k) % FP = (w + Fin.ofNat PP k).val := by
  rw [Fin.val_add, fq_of_nat k h]; rfl
def eW : Fq := ⟨1835363429, by decide⟩
section
variable {G : Nat → Option (List AV)}
set_option maxHeartbeats 2000000
theorem h_take (s w : Fq) (k : Nat) (hk : k < 1000) : CallOk Go.Proofs.Tryz.prog G n_hash_state_take [.ptr 0 0, .own 1] [some (.box [.v (fu s), .v (.int .u64 (k : Int))]), some (.arr 1 [[.v (fu w)]])] fun r T' =>
    T' = [some (.box [.v (fu (hst s w (k + 1))), .v (.int .u64 ((k + 1 : Nat) : Int))]), some (.arr 1 [[.v (fu w)]])] := by
  refine fun_okH h_hash_state_take_ok (by decide) ?_
  unfold h_hash_state_take
  have hw := fu_lt w
  have a1 := pbin_addU k 1 (by omega)
  have a2 := pbin_addU w.val (k + 1) (by omega)
  have e := fq_addn w (k + 1) (by show _ < 2305843009213693951; omega)
  simp only [cast_1] at a1
  have a3 : IntKind.u64.wrap (((w.val : Nat) : Int) + ((k + 1 : Nat) : Int)) = ((w.val + (k + 1) : Nat) : Int) := by rw [← Int.natCast_add, u64_wrap _ (by omega)]
  simp only [go_sem, ↓reduceIte]
  refine loop_up 1 (fun i => ⟨2, [(0, .ptr 0 0), (6, .own 1), (7, .v (.int .i64 1)), (8, .v (.int .i64 i))], [some (.box [.v (fu (if i = 0 then s else hst s w (k + 1))), .v (.int .u64 ((k + i : Nat) : Int))]), some (.arr 1 [[.v (fu w)]])]⟩) (fun _ => True) ?_ trivial ?_ ?_
  · simp only [go_sem, ↓reduceIte]
  · intro i hi _
    obtain rfl : i = 0 := by omega
    simp only [go_sem, ↓reduceIte, ↓a1, ↓a2, a3]
    refine call_pure (subL_refl _) rfl (f_Mul 37 s) rfl ?_
    simp only [go_sem, ↓reduceIte, a3]
    refine call_pure (subL_refl _) rfl (c_Num G (w.val + (k + 1)) (by omega)) rfl ?_
    simp only [go_sem, ↓reduceIte, e]
    refine call_pure (subL_refl _) rfl (f_Add (37 * s) (w + Fin.ofNat PP (k + 1))) rfl ?_
    simp only [go_sem, ↓reduceIte]
    refine call_pure (subL_refl _) rfl (f_Pow _ 17 (by decide)) rfl ?_
    simp only [go_sem, ↓reduceIte, hst]
  · intro _
    simp only [go_sem, ↓reduceIte]
theorem h_words (es : List (List AV)) : CallOk Go.Proofs.Tryz.prog G n_hash_words [.ls 1 es] [] fun r T' => r = .cl n_hash_words_1 [.ptr 0 0] ∧ T' = [some (.box [.ls 1 es])] := by
  refine fun_okH h_hash_words_ok (by decide) ?_
  unfold h_hash_words
  simp only [go_sem, ↓reduceIte]
theorem h_Chunk (es : List (List AV)) : CallOk Go.Proofs.Tryz.prog G n_slices_Chunk_Lbyte_byte [.ls 1 es, .v (.int .i64 7)] [] fun r T' => r = .cl n_slices_Chunk_Lbyte_byte_1 [.ptr 0 0, .ptr 1 0] ∧ T' = [some (.box [.ls 1 es]), some (.box [.v (.int .i64 7)])] := by
  refine fun_okH h_slices_Chunk_Lbyte_byte_ok (by decide) ?_
  unfold h_slices_Chunk_Lbyte_byte
  simp only [go_sem, ↓reduceIte]
def hsts : Fq → Nat → List Fq → Fq
  | s, _, [] => s
  | s, k, w :: l => hsts (hst s w (k + 1)) (k + 1) l
def hashE (l : List Nat) : Fq := hsts 4 0 ([eW, Fin.ofNat PP l.length] ++ l.map (Fin.ofNat PP) ++ [0])
abbrev eB : List (List AV) := [[.v (.int .u8 101)], [.v (.int .u8 108)], [.v (.int .u8 101)], [.v (.int .u8 109)]]
theorem eB_ok : bytesE (bs [101, 108, 101, 109]) = eB := by rfl
theorem eS_ok : (bs [101, 108, 101, 109]).size = 4 := by rfl
theorem eM_ok : (4 : Nat) ≤ maxLen := by decide
def eAcc : Nat → Int
  | 0 => 0
  | 1 => 101
  | 2 => 27749
  | 3 => 6646885
  | _ => 1835363429
def hI (n1 n2 n3 : Nat) : Nat → Fq
  | 0 => hst (hst 4 eW 1) (Fin.ofNat PP 3) 2
  | 1 => hst (hst (hst 4 eW 1) (Fin.ofNat PP 3) 2) (Fin.ofNat PP n1) 3
  | 2 => hst (hst (hst (hst 4 eW 1) (Fin.ofNat PP 3) 2) (Fin.ofNat PP n1) 3) (Fin.ofNat PP n2) 4
  | _ => hst (hst (hst (hst (hst 4 eW 1) (Fin.ofNat PP 3) 2) (Fin.ofNat PP n1) 3) (Fin.ofNat PP n2) 4) (Fin.ofNat PP n3) 5
theorem h_Of (n1 n2 n3 : Nat) (h1 : n1 < 18446744073709551616) (h2 : n2 < 18446744073709551616) (h3 : n3 < 18446744073709551616) : CallOk Go.Proofs.Tryz.prog G n_hash_Of [.v (.string (bs [101, 108, 101, 109])), .ls 1 [[.v (.int .u64 (n1 : Int))], [.v (.int .u64 (n2 : Int))], [.v (.int .u64 (n3 : Int))]]] [] fun r T' =>
    r = .v (fu (hashE [n1, n2, n3])) ∧ T' = [] := by
  refine fun_okH h_hash_Of_ok (by decide) ?_
  unfold h_hash_Of
  simp only [go_sem, ↓reduceIte, eB_ok, eS_ok, eM_ok]
  refine call_new (subL_refl _) rfl (h_words _) ?_
  simp only [go_sem, ↓reduceIte]
  refine rng_i rfl (gobody_ok h_hash_words_1_ok) fun r k1 k2 hy hyR => ?_
  simp only [go_sem, ↓reduceIte]
  refine call_in [0, 1, 2] (subL_refl _) (by decide) (fun i hi => by simp at hi ⊢; omega) rfl rfl (fun_okH h_hash_words_1_ok (by decide) ?_)
  unfold h_hash_words_1
  simp only [go_sem, ↓reduceIte]
  refine call_new (subL_refl _) rfl (h_Chunk _) ?_
  simp only [go_sem, ↓reduceIte]
  refine rng_i rfl (gobody_ok h_slices_Chunk_Lbyte_byte_1_ok) fun r2 q1 q2 hz hzR => ?_
  simp only [go_sem, ↓reduceIte]
  refine call_in [0, 1, 2, 3, 4, 5, 6] (subL_refl _) (by decide) (fun i hi => by simp at hi ⊢; omega) rfl rfl (fun_okH h_slices_Chunk_Lbyte_byte_1_ok (by decide) ?_)
  unfold h_slices_Chunk_Lbyte_byte_1
  simp only [go_sem, ↓reduceIte]
  refine loop_i (fun n s => (n = 1 ∧ s = ⟨7, [(0, .yl 6), (1, .ptr 4 0), (2, .ptr 5 0), (4, .v (.int .i64 0))], [some (.box [.v (fu 4), .v (.int .u64 0)]), some (.box [.ls 1 eB]), some (.lp r [(5, .ptr 0 0)]), some (.box [.yl 2]), some (.box [.ls 1 eB]), some (.box [.v (.int .i64 7)]), some (.lp r2 [(2, .ptr 3 0)])]⟩) ∨
    (n = 0 ∧ s = ⟨7, [(0, .yl 6), (1, .ptr 4 0), (2, .ptr 5 0), (4, .v (.int .i64 7))], [some (.box [.v (fu (hst 4 eW 1)), .v (.int .u64 ((1 : Nat) : Int))]), some (.box [.ls 1 eB]), some (.lp r [(5, .ptr 0 0)]), some (.box [.yl 2]), some (.box [.ls 1 eB]), some (.box [.v (.int .i64 7)]), some (.lp r2 [(2, .ptr 3 0)])]⟩)) 1 (.inl ⟨rfl, ?_⟩) ?_
  · simp only [go_sem, ↓reduceIte]
    rfl
  rintro n s (⟨rfl, rfl⟩ | ⟨rfl, rfl⟩)
  · simp only [go_sem, ↓reduceIte]
    refine hz _ _ _ _ _ rfl rfl ?_
    simp only [go_sem, ↓reduceIte]
    refine loop_i (fun n s => ∃ j, j ≤ 4 ∧ n = 4 - j ∧ s = ⟨7, [(2, .ptr 3 0), (4, .v (.int .u64 (eAcc j))), (10, .ls 1 eB), (11, .v (.int .i64 4)), (12, .v (.int .i64 j))], [some (.box [.v (fu 4), .v (.int .u64 0)]), some (.box [.ls 1 eB]), some (.lp r [(5, .ptr 0 0)]), some (.box [.yl 2]), some (.box [.ls 1 eB]), some (.box [.v (.int .i64 7)]), none]⟩) 4 ⟨0, by decide, rfl, ?_⟩ ?_
    · simp only [go_sem, ↓reduceIte, eAcc]
    rintro n s ⟨j, hj, rfl, rfl⟩
    have hj' : j = 0 ∨ j = 1 ∨ j = 2 ∨ j = 3 ∨ j = 4 := by omega
    have s1 : pbin .shl (.int .u64 101) (.int .i64 0) = some (.int .u64 101) := by rfl
    have s2 : pbin .shl (.int .u64 108) (.int .i64 8) = some (.int .u64 27648) := by rfl
    have s3 : pbin .shl (.int .u64 101) (.int .i64 16) = some (.int .u64 6619136) := by rfl
    have s4 : pbin .shl (.int .u64 109) (.int .i64 24) = some (.int .u64 1828716544) := by rfl
    have o1 : pbin .or (.int .u64 0) (.int .u64 101) = some (.int .u64 101) := by rfl
    have o2 : pbin .or (.int .u64 101) (.int .u64 27648) = some (.int .u64 27749) := by rfl
    have o3 : pbin .or (.int .u64 27749) (.int .u64 6619136) = some (.int .u64 6646885) := by rfl
    have o4 : pbin .or (.int .u64 6646885) (.int .u64 1828716544) = some (.int .u64 1835363429) := by rfl
    have c1 : IntKind.u64.wrap 101 = 101 := by decide
    have c2 : IntKind.u64.wrap 108 = 108 := by decide
    have c3 : IntKind.u64.wrap 109 = 109 := by decide
    rcases hj' with rfl | rfl | rfl | rfl | rfl
    · simp only [go_sem, ↓reduceIte, eAcc, c1, ↓s1, ↓o1]
      exact ⟨_, by decide, 1, by decide, rfl, rfl⟩
    · simp only [go_sem, ↓reduceIte, eAcc, c2, ↓s2, ↓o2]
      exact ⟨_, by decide, 2, by decide, rfl, rfl⟩
    · simp only [go_sem, ↓reduceIte, eAcc, c1, ↓s3, ↓o3]
      exact ⟨_, by decide, 3, by decide, rfl, rfl⟩
    · simp only [go_sem, ↓reduceIte, eAcc, c3, ↓s4, ↓o4]
      exact ⟨_, by decide, 4, by decide, rfl, rfl⟩
    · simp only [go_sem, ↓reduceIte, eAcc]
      refine hy _ _ _ _ _ rfl rfl ?_
      simp only [go_sem, ↓reduceIte]
      refine call_at [0, 7] (subL_refl _) (by decide) (by simp) rfl rfl (h_take 4 eW 0 (by decide)) ?_
      rintro r' T' hT
      subst hT
      simp only [go_sem, ↓reduceIte]
      exact ⟨0, by decide, .inr rfl⟩
  · simp only [go_sem, ↓reduceIte, q1, q2, k1, k2]
    refine call_at [0, 3] (subL_refl _) (by decide) (by simp) rfl rfl (h_take (hst 4 eW 1) (Fin.ofNat PP 3) 1 (by decide)) ?_
    rintro r' T' hT
    subst hT
    simp only [go_sem, ↓reduceIte]
    have e0 : hI n1 n2 n3 1 = hst (hI n1 n2 n3 0) (Fin.ofNat PP n1) 3 := rfl
    have e1 : hI n1 n2 n3 2 = hst (hI n1 n2 n3 1) (Fin.ofNat PP n2) 4 := rfl
    have e2 : hI n1 n2 n3 3 = hst (hI n1 n2 n3 2) (Fin.ofNat PP n3) 5 := rfl
    refine loop_up 3 (fun i => ⟨0, [(4, .v (.int .u64 0)), (5, .ptr 0 0), (15, .cl n_hash_words_1 [.ptr 1 0]), (25, .ls 1 [[.v (.int .u64 (n1 : Int))], [.v (.int .u64 (n2 : Int))], [.v (.int .u64 (n3 : Int))]]), (26, .v (.int .i64 3)), (27, .v (.int .i64 i))], [some (.box [.v (fu (hI n1 n2 n3 i)), .v (.int .u64 ((2 + i : Nat) : Int))]), some (.box [.ls 1 eB])]⟩) (fun _ => True) ?_ trivial ?_ ?_
    · simp only [go_sem, ↓reduceIte]
      rfl
    · intro i hi _
      have hi' : i = 0 ∨ i = 1 ∨ i = 2 := by omega
      rcases hi' with rfl | rfl | rfl
      · simp only [go_sem, ↓reduceIte]
        refine call_pure (subL_refl _) rfl (c_Num G n1 h1) rfl ?_
        simp only [go_sem, ↓reduceIte]
        refine call_at [0, 2] (subL_refl _) (by decide) (by simp) rfl rfl (h_take (hI n1 n2 n3 0) (Fin.ofNat PP n1) 2 (by decide)) ?_
        rintro r' T' hT
        subst hT
        simp only [go_sem, ↓reduceIte, ← e0, ← e1, ← e2]
      · simp only [go_sem, ↓reduceIte]
        refine call_pure (subL_refl _) rfl (c_Num G n2 h2) rfl ?_
        simp only [go_sem, ↓reduceIte]
        refine call_at [0, 2] (subL_refl _) (by decide) (by simp) rfl rfl (h_take (hI n1 n2 n3 1) (Fin.ofNat PP n2) 3 (by decide)) ?_
        rintro r' T' hT
        subst hT
        simp only [go_sem, ↓reduceIte, ← e0, ← e1, ← e2]
      · simp only [go_sem, ↓reduceIte]
        refine call_pure (subL_refl _) rfl (c_Num G n3 h3) rfl ?_
        simp only [go_sem, ↓reduceIte]
        refine call_at [0, 2] (subL_refl _) (by decide) (by simp) rfl rfl (h_take (hI n1 n2 n3 2) (Fin.ofNat PP n3) 4 (by decide)) ?_
        rintro r' T' hT
        subst hT
        simp only [go_sem, ↓reduceIte, ← e0, ← e1, ← e2]
    · intro _
      simp only [go_sem, ↓reduceIte]
      refine call_at [0, 2] (subL_refl _) (by decide) (by simp) rfl rfl (h_take (hI n1 n2 n3 3) 0 5 (by decide)) ?_
      rintro r' T' hT
      subst hT
      simp only [go_sem, ↓reduceIte]
      rfl
end
end Hud
end
section
namespace Hud
open Go
def h_poly_Gcd : HFun := ⟨24, [(4, none)],
  .seq (.seq (.reg [⟨some 4, .mov (.const (.slice none 0 0)), none⟩]) (.kill [4])) (.seq (.seq (.reg [⟨some 7, .mov (.tmp 0), none⟩, ⟨some 8, .call (.func n_poly_Trim) [.tmp 7], none⟩, ⟨some 9, .mov (.tmp 1), none⟩, ⟨some 10, .call (.func n_poly_Trim) [.tmp 9], none⟩, ⟨some 0, .mov (.tmp 8), none⟩, ⟨some 1, .mov (.tmp 10), none⟩]) (.kill [10, 9, 8, 7])) (.seq (.block 0 (.loop [] (.seq (.seq (.seq (.reg [⟨some 11, .mov (.tmp 1), none⟩, ⟨some 12, .lenL (.tmp 11), none⟩, ⟨some 13, .bin .gtr (.tmp 12) (.const (.int .i64 0)), none⟩]) (.kill [12, 11])) (.cond (.tmp 13) (.seq (.kill [13]) .skip) (.seq (.kill [1, 13]) (.exit 0)))) (.block 1 (.seq (.seq (.reg [⟨some 15, .mov (.tmp 0), none⟩, ⟨some 16, .mov (.tmp 1), none⟩, ⟨some 17, .call (.func n_poly_DivMod) [.tmp 15, .tmp 16], none⟩, ⟨some 14, .mov (.tmp 17), none⟩, ⟨some 18, .ext (.tmp 14) 0, none⟩, ⟨some 19, .ext (.tmp 14) 1, none⟩, ⟨some 5, .mov (.tmp 18), none⟩, ⟨some 6, .mov (.tmp 19), none⟩]) (.kill [0, 5, 19, 18, 14, 17, 16, 15])) (.seq (.reg [⟨some 20, .mov (.tmp 1), none⟩, ⟨some 21, .mov (.tmp 6), none⟩, ⟨some 0, .mov (.tmp 20), none⟩, ⟨some 1, .mov (.tmp 21), none⟩]) (.kill [6, 21, 20]))))))) (.seq (.seq (.reg [⟨some 22, .mov (.tmp 0), none⟩, ⟨some 23, .call (.func n_poly_monic) [.tmp 22], none⟩, ⟨some 4, .mov (.tmp 23), none⟩]) (.kill [0, 23, 22])) .ret)))⟩
theorem h_poly_Gcd_ok : compFunH Go.Proofs.Tryz.prog n_poly_Gcd [] = some h_poly_Gcd := by kernel_rfl
def h_poly_DivMod : HFun := ⟨87, [(4, none), (5, none)],
  .seq (.seq (.reg [⟨some 4, .mov (.const (.slice none 0 0)), none⟩, ⟨some 5, .mov (.const (.slice none 0 0)), none⟩]) (.kill [5, 4])) (.seq (.seq (.reg [⟨some 10, .mov (.tmp 0), none⟩, ⟨some 11, .call (.func n_poly_Trim) [.tmp 10], none⟩, ⟨some 12, .mov (.tmp 1), none⟩, ⟨some 13, .call (.func n_poly_Trim) [.tmp 12], none⟩, ⟨some 0, .mov (.tmp 11), none⟩, ⟨some 1, .mov (.tmp 13), none⟩]) (.kill [13, 12, 11, 10])) (.seq (.seq (.seq (.reg [⟨some 14, .mov (.tmp 1), none⟩, ⟨some 15, .lenL (.tmp 14), none⟩, ⟨some 16, .bin .eql (.tmp 15) (.const (.int .i64 0)), none⟩]) (.kill [15, 14])) (.cond (.tmp 16) (.seq (.kill [0, 1, 16]) (.seq (.seq (.seq (.reg [⟨some 4, .mov (.const (.slice none 0 0)), none⟩, ⟨some 5, .mov (.const (.slice none 0 0)), none⟩]) (.own 4 none 1)) (.own 5 none 1)) .ret)) (.seq (.kill [16]) .skip))) (.seq (.seq (.seq (.reg [⟨some 17, .mov (.tmp 0), none⟩, ⟨some 18, .lenL (.tmp 17), none⟩, ⟨some 19, .mov (.tmp 1), none⟩, ⟨some 20, .lenL (.tmp 19), none⟩, ⟨some 21, .bin .lss (.tmp 18) (.tmp 20), none⟩]) (.kill [20, 19, 18, 17])) (.cond (.tmp 21) (.seq (.kill [1, 21]) (.seq (.seq (.seq (.seq (.reg [⟨some 22, .mov (.tmp 0), none⟩, ⟨some 4, .mov (.const (.slice none 0 0)), none⟩, ⟨some 5, .mov (.tmp 22), none⟩]) (.kill [0, 22])) (.own 4 none 1)) (.own 5 none 1)) .ret)) (.seq (.kill [21]) .skip))) (.seq (.seq (.seq (.reg [⟨some 23, .mov (.tmp 0), none⟩, ⟨some 24, .lenL (.tmp 23), none⟩, ⟨some 25, .mov (.tmp 1), none⟩, ⟨some 26, .lenL (.tmp 25), none⟩, ⟨some 27, .bin .sub (.tmp 24) (.tmp 26), none⟩, ⟨some 28, .bin .add (.tmp 27) (.const (.int .i64 1)), none⟩, ⟨some 29, .mks 1 [.int .u64 0] 8 (.tmp 28) (.tmp 28), none⟩, ⟨some 4, .mov (.tmp 29), none⟩]) (.kill [29, 28, 27, 26, 25, 24, 23])) (.own 4 none 1)) (.seq (.seq (.reg [⟨some 30, .mov (.tmp 1), none⟩, ⟨some 31, .mov (.tmp 1), none⟩, ⟨some 32, .lenL (.tmp 31), none⟩, ⟨some 33, .bin .sub (.tmp 32) (.const (.int .i64 1)), none⟩, ⟨some 34, .iad (.tmp 30) (.tmp 33) 1, none⟩, ⟨some 35, .ld none (.tmp 34), none⟩, ⟨some 36, .call (.func n_field_Inv) [.tmp 35], none⟩, ⟨some 6, .mov (.tmp 36), none⟩]) (.kill [36, 35, 34, 33, 32, 31, 30])) (.seq (.seq (.seq (.reg [⟨some 37, .mov (.tmp 4), none⟩, ⟨some 38, .lenL (.tmp 37), none⟩, ⟨some 39, .bin .sub (.tmp 38) (.const (.int .i64 1)), none⟩, ⟨some 7, .mov (.tmp 39), none⟩]) (.kill [39, 38, 37])) (.block 0 (.loop [] (.seq (.seq (.seq (.reg [⟨some 40, .mov (.tmp 7), none⟩, ⟨some 41, .bin .geq (.tmp 40) (.const (.int .i64 0)), none⟩]) (.kill [40])) (.cond (.tmp 41) (.seq (.kill [41]) .skip) (.seq (.kill [7, 1, 6, 41]) (.exit 0)))) (.seq (.block 1 (.seq (.seq (.reg [⟨some 44, .mov (.tmp 4), none⟩, ⟨some 45, .mov (.tmp 7), none⟩, ⟨some 46, .mov (.tmp 0), none⟩, ⟨some 47, .mov (.tmp 7), none⟩, ⟨some 48, .mov (.tmp 1), none⟩, ⟨some 49, .lenL (.tmp 48), none⟩, ⟨some 50, .bin .add (.tmp 47) (.tmp 49), none⟩, ⟨some 51, .bin .sub (.tmp 50) (.const (.int .i64 1)), none⟩, ⟨some 52, .iad (.tmp 46) (.tmp 51) 1, none⟩, ⟨some 53, .ld none (.tmp 52), none⟩, ⟨some 54, .mov (.tmp 6), none⟩, ⟨some 55, .call (.func n_field_Mul) [.tmp 53, .tmp 54], none⟩, ⟨some 56, .iad (.tmp 44) (.tmp 45) 1, none⟩, ⟨none, .st 1 (.tmp 56) (.tmp 55), none⟩]) (.kill [56, 55, 54, 53, 52, 51, 50, 49, 48, 47, 46, 45, 44])) (.seq (.reg [⟨some 57, .mov (.tmp 1), none⟩, ⟨some 58, .lenL (.tmp 57), none⟩, ⟨some 59, .mov (.const (.int .i64 0)), none⟩]) (.block 2 (.loop [] (.seq (.reg [⟨some 60, .bin .lss (.tmp 59) (.tmp 58), none⟩]) (.seq (.cond (.tmp 60) (.seq (.kill [60]) .skip) (.seq (.kill [59, 57, 58, 60]) (.exit 2))) (.seq (.block 3 (.seq (.seq (.reg [⟨some 61, .mov (.tmp 59), none⟩, ⟨some 62, .iad (.tmp 57) (.tmp 59) 1, none⟩, ⟨some 63, .ld none (.tmp 62), none⟩, ⟨some 8, .mov (.tmp 61), none⟩, ⟨some 9, .mov (.tmp 63), none⟩]) (.kill [63, 62, 61])) (.seq (.regd (.q ⟨some 64, .mov (.tmp 0), none⟩ (.q ⟨some 65, .mov (.tmp 7), none⟩ (.q ⟨some 66, .mov (.tmp 8), none⟩ (.q ⟨some 67, .bin .add (.tmp 65) (.tmp 66), none⟩ (.q ⟨some 68, .mov (.tmp 0), none⟩ (.q ⟨some 69, .mov (.tmp 7), none⟩ (.q ⟨some 70, .mov (.tmp 8), none⟩ (.q ⟨some 71, .bin .add (.tmp 69) (.tmp 70), none⟩ (.q ⟨some 72, .iad (.tmp 68) (.tmp 71) 1, none⟩ (.q ⟨some 73, .ld none (.tmp 72), none⟩ (.q ⟨some 74, .mov (.tmp 4), none⟩ (.q ⟨some 75, .mov (.tmp 7), none⟩ (.q ⟨some 76, .iad (.tmp 74) (.tmp 75) 1, none⟩ (.q ⟨some 77, .ld none (.tmp 76), none⟩ (.q ⟨some 78, .mov (.tmp 9), none⟩ (.alt ⟨some 79, .call (.func n_field_Mul) [.tmp 77, .tmp 78], none⟩ [⟨some 73, .ld none (.tmp 72), none⟩, ⟨some 72, .iad (.tmp 68) (.tmp 71) 1, none⟩, ⟨some 71, .bin .add (.tmp 69) (.tmp 70), none⟩, ⟨some 70, .mov (.tmp 8), none⟩, ⟨some 69, .mov (.tmp 7), none⟩, ⟨some 68, .mov (.tmp 0), none⟩, ⟨some 67, .bin .add (.tmp 65) (.tmp 66), none⟩, ⟨some 66, .mov (.tmp 8), none⟩, ⟨some 65, .mov (.tmp 7), none⟩, ⟨some 64, .mov (.tmp 0), none⟩] (.alt ⟨some 80, .call (.func n_field_Sub) [.tmp 73, .tmp 79], none⟩ [⟨some 67, .bin .add (.tmp 65) (.tmp 66), none⟩, ⟨some 66, .mov (.tmp 8), none⟩, ⟨some 65, .mov (.tmp 7), none⟩, ⟨some 64, .mov (.tmp 0), none⟩] (.q ⟨some 81, .iad (.tmp 64) (.tmp 67) 1, none⟩ (.alt ⟨none, .st 1 (.tmp 81) (.tmp 80), none⟩ [] (.done false) .no)) .no) .no))))))))))))))))) (.kill [8, 9, 81, 80, 79, 78, 77, 76, 75, 74, 73, 72, 71, 70, 69, 68, 67, 66, 65, 64])))) (.seq (.reg [⟨some 82, .bin .add (.tmp 59) (.const (.int .i64 1)), none⟩, ⟨some 59, .mov (.tmp 82), none⟩]) (.kill [82])))))))))) (.seq (.reg [⟨some 42, .mov (.tmp 7), none⟩, ⟨some 43, .bin .sub (.tmp 42) (.const (.int .i64 1)), none⟩, ⟨some 7, .mov (.tmp 43), none⟩]) (.kill [43, 42]))))))) (.seq (.seq (.seq (.seq (.reg [⟨some 83, .mov (.tmp 4), none⟩, ⟨some 84, .call (.func n_poly_trim) [.tmp 83], none⟩, ⟨some 85, .mov (.tmp 0), none⟩, ⟨some 86, .call (.func n_poly_trim) [.tmp 85], none⟩, ⟨some 4, .mov (.tmp 84), none⟩, ⟨some 5, .mov (.tmp 86), none⟩]) (.kill [0, 86, 85, 84, 83])) (.own 4 none 1)) (.own 5 none 1)) .ret)))))))⟩
theorem h_poly_DivMod_ok : compFunH Go.Proofs.Tryz.prog n_poly_DivMod [(4, none, 1), (5, none, 1)] = some h_poly_DivMod := by kernel_rfl
def h_poly_Trim : HFun := ⟨6, [(2, none)],
  .seq (.seq (.reg [⟨some 2, .mov (.const (.slice none 0 0)), none⟩]) (.kill [2])) (.seq (.seq (.reg [⟨some 3, .mov (.tmp 0), none⟩, ⟨some 4, .call (.func n_poly_each_uint64_uint64) [.tmp 3, .func n_poly_Trim_1], none⟩, ⟨some 5, .call (.func n_poly_trim) [.tmp 4], none⟩, ⟨some 2, .mov (.tmp 5), none⟩]) (.kill [0, 5, 4, 3])) .ret)⟩
theorem h_poly_Trim_ok : compFunH Go.Proofs.Tryz.prog n_poly_Trim [] = some h_poly_Trim := by kernel_rfl
def h_poly_monic : HFun := ⟨17, [(2, none)],
  .seq (.seq (.reg [⟨some 2, .mov (.const (.slice none 0 0)), none⟩]) (.kill [2])) (.seq (.seq (.seq (.reg [⟨some 4, .mov (.tmp 0), none⟩, ⟨some 5, .lenL (.tmp 4), none⟩, ⟨some 6, .bin .eql (.tmp 5) (.const (.int .i64 0)), none⟩]) (.kill [5, 4])) (.cond (.tmp 6) (.seq (.kill [0, 6]) (.seq (.seq (.reg [⟨some 2, .mov (.const (.slice none 0 0)), none⟩]) (.own 2 none 1)) .ret)) (.seq (.kill [6]) .skip))) (.seq (.seq (.reg [⟨some 7, .mov (.tmp 0), none⟩, ⟨some 8, .mov (.tmp 0), none⟩, ⟨some 9, .lenL (.tmp 8), none⟩, ⟨some 10, .bin .sub (.tmp 9) (.const (.int .i64 1)), none⟩, ⟨some 11, .iad (.tmp 7) (.tmp 10) 1, none⟩, ⟨some 12, .ld none (.tmp 11), none⟩, ⟨some 13, .call (.func n_field_Inv) [.tmp 12], none⟩, ⟨some 3, .alloc [.int .u64 0], none⟩, ⟨none, .st 1 (.tmp 3) (.tmp 13), none⟩]) (.kill [13, 12, 11, 10, 9, 8, 7])) (.seq (.seq (.seq (.reg [⟨some 14, .mov (.tmp 0), none⟩, ⟨some 15, .clo n_poly_monic_1 [.tmp 3], none⟩, ⟨some 16, .call (.func n_poly_each_uint64_uint64) [.tmp 14, .tmp 15], none⟩, ⟨some 2, .mov (.tmp 16), none⟩]) (.kill [0, 3, 16, 15, 14])) (.own 2 none 1)) .ret)))⟩
theorem h_poly_monic_ok : compFunH Go.Proofs.Tryz.prog n_poly_monic [(2, none, 1)] = some h_poly_monic := by kernel_rfl
def h_poly_trim : HFun := ⟨21, [(2, none)],
  .seq (.seq (.reg [⟨some 2, .mov (.const (.slice none 0 0)), none⟩]) (.kill [2])) (.seq (.block 0 (.loop [] (.seq (.seq (.seq (.reg [⟨some 3, .mov (.tmp 0), none⟩, ⟨some 4, .lenL (.tmp 3), none⟩, ⟨some 5, .bin .gtr (.tmp 4) (.const (.int .i64 0)), none⟩, ⟨some 6, .mov (.tmp 5), none⟩, ⟨some 7, .mov (.tmp 0), some (6, true)⟩, ⟨some 8, .mov (.tmp 0), some (6, true)⟩, ⟨some 9, .lenL (.tmp 8), some (6, true)⟩, ⟨some 10, .bin .sub (.tmp 9) (.const (.int .i64 1)), some (6, true)⟩, ⟨some 11, .iad (.tmp 7) (.tmp 10) 1, some (6, true)⟩, ⟨some 12, .ld none (.tmp 11), some (6, true)⟩, ⟨some 13, .bin .eql (.tmp 12) (.const (.int .u64 0)), some (6, true)⟩, ⟨some 14, .pick (.tmp 6) (.tmp 13) (.const (.bool false)), none⟩]) (.kill [13, 12, 11, 10, 9, 8, 7, 6, 5, 4, 3])) (.cond (.tmp 14) (.seq (.kill [14]) .skip) (.seq (.kill [14]) (.exit 0)))) (.block 1 (.seq (.reg [⟨some 15, .mov (.tmp 0), none⟩, ⟨some 16, .mov (.tmp 0), none⟩, ⟨some 17, .lenL (.tmp 16), none⟩, ⟨some 18, .bin .sub (.tmp 17) (.const (.int .i64 1)), none⟩, ⟨some 19, .slc (.tmp 15) none (some (.tmp 18)) 1, none⟩, ⟨some 0, .mov (.tmp 19), none⟩]) (.kill [19, 18, 17, 16, 15])))))) (.seq (.seq (.seq (.reg [⟨some 20, .mov (.tmp 0), none⟩, ⟨some 2, .mov (.tmp 20), none⟩]) (.kill [0, 20])) (.own 2 none 1)) .ret))⟩
theorem h_poly_trim_ok : compFunH Go.Proofs.Tryz.prog n_poly_trim [(2, none, 1)] = some h_poly_trim := by kernel_rfl
def h_poly_Roots : HFun := ⟨25, [(2, none)],
  .seq (.seq (.reg [⟨some 2, .mov (.const (.slice none 0 0)), none⟩]) (.kill [2])) (.seq (.seq (.reg [⟨some 5, .mov (.tmp 0), none⟩, ⟨some 6, .call (.func n_poly_Trim) [.tmp 5], none⟩, ⟨some 7, .call (.func n_poly_monic) [.tmp 6], none⟩, ⟨some 0, .mov (.tmp 7), none⟩]) (.kill [7, 6, 5])) (.seq (.seq (.seq (.reg [⟨some 8, .mov (.tmp 0), none⟩, ⟨some 9, .lenL (.tmp 8), none⟩, ⟨some 10, .bin .lss (.tmp 9) (.const (.int .i64 2)), none⟩]) (.kill [9, 8])) (.cond (.tmp 10) (.seq (.kill [0, 10]) (.seq (.seq (.reg [⟨some 2, .mov (.const (.slice none 0 0)), none⟩]) (.own 2 none 1)) .ret)) (.seq (.kill [10]) .skip))) (.seq (.seq (.reg [⟨some 11, .mov (.tmp 0), none⟩, ⟨some 12, .bsl 1 [.int .u64 0, .int .u64 0] [(0, (1, .const (.int .u64 0))), (1, (1, .const (.int .u64 1)))] 2, none⟩, ⟨some 13, .mov (.tmp 0), none⟩, ⟨some 14, .call (.func n_poly_power) [.tmp 12, .const (.int .u64 2305843009213693951), .tmp 13], none⟩, ⟨some 15, .bsl 1 [.int .u64 0, .int .u64 0] [(0, (1, .const (.int .u64 0))), (1, (1, .const (.int .u64 2305843009213693950)))] 2, none⟩, ⟨some 16, .call (.func n_poly_Add) [.tmp 14, .tmp 15], none⟩, ⟨some 17, .call (.func n_poly_Gcd) [.tmp 11, .tmp 16], none⟩, ⟨some 0, .mov (.tmp 17), none⟩]) (.kill [17, 16, 15, 14, 13, 12, 11])) (.seq (.seq (.reg [⟨some 3, .alloc [.slice none 0 0], none⟩]) (.own 3 (some 0) 1)) (.seq (.reg [⟨some 4, .alloc [.nilFunc], none⟩]) (.seq (.seq (.reg [⟨some 18, .clo n_poly_Roots_1 [.tmp 3, .tmp 4], none⟩, ⟨none, .st 1 (.tmp 4) (.tmp 18), none⟩]) (.kill [18])) (.seq (.seq (.reg [⟨some 19, .ld none (.tmp 4), none⟩, ⟨some 20, .mov (.tmp 0), none⟩, ⟨some 21, .call (.tmp 19) [.tmp 20, .const (.int .u64 0)], none⟩]) (.kill [4, 0, 21, 20, 19])) (.seq (.seq (.reg [⟨some 22, .ld none (.tmp 3), none⟩, ⟨some 23, .call (.func n_slices_Sort_Luint64_uint64) [.tmp 22], none⟩]) (.kill [23, 22])) (.seq (.seq (.seq (.reg [⟨some 24, .ld none (.tmp 3), none⟩, ⟨some 2, .mov (.tmp 24), none⟩]) (.kill [3, 24])) (.own 2 none 1)) .ret)))))))))⟩
theorem h_poly_Roots_ok : compFunH Go.Proofs.Tryz.prog n_poly_Roots [(2, none, 1), (3, some 0, 1)] = some h_poly_Roots := by kernel_rfl
def h_poly_each_uint64_uint64 : HFun := ⟨27, [(4, none)],
  .seq (.seq (.reg [⟨some 4, .mov (.const (.slice none 0 0)), none⟩]) (.kill [4])) (.seq (.seq (.reg [⟨some 8, .mov (.tmp 0), none⟩, ⟨some 9, .lenL (.tmp 8), none⟩, ⟨some 10, .mks 1 [.int .u64 0] 8 (.tmp 9) (.tmp 9), none⟩, ⟨some 5, .mov (.tmp 10), none⟩]) (.kill [10, 9, 8])) (.seq (.seq (.seq (.reg [⟨some 11, .mov (.tmp 0), none⟩, ⟨some 12, .lenL (.tmp 11), none⟩, ⟨some 13, .mov (.const (.int .i64 0)), none⟩]) (.kill [0])) (.block 0 (.loop [] (.seq (.reg [⟨some 14, .bin .lss (.tmp 13) (.tmp 12), none⟩]) (.seq (.cond (.tmp 14) (.seq (.kill [14]) .skip) (.seq (.kill [13, 11, 12, 1, 14]) (.exit 0))) (.seq (.block 1 (.seq (.seq (.reg [⟨some 15, .mov (.tmp 13), none⟩, ⟨some 16, .iad (.tmp 11) (.tmp 13) 1, none⟩, ⟨some 17, .ld none (.tmp 16), none⟩, ⟨some 6, .mov (.tmp 15), none⟩, ⟨some 7, .mov (.tmp 17), none⟩]) (.kill [17, 16, 15])) (.seq (.reg [⟨some 18, .mov (.tmp 5), none⟩, ⟨some 19, .mov (.tmp 6), none⟩, ⟨some 20, .mov (.tmp 1), none⟩, ⟨some 21, .mov (.tmp 6), none⟩, ⟨some 22, .mov (.tmp 7), none⟩, ⟨some 23, .call (.tmp 20) [.tmp 21, .tmp 22], none⟩, ⟨some 24, .iad (.tmp 18) (.tmp 19) 1, none⟩, ⟨none, .st 1 (.tmp 24) (.tmp 23), none⟩]) (.kill [6, 7, 24, 23, 22, 21, 20, 19, 18])))) (.seq (.reg [⟨some 25, .bin .add (.tmp 13) (.const (.int .i64 1)), none⟩, ⟨some 13, .mov (.tmp 25), none⟩]) (.kill [25])))))))) (.seq (.seq (.seq (.reg [⟨some 26, .mov (.tmp 5), none⟩, ⟨some 4, .mov (.tmp 26), none⟩]) (.kill [5, 26])) (.own 4 none 1)) .ret)))⟩
theorem h_poly_each_uint64_uint64_ok : compFunH Go.Proofs.Tryz.prog n_poly_each_uint64_uint64 [(4, none, 1)] = some h_poly_each_uint64_uint64 := by kernel_rfl
def h_poly_Trim_1 : HFun := ⟨7, [(4, none)],
  .seq (.kill [0]) (.seq (.seq (.reg [⟨some 4, .mov (.const (.int .u64 0)), none⟩]) (.kill [4])) (.seq (.seq (.reg [⟨some 5, .mov (.tmp 1), none⟩, ⟨some 6, .call (.func n_field_Num) [.tmp 5], none⟩, ⟨some 4, .mov (.tmp 6), none⟩]) (.kill [1, 6, 5])) .ret))⟩
theorem h_poly_Trim_1_ok : compFunH Go.Proofs.Tryz.prog n_poly_Trim_1 [] = some h_poly_Trim_1 := by kernel_rfl
def h_poly_monic_1 : HFun := ⟨9, [(5, none)],
  .seq (.kill [0]) (.seq (.seq (.reg [⟨some 5, .mov (.const (.int .u64 0)), none⟩]) (.kill [5])) (.seq (.seq (.reg [⟨some 6, .mov (.tmp 1), none⟩, ⟨some 7, .ld none (.tmp 2), none⟩, ⟨some 8, .call (.func n_field_Mul) [.tmp 6, .tmp 7], none⟩, ⟨some 5, .mov (.tmp 8), none⟩]) (.kill [1, 2, 8, 7, 6])) .ret))⟩
theorem h_poly_monic_1_ok : compFunH Go.Proofs.Tryz.prog n_poly_monic_1 [] = some h_poly_monic_1 := by kernel_rfl
def h_poly_Add : HFun := ⟨16, [(4, none)],
  .seq (.seq (.reg [⟨some 3, .box (.tmp 1), none⟩, ⟨some 4, .mov (.const (.slice none 0 0)), none⟩]) (.kill [1, 4])) (.seq (.seq (.seq (.reg [⟨some 5, .mov (.tmp 0), none⟩, ⟨some 6, .lenL (.tmp 5), none⟩, ⟨some 7, .ld none (.tmp 3), none⟩, ⟨some 8, .lenL (.tmp 7), none⟩, ⟨some 9, .bin .lss (.tmp 6) (.tmp 8), none⟩]) (.kill [8, 7, 6, 5])) (.cond (.tmp 9) (.seq (.kill [9]) (.seq (.reg [⟨some 10, .ld none (.tmp 3), none⟩, ⟨some 11, .mov (.tmp 0), none⟩, ⟨some 0, .mov (.tmp 10), none⟩, ⟨none, .st 1 (.tmp 3) (.tmp 11), none⟩]) (.kill [11, 10]))) (.seq (.kill [9]) .skip))) (.seq (.seq (.reg [⟨some 12, .mov (.tmp 0), none⟩, ⟨some 13, .clo n_poly_Add_1 [.tmp 3], none⟩, ⟨some 14, .call (.func n_poly_each_uint64_uint64) [.tmp 12, .tmp 13], none⟩, ⟨some 15, .call (.func n_poly_trim) [.tmp 14], none⟩, ⟨some 4, .mov (.tmp 15), none⟩]) (.kill [0, 3, 15, 14, 13, 12])) .ret))⟩
theorem h_poly_Add_ok : compFunH Go.Proofs.Tryz.prog n_poly_Add [] = some h_poly_Add := by kernel_rfl
def h_poly_power : HFun := ⟨33, [(6, none)],
  .seq (.seq (.reg [⟨some 6, .mov (.const (.slice none 0 0)), none⟩]) (.kill [6])) (.seq (.seq (.seq (.reg [⟨some 8, .bsl 1 [.int .u64 0] [(0, (1, .const (.int .u64 1)))] 1, none⟩, ⟨some 7, .mov (.tmp 8), none⟩]) (.kill [8])) (.shut 7)) (.seq (.block 0 (.loop [] (.seq (.seq (.seq (.reg [⟨some 9, .mov (.tmp 1), none⟩, ⟨some 10, .bin .gtr (.tmp 9) (.const (.int .u64 0)), none⟩]) (.kill [9])) (.cond (.tmp 10) (.seq (.kill [10]) .skip) (.seq (.kill [1, 0, 2, 10]) (.exit 0)))) (.seq (.block 1 (.seq (.seq (.seq (.reg [⟨some 13, .mov (.tmp 1), none⟩, ⟨some 14, .bin .and (.tmp 13) (.const (.int .u64 1)), none⟩, ⟨some 15, .bin .eql (.tmp 14) (.const (.int .u64 1)), none⟩]) (.kill [14, 13])) (.cond (.tmp 15) (.seq (.kill [15]) (.seq (.seq (.reg [⟨some 17, .mov (.tmp 7), none⟩, ⟨some 18, .mov (.tmp 0), none⟩, ⟨some 19, .call (.func n_poly_Mul) [.tmp 17, .tmp 18], none⟩, ⟨some 20, .mov (.tmp 2), none⟩, ⟨some 21, .call (.func n_poly_DivMod) [.tmp 19, .tmp 20], none⟩, ⟨some 16, .mov (.tmp 21), none⟩, ⟨some 22, .ext (.tmp 16) 0, none⟩, ⟨some 23, .ext (.tmp 16) 1, none⟩, ⟨some 7, .mov (.tmp 23), none⟩]) (.kill [23, 22, 16, 21, 20, 19, 18, 17])) (.shut 7))) (.seq (.kill [15]) .skip))) (.seq (.reg [⟨some 25, .mov (.tmp 0), none⟩, ⟨some 26, .mov (.tmp 0), none⟩, ⟨some 27, .call (.func n_poly_Mul) [.tmp 25, .tmp 26], none⟩, ⟨some 28, .mov (.tmp 2), none⟩, ⟨some 29, .call (.func n_poly_DivMod) [.tmp 27, .tmp 28], none⟩, ⟨some 24, .mov (.tmp 29), none⟩, ⟨some 30, .ext (.tmp 24) 0, none⟩, ⟨some 31, .ext (.tmp 24) 1, none⟩, ⟨some 0, .mov (.tmp 31), none⟩]) (.kill [31, 30, 24, 29, 28, 27, 26, 25])))) (.seq (.reg [⟨some 11, .mov (.tmp 1), none⟩, ⟨some 12, .bin .shr (.tmp 11) (.const (.int .u64 1)), none⟩, ⟨some 1, .mov (.tmp 12), none⟩]) (.kill [12, 11])))))) (.seq (.seq (.seq (.reg [⟨some 32, .mov (.tmp 7), none⟩, ⟨some 6, .mov (.tmp 32), none⟩]) (.kill [7, 32])) (.own 6 none 1)) .ret)))⟩
theorem h_poly_power_ok : compFunH Go.Proofs.Tryz.prog n_poly_power [(6, none, 1), (7, none, 0)] = some h_poly_power := by kernel_rfl
def h_poly_Roots_1 : HFun := ⟨61, [],
  .seq (.seq (.seq (.reg [⟨some 10, .mov (.tmp 0), none⟩, ⟨some 11, .lenL (.tmp 10), none⟩]) (.kill [10])) (.block 0 (.seq (.seq (.seq (.reg [⟨some 13, .bin .eql (.tmp 11) (.const (.int .i64 0)), none⟩, ⟨some 12, .mov (.tmp 13), none⟩]) (.kill [13])) (.cond (.tmp 12) .skip (.seq (.kill [12]) (.seq (.reg [⟨some 14, .bin .eql (.tmp 11) (.const (.int .i64 1)), none⟩, ⟨some 12, .mov (.tmp 14), none⟩]) (.kill [14]))))) (.cond (.tmp 12) (.seq (.kill [11, 1, 3, 2, 0, 12]) .ret) (.seq (.kill [12]) (.seq (.seq (.reg [⟨some 16, .bin .eql (.tmp 11) (.const (.int .i64 2)), none⟩, ⟨some 15, .mov (.tmp 16), none⟩]) (.kill [11, 16])) (.cond (.tmp 15) (.seq (.kill [1, 3, 15]) (.seq (.seq (.regd (.q ⟨some 17, .ld none (.tmp 2), none⟩ (.q ⟨some 18, .mov (.tmp 0), none⟩ (.q ⟨some 19, .iad (.tmp 18) (.const (.int .i64 0)) 1, none⟩ (.q ⟨some 20, .ld none (.tmp 19), none⟩ (.alt ⟨some 21, .call (.func n_field_Neg) [.tmp 20], none⟩ [⟨some 17, .ld none (.tmp 2), none⟩] (.alt ⟨some 22, .bsl 1 [.int .u64 0] [(0, (1, .tmp 21))] 1, none⟩ [⟨some 17, .ld none (.tmp 2), none⟩] (.alt ⟨some 23, .app (.tmp 17) (.tmp 22) 1 8, none⟩ [] (.alt ⟨none, .st 1 (.tmp 2) (.tmp 23), none⟩ [] (.done false) .no) .no) .no) .no)))))) (.kill [2, 0, 23, 22, 21, 20, 19, 18, 17])) .ret)) (.seq (.kill [2, 15]) .skip)))))))) (.seq (.seq (.reg [⟨some 24, .mov (.tmp 1), none⟩, ⟨some 6, .mov (.tmp 24), none⟩]) (.kill [1, 24])) (.block 1 (.loop [] (.seq (.block 2 (.seq (.seq (.reg [⟨some 27, .mov (.tmp 0), none⟩, ⟨some 28, .mov (.tmp 6), none⟩, ⟨some 29, .bsl 1 [.int .u64 0, .int .u64 0] [(0, (1, .tmp 28)), (1, (1, .const (.int .u64 1)))] 2, none⟩, ⟨some 30, .mov (.tmp 0), none⟩, ⟨some 31, .call (.func n_poly_power) [.tmp 29, .const (.int .u64 1152921504606846975), .tmp 30], none⟩, ⟨some 32, .bsl 1 [.int .u64 0] [(0, (1, .const (.int .u64 2305843009213693950)))] 1, none⟩, ⟨some 33, .call (.func n_poly_Add) [.tmp 31, .tmp 32], none⟩, ⟨some 34, .call (.func n_poly_Gcd) [.tmp 27, .tmp 33], none⟩, ⟨some 7, .mov (.tmp 34), none⟩]) (.kill [34, 33, 32, 31, 30, 29, 28, 27])) (.seq (.seq (.reg [⟨some 35, .mov (.tmp 7), none⟩, ⟨some 36, .lenL (.tmp 35), none⟩, ⟨some 37, .bin .gtr (.tmp 36) (.const (.int .i64 1)), none⟩, ⟨some 38, .mov (.tmp 37), none⟩, ⟨some 39, .mov (.tmp 7), some (38, true)⟩, ⟨some 40, .lenL (.tmp 39), some (38, true)⟩, ⟨some 41, .mov (.tmp 0), some (38, true)⟩, ⟨some 42, .lenL (.tmp 41), some (38, true)⟩, ⟨some 43, .bin .lss (.tmp 40) (.tmp 42), some (38, true)⟩, ⟨some 44, .pick (.tmp 38) (.tmp 43) (.const (.bool false)), none⟩]) (.kill [43, 42, 41, 40, 39, 38, 37, 36, 35])) (.cond (.tmp 44) (.seq (.kill [44]) (.seq (.seq (.reg [⟨some 46, .mov (.tmp 0), none⟩, ⟨some 47, .mov (.tmp 7), none⟩, ⟨some 48, .call (.func n_poly_DivMod) [.tmp 46, .tmp 47], none⟩, ⟨some 45, .mov (.tmp 48), none⟩, ⟨some 49, .ext (.tmp 45) 0, none⟩, ⟨some 50, .ext (.tmp 45) 1, none⟩, ⟨some 8, .mov (.tmp 49), none⟩, ⟨some 9, .mov (.tmp 50), none⟩]) (.kill [0, 9, 50, 49, 45, 48, 47, 46])) (.seq (.seq (.reg [⟨some 51, .ld none (.tmp 3), none⟩, ⟨some 52, .mov (.tmp 7), none⟩, ⟨some 53, .mov (.tmp 6), none⟩, ⟨some 54, .bin .add (.tmp 53) (.const (.int .u64 1)), none⟩, ⟨some 55, .call (.tmp 51) [.tmp 52, .tmp 54], none⟩]) (.kill [7, 55, 54, 53, 52, 51])) (.seq (.seq (.reg [⟨some 56, .ld none (.tmp 3), none⟩, ⟨some 57, .mov (.tmp 8), none⟩, ⟨some 58, .mov (.tmp 6), none⟩, ⟨some 59, .bin .add (.tmp 58) (.const (.int .u64 1)), none⟩, ⟨some 60, .call (.tmp 56) [.tmp 57, .tmp 59], none⟩]) (.kill [3, 8, 6, 60, 59, 58, 57, 56])) .ret)))) (.seq (.kill [7, 44]) .skip))))) (.seq (.reg [⟨some 25, .mov (.tmp 6), none⟩, ⟨some 26, .bin .add (.tmp 25) (.const (.int .u64 1)), none⟩, ⟨some 6, .mov (.tmp 26), none⟩]) (.kill [26, 25]))))))⟩
theorem h_poly_Roots_1_ok : compFunH Go.Proofs.Tryz.prog n_poly_Roots_1 [] = some h_poly_Roots_1 := by kernel_rfl
def h_poly_Add_1 : HFun := ⟨18, [(5, none)],
  .seq (.seq (.reg [⟨some 5, .mov (.const (.int .u64 0)), none⟩]) (.kill [5])) (.seq (.seq (.seq (.reg [⟨some 6, .mov (.tmp 0), none⟩, ⟨some 7, .ld none (.tmp 2), none⟩, ⟨some 8, .lenL (.tmp 7), none⟩, ⟨some 9, .bin .lss (.tmp 6) (.tmp 8), none⟩]) (.kill [8, 7, 6])) (.cond (.tmp 9) (.seq (.kill [9]) (.seq (.seq (.reg [⟨some 10, .mov (.tmp 1), none⟩, ⟨some 11, .ld none (.tmp 2), none⟩, ⟨some 12, .mov (.tmp 0), none⟩, ⟨some 13, .iad (.tmp 11) (.tmp 12) 1, none⟩, ⟨some 14, .ld none (.tmp 13), none⟩, ⟨some 15, .call (.func n_field_Add) [.tmp 10, .tmp 14], none⟩, ⟨some 5, .mov (.tmp 15), none⟩]) (.kill [1, 2, 0, 15, 14, 13, 12, 11, 10])) .ret)) (.seq (.kill [2, 0, 9]) .skip))) (.seq (.seq (.reg [⟨some 16, .mov (.tmp 1), none⟩, ⟨some 17, .call (.func n_field_Num) [.tmp 16], none⟩, ⟨some 5, .mov (.tmp 17), none⟩]) (.kill [1, 17, 16])) .ret))⟩
theorem h_poly_Add_1_ok : compFunH Go.Proofs.Tryz.prog n_poly_Add_1 [] = some h_poly_Add_1 := by kernel_rfl
def h_poly_Mul : HFun := ⟨62, [(4, none)],
  .seq (.seq (.reg [⟨some 4, .mov (.const (.slice none 0 0)), none⟩]) (.kill [4])) (.seq (.seq (.reg [⟨some 10, .mov (.tmp 0), none⟩, ⟨some 11, .call (.func n_poly_Trim) [.tmp 10], none⟩, ⟨some 12, .mov (.tmp 1), none⟩, ⟨some 13, .call (.func n_poly_Trim) [.tmp 12], none⟩, ⟨some 0, .mov (.tmp 11), none⟩, ⟨some 1, .mov (.tmp 13), none⟩]) (.kill [13, 12, 11, 10])) (.seq (.seq (.seq (.reg [⟨some 14, .mov (.tmp 0), none⟩, ⟨some 15, .lenL (.tmp 14), none⟩, ⟨some 16, .bin .eql (.tmp 15) (.const (.int .i64 0)), none⟩, ⟨some 17, .mov (.tmp 16), none⟩, ⟨some 18, .mov (.tmp 1), some (17, false)⟩, ⟨some 19, .lenL (.tmp 18), some (17, false)⟩, ⟨some 20, .bin .eql (.tmp 19) (.const (.int .i64 0)), some (17, false)⟩, ⟨some 21, .pick (.tmp 17) (.const (.bool true)) (.tmp 20), none⟩]) (.kill [20, 19, 18, 17, 16, 15, 14])) (.cond (.tmp 21) (.seq (.kill [0, 1, 21]) (.seq (.seq (.reg [⟨some 4, .mov (.const (.slice none 0 0)), none⟩]) (.own 4 none 1)) .ret)) (.seq (.kill [21]) .skip))) (.seq (.seq (.reg [⟨some 22, .mov (.tmp 0), none⟩, ⟨some 23, .lenL (.tmp 22), none⟩, ⟨some 24, .mov (.tmp 1), none⟩, ⟨some 25, .lenL (.tmp 24), none⟩, ⟨some 26, .bin .add (.tmp 23) (.tmp 25), none⟩, ⟨some 27, .bin .sub (.tmp 26) (.const (.int .i64 1)), none⟩, ⟨some 28, .mks 1 [.int .u64 0] 8 (.tmp 27) (.tmp 27), none⟩, ⟨some 5, .mov (.tmp 28), none⟩]) (.kill [28, 27, 26, 25, 24, 23, 22])) (.seq (.seq (.seq (.reg [⟨some 29, .mov (.tmp 0), none⟩, ⟨some 30, .lenL (.tmp 29), none⟩, ⟨some 31, .mov (.const (.int .i64 0)), none⟩]) (.kill [0])) (.block 0 (.loop [] (.seq (.reg [⟨some 32, .bin .lss (.tmp 31) (.tmp 30), none⟩]) (.seq (.cond (.tmp 32) (.seq (.kill [32]) .skip) (.seq (.kill [31, 29, 30, 1, 32]) (.exit 0))) (.seq (.block 1 (.seq (.seq (.reg [⟨some 33, .mov (.tmp 31), none⟩, ⟨some 34, .iad (.tmp 29) (.tmp 31) 1, none⟩, ⟨some 35, .ld none (.tmp 34), none⟩, ⟨some 6, .mov (.tmp 33), none⟩, ⟨some 7, .mov (.tmp 35), none⟩]) (.kill [35, 34, 33])) (.seq (.reg [⟨some 36, .mov (.tmp 1), none⟩, ⟨some 37, .lenL (.tmp 36), none⟩, ⟨some 38, .mov (.const (.int .i64 0)), none⟩]) (.block 2 (.loop [] (.seq (.reg [⟨some 39, .bin .lss (.tmp 38) (.tmp 37), none⟩]) (.seq (.cond (.tmp 39) (.seq (.kill [39]) .skip) (.seq (.kill [38, 36, 37, 7, 6, 39]) (.exit 2))) (.seq (.block 3 (.seq (.seq (.reg [⟨some 40, .mov (.tmp 38), none⟩, ⟨some 41, .iad (.tmp 36) (.tmp 38) 1, none⟩, ⟨some 42, .ld none (.tmp 41), none⟩, ⟨some 8, .mov (.tmp 40), none⟩, ⟨some 9, .mov (.tmp 42), none⟩]) (.kill [42, 41, 40])) (.seq (.regd (.q ⟨some 43, .mov (.tmp 5), none⟩ (.q ⟨some 44, .mov (.tmp 6), none⟩ (.q ⟨some 45, .mov (.tmp 8), none⟩ (.q ⟨some 46, .bin .add (.tmp 44) (.tmp 45), none⟩ (.q ⟨some 47, .mov (.tmp 5), none⟩ (.q ⟨some 48, .mov (.tmp 6), none⟩ (.q ⟨some 49, .mov (.tmp 8), none⟩ (.q ⟨some 50, .bin .add (.tmp 48) (.tmp 49), none⟩ (.q ⟨some 51, .iad (.tmp 47) (.tmp 50) 1, none⟩ (.q ⟨some 52, .ld none (.tmp 51), none⟩ (.q ⟨some 53, .mov (.tmp 7), none⟩ (.q ⟨some 54, .mov (.tmp 9), none⟩ (.alt ⟨some 55, .call (.func n_field_Mul) [.tmp 53, .tmp 54], none⟩ [⟨some 52, .ld none (.tmp 51), none⟩, ⟨some 51, .iad (.tmp 47) (.tmp 50) 1, none⟩, ⟨some 50, .bin .add (.tmp 48) (.tmp 49), none⟩, ⟨some 49, .mov (.tmp 8), none⟩, ⟨some 48, .mov (.tmp 6), none⟩, ⟨some 47, .mov (.tmp 5), none⟩, ⟨some 46, .bin .add (.tmp 44) (.tmp 45), none⟩, ⟨some 45, .mov (.tmp 8), none⟩, ⟨some 44, .mov (.tmp 6), none⟩, ⟨some 43, .mov (.tmp 5), none⟩] (.alt ⟨some 56, .call (.func n_field_Add) [.tmp 52, .tmp 55], none⟩ [⟨some 46, .bin .add (.tmp 44) (.tmp 45), none⟩, ⟨some 45, .mov (.tmp 8), none⟩, ⟨some 44, .mov (.tmp 6), none⟩, ⟨some 43, .mov (.tmp 5), none⟩] (.q ⟨some 57, .iad (.tmp 43) (.tmp 46) 1, none⟩ (.alt ⟨none, .st 1 (.tmp 57) (.tmp 56), none⟩ [] (.done false) .no)) .no) .no)))))))))))))) (.kill [8, 9, 57, 56, 55, 54, 53, 52, 51, 50, 49, 48, 47, 46, 45, 44, 43])))) (.seq (.reg [⟨some 58, .bin .add (.tmp 38) (.const (.int .i64 1)), none⟩, ⟨some 38, .mov (.tmp 58), none⟩]) (.kill [58])))))))))) (.seq (.reg [⟨some 59, .bin .add (.tmp 31) (.const (.int .i64 1)), none⟩, ⟨some 31, .mov (.tmp 59), none⟩]) (.kill [59])))))))) (.seq (.seq (.seq (.reg [⟨some 60, .mov (.tmp 5), none⟩, ⟨some 61, .call (.func n_poly_trim) [.tmp 60], none⟩, ⟨some 4, .mov (.tmp 61), none⟩]) (.kill [5, 61, 60])) (.own 4 none 1)) .ret)))))⟩
theorem h_poly_Mul_ok : compFunH Go.Proofs.Tryz.prog n_poly_Mul [(4, none, 1)] = some h_poly_Mul := by kernel_rfl
end Hud
end
section
namespace Hud
open Go
abbrev fl (l : List Fq) : List (List AV) := l.map fun c => [.v (fu c)]
def eachL (F : Nat → Fq → Fq) (l : List Fq) (i : Nat) : List Fq := l.mapIdx fun j x => if j < i then F j x else 0
theorem eachL_0 (F : Nat → Fq → Fq) (l : List Fq) : eachL F l 0 = List.replicate l.length 0 := by
  apply List.ext_getElem? fun j => ?_
  simp only [eachL, List.getElem?_mapIdx, List.getElem?_replicate]
  by_cases h : j < l.length
  · rw [if_pos h, List.getElem?_eq_getElem h]; rfl
  · rw [if_neg h, List.getElem?_eq_none (by omega)]; rfl
theorem eachL_n (F : Nat → Fq → Fq) (l : List Fq) : eachL F l l.length = l.mapIdx F := by
  apply List.ext_getElem? fun j => ?_
  simp only [eachL, List.getElem?_mapIdx]
  by_cases h : j < l.length
  · rw [List.getElem?_eq_getElem h]; simp [h]
  · rw [List.getElem?_eq_none (by omega)]; rfl
theorem eachL_len (F : Nat → Fq → Fq) (l : List Fq) (i : Nat) : (eachL F l i).length = l.length := by simp [eachL]
theorem eachL_get (F : Nat → Fq → Fq) (l : List Fq) (i : Nat) (h : i < l.length) : (fl (eachL F l i))[i]? = some [.v (fu 0)] := by
  simp [fl, eachL, h]
theorem eachL_set (F : Nat → Fq → Fq) (l : List Fq) (i : Nat) (h : i < l.length) : (fl (eachL F l i)).set i [.v (fu (F i l[i]))] = fl (eachL F l (i + 1)) := by
  have : (eachL F l i).set i (F i l[i]) = eachL F l (i + 1) := by
    apply List.ext_getElem? fun j => ?_
    rw [List.getElem?_set]
    simp only [eachL, List.getElem?_mapIdx, List.length_mapIdx]
    by_cases e : i = j
    · subst e; simp [h]
    · rw [if_neg e]
      by_cases h2 : j < i
      · simp [h2, Nat.lt_succ_of_lt h2]
      · have : ¬ j < i + 1 := by omega
        simp [h2, this]
  rw [← this]
  simp only [fl, List.map_set]
theorem fu_t {c : Fq} (h : (((c.val : Nat) : Int) == 0) = true) : c = 0 := Fin.ext (by simp at h; simp [h])
theorem fu_f {c : Fq} (h : (((c.val : Nat) : Int) == 0) = false) : c ≠ 0 := fun e => by subst e; simp at h
theorem fl_get (l : List Fq) (i : Nat) (h : i < l.length) : (fl l)[i]? = some [.v (fu l[i])] := by simp [fl, h]
theorem fl_set (l : List Fq) (i : Nat) (c : Fq) : (fl l).set i [.v (fu c)] = fl (l.set i c) := by simp only [fl, List.map_set]
theorem fl_rep (n : Nat) : List.replicate n [AV.v (.int .u64 0)] = fl (List.replicate n 0) := by simp only [fl, List.map_replicate]; rfl
section
variable {G : Nat → Option (List AV)}
theorem f_each0 (f : FuncId) (F : Nat → Fq → Fq) (l : List Fq) (hl : l.length ≤ 1000000000) (hf : ∀ i x, i < l.length → CallOk Go.Proofs.Tryz.prog G f [.v (.int .i64 ((i : Nat) : Int)), .v (fu x)] [] fun r T' => r = .v (fu (F i x)) ∧ T' = []) :
    CallOk Go.Proofs.Tryz.prog G n_poly_each_uint64_uint64 [.ls 1 (fl l), .cl f []] [] fun r T' => r = .own 0 ∧ T' = [some (.arr 1 (fl (l.mapIdx F)))] := by
  refine fun_okH h_poly_each_uint64_uint64_ok (by decide) ?_
  unfold h_poly_each_uint64_uint64
  simp only [go_sem, ↓reduceIte, List.length_map, fl_rep, Int.le_refl, show (l.length : Int) * 8 ≤ 140737488355328 by omega, show (l.length : Int) ≤ (maxLen : Int) by unfold maxLen; omega]
  refine loop_up l.length (fun i => ⟨0, [(1, .cl f []), (5, .own 0), (11, .ls 1 (fl l)), (12, .v (.int .i64 l.length)), (13, .v (.int .i64 i))], [some (.arr 1 (fl (eachL F l i)))]⟩) (fun _ => True) ?_ trivial ?_ ?_
  · simp only [go_sem, ↓reduceIte, eachL_0]
  · intro i hi _
    have g1 := fl_get l i hi
    have g2 := eachL_get F l i hi
    have g3 := eachL_set F l i hi
    simp only [go_sem, ↓reduceIte, List.length_map, dlt_t hi, g1]
    refine call_pure (subL_refl _) rfl (hf i l[i] hi) rfl ?_
    simp only [go_sem, ↓reduceIte, List.length_map, eachL_len, hi, g2, g3, wrap_suc (show i < 9223372036854775807 by omega)]
  · intro _
    simp only [go_sem, ↓reduceIte, List.length_map, dlt_f (Nat.lt_irrefl _), eachL_n]
theorem f_each1 (f : FuncId) (c : AV) (ho : idsA c = []) (F : Nat → Fq → Fq) (l : List Fq) (hl : l.length ≤ 1000000000) (hf : ∀ i x, i < l.length → CallOk Go.Proofs.Tryz.prog G f [.v (.int .i64 ((i : Nat) : Int)), .v (fu x), .ptr 0 0] [some (.box [c])] fun r T' => r = .v (fu (F i x)) ∧ T' = [some (.box [c])]) :
    CallOk Go.Proofs.Tryz.prog G n_poly_each_uint64_uint64 [.ls 1 (fl l), .cl f [.ptr 0 0]] [some (.box [c])] fun r T' => r = .own 1 ∧ T' = [some (.box [c]), some (.arr 1 (fl (l.mapIdx F)))] := by
  refine fun_okH h_poly_each_uint64_uint64_ok (by decide) ?_
  have hr := fun L => rn_no (L := L) ho
  have hb := fun L n => bk_no (L := L) (n := n) ho
  unfold h_poly_each_uint64_uint64
  simp only [go_sem, ↓reduceIte, List.length_map, fl_rep, Int.le_refl, show (l.length : Int) * 8 ≤ 140737488355328 by omega, show (l.length : Int) ≤ (maxLen : Int) by unfold maxLen; omega]
  refine loop_up l.length (fun i => ⟨1, [(1, .cl f [.ptr 0 0]), (5, .own 1), (11, .ls 1 (fl l)), (12, .v (.int .i64 l.length)), (13, .v (.int .i64 i))], [some (.box [c]), some (.arr 1 (fl (eachL F l i)))]⟩) (fun _ => True) ?_ trivial ?_ ?_
  · simp only [go_sem, ↓reduceIte, eachL_0, ho, hr]
  · intro i hi _
    have g1 := fl_get l i hi
    have g2 := eachL_get F l i hi
    have g3 := eachL_set F l i hi
    simp only [go_sem, ↓reduceIte, List.length_map, dlt_t hi, g1]
    refine call_at [0] (subL_refl _) (by decide) (by simp) rfl (by simp only [go_sem, ↓reduceIte, hr]) (hf i l[i] hi) ?_
    rintro r T' ⟨rfl, rfl⟩
    simp only [go_sem, ↓reduceIte, List.length_map, eachL_len, hi, g2, g3, wrap_suc (show i < 9223372036854775807 by omega), ho, hr, hb]
  · intro _
    simp only [go_sem, ↓reduceIte, List.length_map, dlt_f (Nat.lt_irrefl _), eachL_n, ho, hr]
def vw0 (n N : Nat) : AV := if n = N then .own 0 else .vw 0 1 0 n
theorem f_trimV (l : List Fq) (n : Nat) (hn : n ≤ l.length) (hl : l.length ≤ 1000000000) :
    CallOk Go.Proofs.Tryz.prog G n_poly_trim [vw0 n l.length] [some (.arr 1 (fl l))] fun r T' => r = vw0 (trimL (l.take n)).length l.length ∧ T' = [some (.arr 1 (fl l))] := by
  refine fun_okH h_poly_trim_ok (by decide) ?_
  unfold h_poly_trim
  simp only [go_sem, ↓reduceIte]
  refine loop_i (fun m s => m ≤ n ∧ trimL (l.take m) = trimL (l.take n) ∧ s = ⟨1, [(0, vw0 m l.length)], [some (.arr 1 (fl l))]⟩) n ⟨Nat.le_refl _, rfl, by simp only [vw0]; split <;> simp only [go_sem, ↓reduceIte]⟩ ?_
  rintro m s ⟨hm, ht, rfl⟩
  cases m with
  | zero =>
    have e : trimL (l.take n) = [] := by rw [← ht]; rfl
    simp only [vw0]
    split
    · rename_i h0
      simp only [go_sem, ↓reduceIte, List.length_map, ← h0, e]
      simp [vw0]
    · simp only [go_sem, ↓reduceIte, List.length_map, e]
      simp [vw0, *]
  | succ m =>
    have hm' : m < l.length := by omega
    have g1 := fl_get l m hm'
    have ht2 : trimL (l.take (m + 1)) = if l[m] = 0 then trimL (l.take m) else l.take (m + 1) := by
      rw [List.take_succ_eq_append_getElem hm', trimL_snoc]
    have hw := wrap_pred (show m < 9223372036854775807 by omega)
    have hmn : m ≠ l.length := by omega
    simp only [vw0]
    split
    · rename_i h0
      simp only [go_sem, ↓reduceIte, List.length_map, ← h0, hw, g1, Nat.lt_add_one]
      refine condW_i (fun h => ?_) (fun h => ?_)
      · have h0' := fu_t h
        rw [if_pos h0'] at ht2
        simp only [go_sem, ↓reduceIte, List.length_map, ← h0, hw, Nat.zero_le, Nat.sub_zero, Nat.le_add_right]
        refine ⟨m, by omega, by omega, by rw [← ht2, ht], ?_⟩
        simp only [vw0, if_neg hmn, if_neg (show m ≠ m + 1 by omega)]
      · have h0' := fu_f h
        rw [if_neg h0'] at ht2
        have e : (trimL (l.take n)).length = m + 1 := by rw [← ht, ht2, List.length_take]; omega
        simp only [go_sem, ↓reduceIte, vw0, e, h0]
    · rename_i h0
      simp only [go_sem, ↓reduceIte, List.length_map, hw, g1, Nat.lt_add_one]
      refine condW_i (fun h => ?_) (fun h => ?_)
      · have h0' := fu_t h
        rw [if_pos h0'] at ht2
        simp only [go_sem, ↓reduceIte, List.length_map, hw, Nat.zero_le, Nat.sub_zero, Nat.le_add_right]
        refine ⟨m, by omega, by omega, by rw [← ht2, ht], ?_⟩
        simp only [vw0, if_neg hmn, if_neg (show m ≠ m + 1 by omega)]
      · have h0' := fu_f h
        rw [if_neg h0'] at ht2
        have e : (trimL (l.take n)).length = m + 1 := by rw [← ht, ht2, List.length_take]; omega
        simp only [go_sem, ↓reduceIte, vw0, e, h0]
theorem f_trim (l : List Fq) (hl : l.length ≤ 1000000000) :
    CallOk Go.Proofs.Tryz.prog G n_poly_trim [.own 0] [some (.arr 1 (fl l))] fun r T' => r = vw0 (trimL l).length l.length ∧ T' = [some (.arr 1 (fl l))] := by
  have := f_trimV (G := G) l l.length (Nat.le_refl _) hl
  rwa [vw0, if_pos rfl, List.take_length] at this
theorem f_Trim_1 (i : Nat) (x : Fq) : CallOk Go.Proofs.Tryz.prog G n_poly_Trim_1 [.v (.int .i64 ((i : Nat) : Int)), .v (fu x)] [] fun r T' => r = .v (fu x) ∧ T' = [] := by
  refine fun_okH h_poly_Trim_1_ok (by decide) ?_
  unfold h_poly_Trim_1
  simp only [go_sem, ↓reduceIte]
  refine call_pure (subL_refl _) rfl (f_Num x) rfl ?_
  simp only [go_sem, ↓reduceIte]
theorem mapIdx_id (l : List Fq) : l.mapIdx (fun _ x => x) = l := by
  apply List.ext_getElem? fun j => ?_
  simp
theorem fl_trim (l : List Fq) : (fl l).take (trimL l).length = fl (trimL l) := by
  obtain ⟨k, hk⟩ := trimL_prefix l
  have : fl l = fl (trimL l) ++ fl (List.replicate k 0) := by rw [← List.map_append, ← hk]
  rw [this, List.take_left' (by simp)]
theorem f_Trim (l : List Fq) (hl : l.length ≤ 1000000000) :
    CallOk Go.Proofs.Tryz.prog G n_poly_Trim [.ls 1 (fl l)] [] fun r T' => r = vw0 (trimL l).length l.length ∧ T' = [some (.arr 1 (fl l))] := by
  refine fun_okH h_poly_Trim_ok (by decide) ?_
  unfold h_poly_Trim
  simp only [go_sem, ↓reduceIte]
  refine call_new (subL_refl _) rfl (f_each0 n_poly_Trim_1 (fun _ x => x) l hl fun i x _ => f_Trim_1 i x) ?_
  simp only [go_sem, ↓reduceIte, mapIdx_id]
  refine call_at [0] (subL_refl _) (by decide) (by simp) rfl rfl (f_trim l hl) ?_
  rintro r T' ⟨rfl, rfl⟩
  simp only [go_sem, ↓reduceIte, vw0]
  split <;> simp only [go_sem, ↓reduceIte]
theorem fin_vw0 {f : FuncId} {args : List AV} {l : List Fq} (hc : CallOk Go.Proofs.Tryz.prog G f args [] fun r T' => r = vw0 (trimL l).length l.length ∧ T' = [some (.arr 1 (fl l))]) : CallOk Go.Proofs.Tryz.prog G f args [] fun r T' => r = .ls 1 (fl (trimL l)) ∧ T' = [] := by
  refine hc.fin [0] ?_
  rintro r T' ⟨rfl, rfl⟩
  have h1 := fl_trim l
  have h2 := trimL_len l
  simp only [vw0]
  split
  · rename_i h
    rw [h, List.take_of_length_le (by simp)] at h1
    simp only [go_sem, ↓reduceIte, h1]
  · simp only [go_sem, ↓reduceIte, Nat.zero_add, List.length_map, h2, h1]
theorem f_TrimS (l : List Fq) (hl : l.length ≤ 1000000000) : CallOk Go.Proofs.Tryz.prog G n_poly_Trim [.ls 1 (fl l)] [] fun r T' => r = .ls 1 (fl (trimL l)) ∧ T' = [] := fin_vw0 (f_Trim l hl)
end
end Hud
end
