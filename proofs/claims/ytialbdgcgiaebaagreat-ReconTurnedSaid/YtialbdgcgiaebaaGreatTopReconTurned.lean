/- ReconTurned holds: whatever the input, the law returns true, and each argument reads behind the call as it read before. -/
import Derived.Test.YtialbdgcgiaebaaGreatLib22
import Derived.Test.YtialbdgcgiaebaaGreatRows
set_option linter.all false
section
namespace Go.Proofs.YtialbdgcgiaebaaGreat
open Go Go.RowKit Go.WideShapes Go.ChangeShapes Go.ChangeAt Hud
theorem Tryz.own : ownKnob Tryz.prog.godebug = none := by kernel_rfl
theorem Tryz.laidOut : laidOutB Tryz.prog = true := by kernel_rfl
set_option maxRecDepth 100000 in
theorem ints_in {base : Nat} {H : Type} {enc : TypeId × Value → H} {W : World} {spare : Nat → Bool} {held : Bool} {v : Value} {d : DataW H} {ps : List MemPlace} (hv : Value.okWide Tryz.prog W .any base 22 v) (hd : DataW.Trod enc Tryz.prog W 0 spare held 22 v d ps) :
    ∃ l : List Int, inI l ∧ Rp (allG W) (fun _ => undef) 0 (ints l) v := by
  obtain ⟨A, l0, c0, rfl⟩ := okWide_slice Tryz.underlying22 hv
  have s0 := slice_in (φ := fun _ => undef) (ks := [.int .i64]) (n := 1) Tryz.underlying22 (by kernel_rfl) (by kernel_rfl) (by decide) hd
  obtain ⟨es, he, hlen, hr0⟩ := s0
  obtain ⟨l, hl, ho⟩ := ints_of he
  have hll : es.length = l.length := by simpa using congrArg List.length hl
  rw [hl] at hr0
  exact ⟨l, ⟨ho, by omega⟩, hr0⟩
end Go.Proofs.YtialbdgcgiaebaaGreat
end
section
namespace Hud
open Go
def h_l30_ReconTurned : HFun := ⟨128, [(6, none)],
  .seq (.seq (.reg [⟨some 6, .mov (.const (.bool false)), none⟩]) (.kill [6])) (.seq (.seq (.reg [⟨some 21, .mov (.tmp 0), none⟩, ⟨some 22, .call (.func n_r30_Names) [.tmp 21, .const (.int .i64 14)], none⟩, ⟨some 7, .mov (.tmp 22), none⟩]) (.kill [0, 22, 21])) (.seq (.seq (.reg [⟨some 23, .mov (.tmp 1), none⟩, ⟨some 24, .call (.func n_r30_Names) [.tmp 23, .const (.int .i64 14)], none⟩, ⟨some 8, .mov (.tmp 24), none⟩]) (.kill [1, 24, 23])) (.seq (.seq (.reg [⟨some 25, .mov (.tmp 2), none⟩, ⟨some 26, .mov (.tmp 7), none⟩, ⟨some 27, .lenL (.tmp 26), none⟩, ⟨some 28, .bin .add (.tmp 27) (.const (.int .i64 1)), none⟩, ⟨some 29, .call (.func n_r01_Around) [.tmp 25, .tmp 28], none⟩, ⟨some 9, .mov (.tmp 29), none⟩]) (.kill [2, 29, 28, 27, 26, 25])) (.seq (.seq (.seq (.regd (.q ⟨some 31, .mov (.tmp 7), none⟩ (.q ⟨some 32, .mov (.tmp 9), none⟩ (.q ⟨some 33, .slc (.tmp 31) (some (.tmp 32)) none 3, none⟩ (.q ⟨some 35, .mov (.tmp 7), none⟩ (.q ⟨some 36, .mov (.tmp 9), none⟩ (.q ⟨some 37, .slc (.tmp 35) none (some (.tmp 36)) 3, none⟩ (.alt ⟨some 30, .bsl 3 [] [] 0, none⟩ [⟨some 37, .slc (.tmp 35) none (some (.tmp 36)) 3, none⟩, ⟨some 36, .mov (.tmp 9), none⟩, ⟨some 35, .mov (.tmp 7), none⟩, ⟨some 33, .slc (.tmp 31) (some (.tmp 32)) none 3, none⟩, ⟨some 32, .mov (.tmp 9), none⟩, ⟨some 31, .mov (.tmp 7), none⟩] (.alt ⟨some 34, .app (.tmp 30) (.tmp 33) 3 24, none⟩ [⟨some 37, .slc (.tmp 35) none (some (.tmp 36)) 3, none⟩, ⟨some 36, .mov (.tmp 9), none⟩, ⟨some 35, .mov (.tmp 7), none⟩] (.alt ⟨some 38, .app (.tmp 34) (.tmp 37) 3 24, none⟩ [] (.q ⟨some 10, .mov (.tmp 38), none⟩ (.done false)) .no) .no) .no)))))))) (.kill [9, 38, 37, 36, 35, 34, 33, 32, 31, 30])) (.shut 10)) (.seq (.seq (.reg [⟨some 40, .mov (.tmp 7), none⟩, ⟨some 41, .mov (.tmp 8), none⟩, ⟨some 42, .call (.func n_recon_Diff) [.tmp 40, .tmp 41], none⟩, ⟨some 39, .mov (.tmp 42), none⟩, ⟨some 43, .ext (.tmp 39) 0, none⟩, ⟨some 44, .ext (.tmp 39) 1, none⟩, ⟨some 45, .ext (.tmp 39) 2, none⟩, ⟨some 11, .mov (.tmp 43), none⟩, ⟨some 12, .mov (.tmp 44), none⟩, ⟨some 13, .mov (.tmp 45), none⟩]) (.kill [45, 44, 43, 39, 42, 41, 40])) (.seq (.seq (.reg [⟨some 47, .mov (.tmp 8), none⟩, ⟨some 48, .mov (.tmp 10), none⟩, ⟨some 49, .call (.func n_recon_Diff) [.tmp 47, .tmp 48], none⟩, ⟨some 46, .mov (.tmp 49), none⟩, ⟨some 50, .ext (.tmp 46) 0, none⟩, ⟨some 51, .ext (.tmp 46) 1, none⟩, ⟨some 52, .ext (.tmp 46) 2, none⟩, ⟨some 14, .mov (.tmp 50), none⟩, ⟨some 15, .mov (.tmp 51), none⟩, ⟨some 16, .mov (.tmp 52), none⟩]) (.kill [52, 51, 50, 46, 49, 48, 47])) (.seq (.seq (.reg [⟨some 54, .mov (.tmp 7), none⟩, ⟨some 55, .mov (.tmp 10), none⟩, ⟨some 56, .call (.func n_recon_Diff) [.tmp 54, .tmp 55], none⟩, ⟨some 53, .mov (.tmp 56), none⟩, ⟨some 57, .ext (.tmp 53) 0, none⟩, ⟨some 58, .ext (.tmp 53) 1, none⟩, ⟨some 59, .ext (.tmp 53) 2, none⟩, ⟨some 17, .mov (.tmp 57), none⟩, ⟨some 18, .mov (.tmp 58), none⟩, ⟨some 19, .mov (.tmp 59), none⟩]) (.kill [10, 59, 58, 57, 53, 56, 55, 54])) (.seq (.seq (.reg [⟨some 20, .mov (.const (.int .i64 0)), none⟩]) (.block 0 (.loop [] (.seq (.seq (.seq (.reg [⟨some 60, .mov (.tmp 20), none⟩, ⟨some 61, .mov (.tmp 11), none⟩, ⟨some 62, .lenL (.tmp 61), none⟩, ⟨some 63, .bin .lss (.tmp 60) (.tmp 62), none⟩]) (.kill [62, 61, 60])) (.cond (.tmp 63) (.seq (.kill [63]) .skip) (.seq (.kill [8, 20, 7, 63]) (.exit 0)))) (.seq (.block 1 (.seq (.seq (.regd (.q ⟨some 66, .mov (.tmp 8), none⟩ (.q ⟨some 67, .mov (.tmp 11), none⟩ (.q ⟨some 68, .mov (.tmp 20), none⟩ (.q ⟨some 69, .iad (.tmp 67) (.tmp 68) 3, none⟩ (.q ⟨some 70, .ld (some 3) (.tmp 69), none⟩ (.alt ⟨some 71, .call (.func n_r11_HasID) [.tmp 66, .tmp 70], none⟩ [] (.q ⟨some 72, .mov (.tmp 71), none⟩ (.q ⟨some 73, .mov (.tmp 7), some (72, false)⟩ (.q ⟨some 74, .mov (.tmp 11), some (72, false)⟩ (.q ⟨some 75, .mov (.tmp 20), some (72, false)⟩ (.q ⟨some 76, .iad (.tmp 74) (.tmp 75) 3, some (72, false)⟩ (.q ⟨some 77, .ld (some 3) (.tmp 76), some (72, false)⟩ (.alt ⟨some 78, .call (.func n_r11_HasID) [.tmp 73, .tmp 77], some (72, false)⟩ [] (.q ⟨some 79, .un .not (.tmp 78), some (72, false)⟩ (.q ⟨some 80, .pick (.tmp 72) (.const (.bool true)) (.tmp 79), none⟩ (.q ⟨some 81, .mov (.tmp 80), none⟩ (.q ⟨some 82, .mov (.tmp 20), some (81, false)⟩ (.q ⟨some 83, .bin .gtr (.tmp 82) (.const (.int .i64 0)), some (81, false)⟩ (.q ⟨some 84, .mov (.tmp 83), some (81, false)⟩ (.q ⟨some 85, .mov (.tmp 11), some (84, true)⟩ (.q ⟨some 86, .mov (.tmp 20), some (84, true)⟩ (.q ⟨some 87, .bin .sub (.tmp 86) (.const (.int .i64 1)), some (84, true)⟩ (.q ⟨some 88, .iad (.tmp 85) (.tmp 87) 3, some (84, true)⟩ (.q ⟨some 89, .ld (some 3) (.tmp 88), some (84, true)⟩ (.q ⟨some 90, .mov (.tmp 11), some (84, true)⟩ (.q ⟨some 91, .mov (.tmp 20), some (84, true)⟩ (.q ⟨some 92, .iad (.tmp 90) (.tmp 91) 3, some (84, true)⟩ (.q ⟨some 93, .ld (some 3) (.tmp 92), some (84, true)⟩ (.alt ⟨some 94, .call (.func n_op_Less) [.tmp 89, .tmp 93], some (84, true)⟩ [] (.q ⟨some 95, .un .not (.tmp 94), some (84, true)⟩ (.q ⟨some 96, .pick (.tmp 84) (.tmp 95) (.const (.bool false)), some (81, false)⟩ (.q ⟨some 97, .pick (.tmp 81) (.const (.bool true)) (.tmp 96), none⟩ (.done false)))) .no)))))))))))))))) .no))))))) .no))))))) (.kill [96, 95, 94, 93, 92, 91, 90, 89, 88, 87, 86, 85, 84, 83, 82, 81, 80, 79, 78, 77, 76, 75, 74, 73, 72, 71, 70, 69, 68, 67, 66])) (.cond (.tmp 97) (.seq (.kill [20, 7, 8, 19, 18, 17, 16, 13, 14, 12, 15, 11, 97]) (.seq (.reg [⟨some 6, .mov (.const (.bool false)), none⟩]) .ret)) (.seq (.kill [97]) .skip)))) (.seq (.reg [⟨some 64, .mov (.tmp 20), none⟩, ⟨some 65, .bin .add (.tmp 64) (.const (.int .i64 1)), none⟩, ⟨some 20, .mov (.tmp 65), none⟩]) (.kill [65, 64]))))))) (.seq (.seq (.reg [⟨some 98, .mov (.tmp 11), none⟩, ⟨some 99, .mov (.tmp 15), none⟩, ⟨some 100, .call (.func n_r11_SameIDs) [.tmp 98, .tmp 99], none⟩, ⟨some 101, .mov (.tmp 100), none⟩, ⟨some 102, .mov (.tmp 12), some (101, true)⟩, ⟨some 103, .mov (.tmp 14), some (101, true)⟩, ⟨some 104, .call (.func n_r11_SameIDs) [.tmp 102, .tmp 103], some (101, true)⟩, ⟨some 105, .pick (.tmp 101) (.tmp 104) (.const (.bool false)), none⟩, ⟨some 106, .mov (.tmp 105), none⟩, ⟨some 107, .mov (.tmp 13), some (106, true)⟩, ⟨some 108, .mov (.tmp 16), some (106, true)⟩, ⟨some 109, .bin .eql (.tmp 107) (.tmp 108), some (106, true)⟩, ⟨some 110, .pick (.tmp 106) (.tmp 109) (.const (.bool false)), none⟩, ⟨some 111, .mov (.tmp 110), none⟩, ⟨some 112, .mov (.tmp 17), some (111, true)⟩, ⟨some 113, .lenL (.tmp 112), some (111, true)⟩, ⟨some 114, .bin .eql (.tmp 113) (.const (.int .i64 0)), some (111, true)⟩, ⟨some 115, .pick (.tmp 111) (.tmp 114) (.const (.bool false)), none⟩, ⟨some 116, .mov (.tmp 115), none⟩, ⟨some 117, .mov (.tmp 18), some (116, true)⟩, ⟨some 118, .lenL (.tmp 117), some (116, true)⟩, ⟨some 119, .bin .eql (.tmp 118) (.const (.int .i64 0)), some (116, true)⟩, ⟨some 120, .pick (.tmp 116) (.tmp 119) (.const (.bool false)), none⟩, ⟨some 121, .mov (.tmp 120), none⟩, ⟨some 122, .mov (.tmp 19), some (121, true)⟩, ⟨some 123, .bin .eql (.tmp 122) (.const (.int .i64 4)), some (121, true)⟩, ⟨some 124, .pick (.tmp 121) (.tmp 123) (.const (.bool false)), none⟩, ⟨some 125, .mov (.tmp 124), none⟩, ⟨some 126, .call (.func n_l30_lives) [], some (125, true)⟩, ⟨some 127, .pick (.tmp 125) (.tmp 126) (.const (.bool false)), none⟩, ⟨some 6, .mov (.tmp 127), none⟩]) (.kill [11, 15, 12, 14, 13, 16, 17, 18, 19, 127, 126, 125, 124, 123, 122, 121, 120, 119, 118, 117, 116, 115, 114, 113, 112, 111, 110, 109, 108, 107, 106, 105, 104, 103, 102, 101, 100, 99, 98])) .ret)))))))))⟩
theorem h_l30_ReconTurned_ok : compFunH Go.Proofs.Tryz.prog n_l30_ReconTurned [(10, none, 0)] = some h_l30_ReconTurned := by kernel_rfl
end Hud
end
section
namespace Hud
open Go
def rotL (a : List Id) (k : Nat) : List Id := a.drop k ++ a.take k
theorem rot_perm (a : List Id) (k : Nat) : (rotL a k).Perm a := by
  have := List.perm_append_comm (l₁ := a.drop k) (l₂ := a.take k)
  rwa [List.take_append_drop] at this
theorem rot_mem {a : List Id} {k : Nat} (x : Id) : x ∈ rotL a k ↔ x ∈ a := (rot_perm a k).mem_iff
theorem without_congr {a c : List Id} (b : List Id) (h : ∀ x, x ∈ c ↔ x ∈ a) : withoutL b c = withoutL b a := by
  unfold withoutL
  congr 1
  exact List.filter_congr fun x _ => by simp only [h]
theorem without_perm {a c : List Id} (b : List Id) (h : c.Perm a) : withoutL c b = withoutL a b := by
  refine sorted_unique ?_ (msortI_sorted _) (msortI_sorted _)
  exact (msortI_perm _).trans ((h.filter _).trans (msortI_perm _).symm)
theorem fit_rot {a c : List Id} (b : List Id) (h : c.Perm a) {n : Nat} : FitL b c n ↔ FitL a b n := by
  have hm : ∀ x, x ∈ c ↔ x ∈ a := fun x => h.mem_iff
  have : FitL b c n ↔ FitL b a n := by
    unfold FitL
    rw [elems_same hm, without_congr b hm, without_perm b h]
  exact this.trans fit_sym
theorem pts_rot {a c : List Id} (b : List Id) (h : c.Perm a) : ptsL b c = ptsL a b := by
  unfold ptsL
  congr 1
  funext n
  exact propext (fit_rot b h)
theorem without_lt {a b : List Id} (hn : a.Nodup) {i : Nat} (h : i + 1 < (withoutL a b).length) : ((withoutL a b)[i]).lt (withoutL a b)[i + 1] = true := by
  have hs := List.pairwise_iff_getElem.1 (show (withoutL a b).Pairwise leI from msortI_sorted _) i (i + 1) (by omega) h (by omega)
  have hd := without_nodup (b := b) hn
  cases e : ((withoutL a b)[i]).lt (withoutL a b)[i + 1] with
  | true => rfl
  | false =>
    have := leI_antisymm hs e
    exact absurd this (List.pairwise_iff_getElem.1 (List.nodup_iff_pairwise_ne.1 hd) i (i + 1) (by omega) h (by omega))
theorem Id_len (x : Id) : x.A.length = 3 := Eq.trans rfl rfl
theorem Id_take (x : Id) : x.A.take 3 = x.A := Eq.trans rfl rfl
section
variable {G : Nat → Option (List AV)}
set_option maxHeartbeats 4000000
theorem c_l30_ReconTurned (l m : List Int) (turn : Int) (hl : inI l) (hm : inI m) (ht1 : -9223372036854775808 ≤ turn) (ht2 : turn ≤ 9223372036854775807) : CallOk Go.Proofs.Tryz.prog G n_l30_ReconTurned [ints l, ints m, .v (.int .i64 turn)] [] fun r T => r = .v (.bool true) ∧ T = [] := by
  refine fun_okH h_l30_ReconTurned_ok (by decide) ?_
  unfold h_l30_ReconTurned
  have n2 := names_len l 14
  have n3 := names_len m 14
  have d2 := names_nodup l 14
  have oa := names_ok l 14
  have ob := names_ok m 14
  have k2 := c_Names (G := G) l 14 (by decide) hl.1 hl.2
  have k3 := c_Names (G := G) m 14 (by decide) hm.1 hm.2
  generalize namesL l 14 = a at *
  generalize namesL m 14 = b at *
  simp only [go_sem, ↓reduceIte]
  refine call_pure (subL_refl _) rfl k2 rfl ?_
  simp only [go_sem, ↓reduceIte]
  refine call_pure (subL_refl _) rfl k3 rfl ?_
  have k4 := c_r01_Around (G := G) turn ((a.length + 1 : Nat) : Int) ht1 ht2 (by omega) (by omega)
  obtain ⟨k, hk, hw⟩ : ∃ k : Nat, k ≤ a.length ∧ around turn ((a.length + 1 : Nat) : Int) = (k : Int) := by
    have z1 : 0 ≤ around turn ((a.length + 1 : Nat) : Int) := Int.emod_nonneg _ (by omega)
    have z2 : around turn ((a.length + 1 : Nat) : Int) < ((a.length + 1 : Nat) : Int) := Int.emod_lt_of_pos _ (by omega)
    exact ⟨(around turn ((a.length + 1 : Nat) : Int)).toNat, by omega, by omega⟩
  rw [hw] at k4
  simp only [go_sem, ↓reduceIte, List.length_map, wrap_suc (show a.length < 9223372036854775807 by omega)]
  refine call_pure (subL_refl _) rfl k4 rfl ?_
  have hkl : ¬ a.length < k := by omega
  have b1 : (a.length - k) * 24 ≤ 140737488355328 := by omega
  have b2 : a.length - k ≤ maxLen := by unfold maxLen; omega
  have b3 : (a.length - k + k) * 24 ≤ 140737488355328 := by omega
  have b4 : a.length - k + k ≤ maxLen := by unfold maxLen; omega
  have hc : List.drop k (List.map Id.A a) ++ List.take k (List.map Id.A a) = (rotL a k).map Id.A := by
    rw [rotL, List.map_append, List.map_drop, List.map_take]
  have hcl : (rotL a k).length = a.length := (rot_perm a k).length_eq
  have oc : okI (rotL a k) := fun x hx => oa x (rot_mem x |>.1 hx)
  have p1 := pts_rot (a := a) b (rot_perm a k)
  have p2 := without_congr b (rot_mem (a := a) (k := k))
  have p3 := without_perm b (rot_perm a k)
  have p4 : withoutL a (rotL a k) = [] := without_nil fun x hx => (rot_mem x).2 hx
  have p5 : withoutL (rotL a k) a = [] := without_nil fun x hx => (rot_mem x).1 hx
  have p6 : ptsL a (rotL a k) = 4 := pts4 (fit_same (fun x => (rot_mem x).symm) (by decide))
  have dd1 := c_Diff (G := G) a b (by omega) (by omega) oa ob
  have dd2 := c_Diff (G := G) b (rotL a k) (by omega) (by omega) ob oc
  have dd3 := c_Diff (G := G) a (rotL a k) (by omega) (by omega) oa oc
  rw [p1, p2, p3] at dd2
  rw [p4, p5, p6] at dd3
  simp only [go_sem, ↓reduceIte, List.length_map, hk, hkl, b1, b2, b3, b4, Nat.min_eq_left hk, hc]
  clear hc p1 p2 p3 p4 p5 p6 oc k2 k3 k4
  generalize rotL a k = c at *
  refine call_pure (subL_refl _) rfl dd1 rfl ?_
  simp only [go_sem, ↓reduceIte]
  refine call_pure (subL_refl _) rfl dd2 rfl ?_
  simp only [go_sem, ↓reduceIte]
  refine call_pure (subL_refl _) rfl dd3 rfl ?_
  simp only [go_sem, ↓reduceIte]
  generalize hX : withoutL a b = X at *
  generalize hY : withoutL b a = Y at *
  generalize ptsL a b = N at *
  have hXl : X.length ≤ 14 := by have := without_len a b; rw [hX] at this; omega
  have hYl : Y.length ≤ 14 := by have := without_len b a; rw [hY] at this; omega
  refine loop_up X.length (fun i => ⟨0, [(7, ids a), (8, ids b), (11, ids X), (12, ids Y), (13, .v (.int .i64 (N : Int))), (14, ids Y), (15, ids X), (16, .v (.int .i64 (N : Int))), (17, ids []), (18, ids []), (19, .v (.int .i64 4)), (20, .v (.int .i64 i))], []⟩) (fun _ => True) ?_ trivial ?_ ?_
  · simp only [go_sem, ↓reduceIte]
  · intro i hi _
    have hmem : X[i] ∈ withoutL a b := by rw [hX]; exact List.getElem_mem hi
    rw [without_mem] at hmem
    have m1 : decide (X[i] ∈ b) = false := decide_eq_false hmem.2
    have m2 : decide (X[i] ∈ a) = true := decide_eq_true hmem.1
    have g0 : (X.map Id.A)[i]? = some X[i].A := nth_map Id.A X i hi
    have h1 := c_r11_HasID (G := G) b X[i] (by unfold maxLen; omega)
    have h2 := c_r11_HasID (G := G) a X[i] (by unfold maxLen; omega)
    rw [m1] at h1
    rw [m2] at h2
    have hw1 := wrap_suc (show i < 9223372036854775807 by omega)
    by_cases hi0 : i = 0
    · subst hi0
      have hz : decide ((0 : Int) < (X.length : Int)) = true := decide_eq_true (by omega)
      simp only [go_sem, ↓reduceIte, List.length_map, hz, g0, Id_len, Id_take, Nat.le_refl]
      refine call_pure (subL_refl _) rfl h1 rfl ?_
      simp only [go_sem, ↓reduceIte, List.length_map, g0, Id_len, Id_take, Nat.le_refl]
      refine call_pure (subL_refl _) rfl h2 rfl ?_
      simp only [go_sem, ↓reduceIte, hw1]
    · have g1 : (X.map Id.A)[i - 1]? = some X[i - 1].A := nth_map Id.A X (i - 1) (by omega)
      have h3 : (X[i - 1]).lt X[i] = true := by
        subst hX
        obtain ⟨k, rfl⟩ : ∃ k, i = k + 1 := ⟨i - 1, by omega⟩
        exact without_lt d2 hi
      have k3 := c_op_Less (G := G) X[i - 1] X[i]
      rw [h3] at k3
      have hw2 : IntKind.i64.wrap ((i : Int) - 1) = ((i - 1 : Nat) : Int) := by rw [wrap_i64 (by omega) (by omega)]; omega
      have hz : decide ((i : Int) > 0) = true := decide_eq_true (by omega)
      simp only [go_sem, ↓reduceIte, List.length_map, dlt_t hi, g0, Id_len, Id_take, Nat.le_refl]
      refine call_pure (subL_refl _) rfl h1 rfl ?_
      simp only [go_sem, ↓reduceIte, List.length_map, g0, Id_len, Id_take, Nat.le_refl]
      refine call_pure (subL_refl _) rfl h2 rfl ?_
      simp only [go_sem, ↓reduceIte, List.length_map, g0, g1, hw2, hz, Int.natCast_nonneg, Int.toNat_natCast, Id_len, Id_take, Nat.le_refl]
      refine call_pure (subL_refl _) rfl k3 rfl ?_
      simp only [go_sem, ↓reduceIte, hw1]
  · intro _
    have hX2 : X.length ≤ maxLen := by unfold maxLen; omega
    have hY2 : Y.length ≤ maxLen := by unfold maxLen; omega
    simp only [go_sem, ↓reduceIte, List.length_map, dlt_f (Nat.lt_irrefl X.length)]
    refine call_pure (subL_refl _) rfl (c_r11_SameIDs X X hX2) rfl ?_
    simp only [go_sem, ↓reduceIte]
    refine call_pure (subL_refl _) rfl (c_r11_SameIDs Y Y hY2) rfl ?_
    simp only [go_sem, ↓reduceIte]
    refine call_pure (subL_refl _) rfl c_lives rfl ?_
    simp only [go_sem, ↓reduceIte]
end
end Hud
end
section
namespace Go.Proofs.YtialbdgcgiaebaaGreat
open Go Go.RowKit Go.WideShapes Go.ChangeShapes Go.ChangeAt Hud
set_option maxRecDepth 100000 in
theorem int_in {base : Nat} {W : World} {v : Value} (hv : Value.okWide Tryz.prog W .any base 3 v) : ∃ n : Int, v = .int .i64 n ∧ -9223372036854775808 ≤ n ∧ n ≤ 9223372036854775807 := by
  obtain ⟨n, rfl⟩ := okWide_int Tryz.underlying3 hv
  refine ⟨n, rfl, ?_⟩
  simp only [Value.okWide, Tryz.underlying3, Cell.okWide, Cell.ok] at hv
  have h : IntKind.i64.min ≤ n ∧ n ≤ IntKind.i64.max := hv.2
  have m1 : IntKind.i64.min = -9223372036854775808 := by decide
  have m2 : IntKind.i64.max = 9223372036854775807 := by decide
  rw [m1, m2] at h
  exact h
set_option maxRecDepth 100000 in
theorem turned_lifted (os : Os) (started : os.Started) (H : Type) (enc : TypeId × Value → H) :
    ReturnsInHanded {} Tryz.checked os 6 .any (Rows.reconTurnedSpec.pre6 enc Tryz.prog Tryz.f6 Rows.reconTurnedRow.domain false) (Rows.reconTurnedSpec.post enc Tryz.prog Tryz.f6 false true false false) := by
  refine returnsInHanded_of_change (C := Tryz.checked) Tryz.own started (by kernel_rfl) Tryz.func6
    (ChangeSpec.witness6 (enc := enc) (C := Tryz.checked) false ⟨#[], #[.slice none 0 0, .slice none 0 0, .int .i64 0], []⟩ 8 (by kernel_rfl) (by kernel_rfl) (by kernel_rfl) (by kernel_rfl)) ?_
  intro W base args ds gs before hval0 hW hcnd _
  have hval : ∀ (j : Nat) t v, Tryz.f6.params[j]? = some t → args[j]? = some v → Value.okWide Tryz.prog W .any base t v := hval0
  have hW' := hW
  obtain ⟨p, q, hA0, hV, rfl, hfz, hnd⟩ := hW
  have hA : DataW.TrodAll enc Tryz.prog W 0 (fun _ => true) true Tryz.f6.params.toList args.toList ds p := hA0
  rw [Tryz.params6] at hA hval
  obtain ⟨v0, v1, v2, d0, d1, d2, p0, p1, p2, rfl, rfl, rfl, h0, h1, h2⟩ := trodAll_three hA
  obtain ⟨rfl, rfl⟩ := trodVars_none hV
  obtain ⟨l, il, rl⟩ := ints_in (hval 0 22 v0 rfl rfl) h0
  obtain ⟨m, im, rm⟩ := ints_in (hval 1 22 v1 rfl rfl) h1
  obtain ⟨n, rfl, b1, b2⟩ := int_in (hval 2 3 v2 rfl rfl)
  refine law_post (φ := fun _ => undef) (avs := [ints l, ints m, .v (.int .i64 n)]) Tryz.laidOut hW' rfl rfl ?_ (by kernel_rfl) Tryz.underlying4 (enters_of Tryz.func6 (by kernel_rfl) rfl _ _) (c_l30_ReconTurned l m n il im b1 b2) ?_
  · rw [Tryz.params6]
    intro t ht
    simp only [List.mem_cons, List.not_mem_nil, or_false] at ht
    rcases ht with rfl | rfl | rfl <;> exact ⟨by kernel_rfl, of_decide_eq_true (by kernel_rfl)⟩
  · simp only [RpL]
    exact ⟨_, _, rfl, rl, _, _, rfl, rm, _, _, rfl, by simp [Rp], rfl⟩
theorem turned_holds : Rows.ReconTurnedSaid :=
  OpenClaim.holds_of_wide 6 Tryz.f6 rfl rfl rfl rfl rfl rfl rfl ⟨rfl, rfl, rfl, rfl, rfl⟩ rfl rfl rfl rfl rfl (by kernel_rfl) Tryz.func6 (by kernel_rfl)
    (of_decide_eq_true (by kernel_rfl)) (by unfold Func.isWrapper; first | (rw [if_pos (by decide +kernel)]; kernel_rfl) | (rw [if_neg (by decide +kernel)]; exact ⟨rfl, rfl⟩))
    (fun os started H enc _ => turned_lifted os started H enc)
end Go.Proofs.YtialbdgcgiaebaaGreat
end
