/- ReconRaw holds: whatever the input, the law returns true, and each argument reads behind the call as it read before. -/
import Derived.Test.YtialbdgcgiaebaaGreatLib22
import Derived.Test.YtialbdgcgiaebaaGreatRows
set_option linter.all false
section
namespace Go.Proofs.YtialbdgcgiaebaaGreat
open Go Go.RowKit Go.WideShapes Go.ChangeShapes Go.ChangeAt Hud
theorem Tryz.own : ownKnob Tryz.prog.godebug = none := by kernel_rfl
theorem Tryz.laidOut : laidOutB Tryz.prog = true := by kernel_rfl
set_option maxRecDepth 100000 in
theorem ints_in {base : Nat} {H : Type} {enc : TypeId × Value → H} {W : World} {spare : Nat → Bool} {held : Bool} {v : Value} {d : DataW H} {ps : List MemPlace} (hv : Value.okWide Tryz.prog W .any base 22 v) (hd : DataW.Trod enc Tryz.prog W 0 spare held 22 v d ps) :
    ∃ l : List Int, inI l ∧ Rp (allG W) (fun _ => undef) 0 (ints l) v := by
  obtain ⟨A, l0, c0, rfl⟩ := okWide_slice Tryz.underlying22 hv
  have s0 := slice_in (φ := fun _ => undef) (ks := [.int .i64]) (n := 1) Tryz.underlying22 (by kernel_rfl) (by kernel_rfl) (by decide) hd
  obtain ⟨es, he, hlen, hr0⟩ := s0
  obtain ⟨l, hl, ho⟩ := ints_of he
  have hll : es.length = l.length := by simpa using congrArg List.length hl
  rw [hl] at hr0
  exact ⟨l, ⟨ho, by omega⟩, hr0⟩
end Go.Proofs.YtialbdgcgiaebaaGreat
end
section
namespace Hud
open Go
def h_l30_ReconRaw : HFun := ⟨106, [(4, none)],
  .seq (.seq (.reg [⟨some 4, .mov (.const (.bool false)), none⟩]) (.kill [4])) (.seq (.seq (.reg [⟨some 5, .mov (.const (.slice none 0 0)), none⟩]) (.own 5 none 3)) (.seq (.seq (.reg [⟨some 6, .mov (.const (.slice none 0 0)), none⟩]) (.own 6 none 3)) (.seq (.seq (.reg [⟨some 7, .mov (.const (.int .i64 0)), none⟩]) (.seq (.block 0 (.loop [] (.seq (.seq (.seq (.reg [⟨some 13, .mov (.tmp 7), none⟩, ⟨some 14, .mov (.tmp 0), none⟩, ⟨some 15, .lenL (.tmp 14), none⟩, ⟨some 16, .bin .lss (.tmp 13) (.tmp 15), none⟩, ⟨some 17, .mov (.tmp 16), none⟩, ⟨some 18, .mov (.tmp 7), some (17, true)⟩, ⟨some 19, .bin .lss (.tmp 18) (.const (.int .i64 5)), some (17, true)⟩, ⟨some 20, .pick (.tmp 17) (.tmp 19) (.const (.bool false)), none⟩]) (.kill [19, 18, 17, 16, 15, 14, 13])) (.cond (.tmp 20) (.seq (.kill [20]) .skip) (.seq (.kill [0, 7, 20]) (.exit 0)))) (.seq (.block 1 (.seq (.seq (.seq (.reg [⟨some 23, .mov (.tmp 5), none⟩, ⟨some 24, .mov (.tmp 0), none⟩, ⟨some 25, .mov (.tmp 7), none⟩, ⟨some 26, .iad (.tmp 24) (.tmp 25) 3, none⟩, ⟨some 27, .ld (some 3) (.tmp 26), none⟩, ⟨some 28, .call (.func n_r11_HasID) [.tmp 23, .tmp 27], none⟩, ⟨some 29, .un .not (.tmp 28), none⟩]) (.kill [28, 27, 26, 25, 24, 23])) (.cond (.tmp 29) (.seq (.kill [29]) (.seq (.seq (.reg [⟨some 30, .mov (.tmp 5), none⟩, ⟨some 31, .mov (.tmp 0), none⟩, ⟨some 32, .mov (.tmp 7), none⟩, ⟨some 33, .iad (.tmp 31) (.tmp 32) 3, none⟩, ⟨some 34, .ld (some 3) (.tmp 33), none⟩, ⟨some 35, .bsl 3 [.int .i64 0, .int .i64 0, .int .u64 0] [(0, (3, .tmp 34))] 1, none⟩, ⟨some 36, .app (.tmp 30) (.tmp 35) 3 24, none⟩, ⟨some 5, .mov (.tmp 36), none⟩]) (.kill [36, 35, 34, 33, 32, 31, 30])) (.own 5 none 3))) (.seq (.kill [29]) .skip))) (.seq (.seq (.reg [⟨some 37, .mov (.tmp 0), none⟩, ⟨some 38, .mov (.tmp 7), none⟩, ⟨some 39, .iad (.tmp 37) (.tmp 38) 3, none⟩, ⟨some 40, .ld (some 3) (.tmp 39), none⟩, ⟨some 8, .alloc [.int .i64 0, .int .i64 0, .int .u64 0], none⟩, ⟨none, .st 3 (.tmp 8) (.tmp 40), none⟩]) (.kill [40, 39, 38, 37])) (.seq (.seq (.reg [⟨some 41, .fad (.tmp 8) 1, none⟩, ⟨some 42, .ld none (.tmp 41), none⟩, ⟨some 43, .bin .xor (.tmp 42) (.const (.int .i64 1)), none⟩, ⟨some 44, .fad (.tmp 8) 1, none⟩, ⟨none, .st 1 (.tmp 44) (.tmp 43), none⟩]) (.kill [44, 43, 42, 41])) (.seq (.seq (.reg [⟨some 45, .mov (.tmp 6), none⟩, ⟨some 46, .ld (some 3) (.tmp 8), none⟩, ⟨some 47, .call (.func n_r11_HasID) [.tmp 45, .tmp 46], none⟩, ⟨some 48, .un .not (.tmp 47), none⟩]) (.kill [47, 46, 45])) (.cond (.tmp 48) (.seq (.kill [48]) (.seq (.seq (.reg [⟨some 49, .mov (.tmp 6), none⟩, ⟨some 50, .ld (some 3) (.tmp 8), none⟩, ⟨some 51, .bsl 3 [.int .i64 0, .int .i64 0, .int .u64 0] [(0, (3, .tmp 50))] 1, none⟩, ⟨some 52, .app (.tmp 49) (.tmp 51) 3 24, none⟩, ⟨some 6, .mov (.tmp 52), none⟩]) (.kill [8, 52, 51, 50, 49])) (.own 6 none 3))) (.seq (.kill [8, 48]) .skip))))))) (.seq (.reg [⟨some 21, .mov (.tmp 7), none⟩, ⟨some 22, .bin .add (.tmp 21) (.const (.int .i64 1)), none⟩, ⟨some 7, .mov (.tmp 22), none⟩]) (.kill [22, 21])))))) (.shut 5))) (.seq (.seq (.reg [⟨some 9, .mov (.const (.int .i64 0)), none⟩]) (.seq (.block 2 (.loop [] (.seq (.seq (.seq (.reg [⟨some 53, .mov (.tmp 9), none⟩, ⟨some 54, .mov (.tmp 1), none⟩, ⟨some 55, .lenL (.tmp 54), none⟩, ⟨some 56, .bin .lss (.tmp 53) (.tmp 55), none⟩, ⟨some 57, .mov (.tmp 56), none⟩, ⟨some 58, .mov (.tmp 9), some (57, true)⟩, ⟨some 59, .bin .lss (.tmp 58) (.const (.int .i64 5)), some (57, true)⟩, ⟨some 60, .pick (.tmp 57) (.tmp 59) (.const (.bool false)), none⟩]) (.kill [59, 58, 57, 56, 55, 54, 53])) (.cond (.tmp 60) (.seq (.kill [60]) .skip) (.seq (.kill [1, 9, 60]) (.exit 2)))) (.seq (.block 3 (.seq (.seq (.reg [⟨some 63, .mov (.tmp 6), none⟩, ⟨some 64, .mov (.tmp 1), none⟩, ⟨some 65, .mov (.tmp 9), none⟩, ⟨some 66, .iad (.tmp 64) (.tmp 65) 3, none⟩, ⟨some 67, .ld (some 3) (.tmp 66), none⟩, ⟨some 68, .call (.func n_r11_HasID) [.tmp 63, .tmp 67], none⟩, ⟨some 69, .un .not (.tmp 68), none⟩]) (.kill [68, 67, 66, 65, 64, 63])) (.cond (.tmp 69) (.seq (.kill [69]) (.seq (.seq (.reg [⟨some 70, .mov (.tmp 6), none⟩, ⟨some 71, .mov (.tmp 1), none⟩, ⟨some 72, .mov (.tmp 9), none⟩, ⟨some 73, .iad (.tmp 71) (.tmp 72) 3, none⟩, ⟨some 74, .ld (some 3) (.tmp 73), none⟩, ⟨some 75, .bsl 3 [.int .i64 0, .int .i64 0, .int .u64 0] [(0, (3, .tmp 74))] 1, none⟩, ⟨some 76, .app (.tmp 70) (.tmp 75) 3 24, none⟩, ⟨some 6, .mov (.tmp 76), none⟩]) (.kill [76, 75, 74, 73, 72, 71, 70])) (.own 6 none 3))) (.seq (.kill [69]) .skip)))) (.seq (.reg [⟨some 61, .mov (.tmp 9), none⟩, ⟨some 62, .bin .add (.tmp 61) (.const (.int .i64 1)), none⟩, ⟨some 9, .mov (.tmp 62), none⟩]) (.kill [62, 61])))))) (.shut 6))) (.seq (.seq (.reg [⟨some 78, .mov (.tmp 5), none⟩, ⟨some 79, .mov (.tmp 6), none⟩, ⟨some 80, .call (.func n_recon_Diff) [.tmp 78, .tmp 79], none⟩, ⟨some 77, .mov (.tmp 80), none⟩, ⟨some 81, .ext (.tmp 77) 0, none⟩, ⟨some 82, .ext (.tmp 77) 1, none⟩, ⟨some 83, .ext (.tmp 77) 2, none⟩, ⟨some 10, .mov (.tmp 81), none⟩, ⟨some 11, .mov (.tmp 82), none⟩, ⟨some 12, .mov (.tmp 83), none⟩]) (.kill [83, 82, 81, 77, 80, 79, 78])) (.seq (.seq (.reg [⟨some 84, .mov (.tmp 10), none⟩, ⟨some 85, .mov (.tmp 5), none⟩, ⟨some 86, .mov (.tmp 6), none⟩, ⟨some 87, .call (.func n_r30_Only) [.tmp 85, .tmp 86], none⟩, ⟨some 88, .call (.func n_r11_SameIDs) [.tmp 84, .tmp 87], none⟩, ⟨some 89, .mov (.tmp 88), none⟩, ⟨some 90, .mov (.tmp 11), some (89, true)⟩, ⟨some 91, .mov (.tmp 6), some (89, true)⟩, ⟨some 92, .mov (.tmp 5), some (89, true)⟩, ⟨some 93, .call (.func n_r30_Only) [.tmp 91, .tmp 92], some (89, true)⟩, ⟨some 94, .call (.func n_r11_SameIDs) [.tmp 90, .tmp 93], some (89, true)⟩, ⟨some 95, .pick (.tmp 89) (.tmp 94) (.const (.bool false)), none⟩, ⟨some 96, .mov (.tmp 95), none⟩, ⟨some 97, .mov (.tmp 12), some (96, true)⟩, ⟨some 98, .mov (.tmp 5), some (96, true)⟩, ⟨some 99, .mov (.tmp 6), some (96, true)⟩, ⟨some 100, .call (.func n_r30_Points) [.tmp 98, .tmp 99], some (96, true)⟩, ⟨some 101, .bin .eql (.tmp 97) (.tmp 100), some (96, true)⟩, ⟨some 102, .pick (.tmp 96) (.tmp 101) (.const (.bool false)), none⟩, ⟨some 103, .mov (.tmp 102), none⟩, ⟨some 104, .call (.func n_l30_lives) [], some (103, true)⟩, ⟨some 105, .pick (.tmp 103) (.tmp 104) (.const (.bool false)), none⟩, ⟨some 4, .mov (.tmp 105), none⟩]) (.kill [10, 5, 6, 11, 12, 105, 104, 103, 102, 101, 100, 99, 98, 97, 96, 95, 94, 93, 92, 91, 90, 89, 88, 87, 86, 85, 84])) .ret))))))⟩
theorem h_l30_ReconRaw_ok : compFunH Go.Proofs.Tryz.prog n_l30_ReconRaw [(5, none, 3), (6, none, 3), (1000000, some 5, 0), (1000002, some 6, 0)] = some h_l30_ReconRaw := by kernel_rfl
end Hud
end
section
namespace Hud
open Go
def xb (n : Int) : Int := IntKind.i64.wrap (BitVec.ofInt IntKind.i64.bits n ^^^ BitVec.ofInt IntKind.i64.bits 1).toNat
theorem pbin_xb (n : Int) : pbin .xor (.int .i64 n) (.int .i64 1) = some (.int .i64 (xb n)) := rfl
theorem okI_add {a : List Id} {x : Id} (ha : okI a) (hx : 0 ≤ x.c ∧ x.c < 18446744073709551616) : okI (a ++ [x]) := fun y hy => by
  rcases List.mem_append.1 hy with h | h
  · exact ha y h
  · rw [List.mem_singleton.1 h]; exact hx
def addI (a : List Id) (x : Id) : List Id := if x ∈ a then a else a ++ [x]
theorem addI_len (a : List Id) (x : Id) : (addI a x).length ≤ a.length + 1 := by unfold addI; split <;> simp
theorem addI_ok {a : List Id} {x : Id} (ha : okI a) (hx : 0 ≤ x.c ∧ x.c < 18446744073709551616) : okI (addI a x) := by
  unfold addI; split
  · exact ha
  · exact okI_add ha hx
section
variable {G : Nat → Option (List AV)}
set_option maxHeartbeats 4000000
theorem c_l30_ReconRaw (l m : List Id) (hl : okI l) (hm : okI m) (hll : l.length ≤ maxLen) (hml : m.length ≤ maxLen) : CallOk Go.Proofs.Tryz.prog G n_l30_ReconRaw [ids l, ids m] [] fun r T => r = .v (.bool true) ∧ T = [] := by
  refine fun_okH h_l30_ReconRaw_ok (by decide) ?_
  unfold h_l30_ReconRaw
  unfold maxLen at hll hml
  simp only [go_sem, ↓reduceIte]
  refine cut_block (fun s => ∃ a b : List Id, a.length ≤ 5 ∧ b.length ≤ 5 ∧ okI a ∧ okI b ∧ s = ⟨0, [(1, ids m), (5, .own 0), (6, .own 1)], [some (.arr 3 (a.map Id.A)), some (.arr 3 (b.map Id.A))]⟩) ?_ ?_
  · refine loop_i (fun k s => ∃ (i : Nat) (a b : List Id), k = min l.length 5 - i ∧ i ≤ min l.length 5 ∧ a.length ≤ i ∧ b.length ≤ i ∧ okI a ∧ okI b ∧ s = ⟨0, [(0, ids l), (1, ids m), (5, .own 0), (6, .own 1), (7, .v (.int .i64 (i : Int)))], [some (.arr 3 (a.map Id.A)), some (.arr 3 (b.map Id.A))]⟩) (min l.length 5)
      ⟨0, [], [], rfl, Nat.zero_le _, Nat.le_refl _, Nat.le_refl _, fun _ h => by simp at h, fun _ h => by simp at h, ?_⟩ ?_
    · simp only [go_sem, ↓reduceIte]
    rintro k s ⟨i, a, b, rfl, hi, la, lb, oa, ob, rfl⟩
    by_cases hlt : i < min l.length 5
    · have h1 : i < l.length := by omega
      have d5t : decide ((i : Int) < 5) = true := decide_eq_true (by omega)
      have hx := hl l[i] (List.getElem_mem h1)
      simp only [go_sem, ↓reduceIte, List.length_map, dlt_t h1, d5t, nth_map Id.A l i h1, Id.A_def]
      refine call_lend_pure (subL_refl _) rfl rfl (c_r11_HasID a l[i] (by unfold maxLen; omega)) ?_
      have b1 : (a.length + 1) * 24 ≤ 140737488355328 := by omega
      have b2 : a.length + 1 ≤ maxLen := by unfold maxLen; omega
      have b3 : (b.length + 1) * 24 ≤ 140737488355328 := by omega
      have b4 : b.length + 1 ≤ maxLen := by unfold maxLen; omega
      have a1 := addI_len a l[i]
      have a2 := addI_ok oa hx
      have a3 := addI_len b ⟨l[i].a, xb l[i].b, l[i].c⟩
      have a4 := addI_ok (x := ⟨l[i].a, xb l[i].b, l[i].c⟩) ob hx
      have fin : ∀ s, s = (⟨0, [(0, ids l), (1, ids m), (5, .own 0), (6, .own 1), (7, .v (.int .i64 ((i + 1 : Nat) : Int)))], [some (.arr 3 ((addI a l[i]).map Id.A)), some (.arr 3 ((addI b ⟨l[i].a, xb l[i].b, l[i].c⟩).map Id.A))]⟩ : St) → ∃ m', m' < min l.length 5 - i ∧ ∃ (i : Nat) (a b : List Id), m' = min l.length 5 - i ∧ i ≤ min l.length 5 ∧ a.length ≤ i ∧ b.length ≤ i ∧ okI a ∧ okI b ∧ s = ⟨0, [(0, ids l), (1, ids m), (5, .own 0), (6, .own 1), (7, .v (.int .i64 (i : Int)))], [some (.arr 3 (a.map Id.A)), some (.arr 3 (b.map Id.A))]⟩ :=
        fun s hs => ⟨min l.length 5 - (i + 1), by omega, i + 1, _, _, rfl, by omega, by omega, by omega, a2, a4, hs⟩
      clear a1 a2 a3 a4
      by_cases hin : l[i] ∈ a
      · simp only [go_sem, ↓reduceIte, hin, List.length_map, nth_map Id.A l i h1, Id.A_def, ↓pbin_xb]
        refine call_lend_pure (subL_refl _) rfl rfl (c_r11_HasID b ⟨l[i].a, xb l[i].b, l[i].c⟩ (by unfold maxLen; omega)) ?_
        by_cases hib : (⟨l[i].a, xb l[i].b, l[i].c⟩ : Id) ∈ b
        · simp only [go_sem, ↓reduceIte, hib, wrap_suc (show i < 9223372036854775807 by omega)]
          exact fin _ (by simp only [addI, hin, hib, if_true])
        · simp only [go_sem, ↓reduceIte, hib, b3, b4, List.length_map, wrap_suc (show i < 9223372036854775807 by omega)]
          exact fin _ (by simp only [addI, hin, hib, if_true, if_false, List.map_append, List.map_cons, List.map_nil, Id.A_def])
      · simp only [go_sem, ↓reduceIte, hin, b1, b2, List.length_map, nth_map Id.A l i h1, Id.A_def, ↓pbin_xb]
        refine call_lend_pure (subL_refl _) rfl rfl (c_r11_HasID b ⟨l[i].a, xb l[i].b, l[i].c⟩ (by unfold maxLen; omega)) ?_
        by_cases hib : (⟨l[i].a, xb l[i].b, l[i].c⟩ : Id) ∈ b
        · simp only [go_sem, ↓reduceIte, hib, wrap_suc (show i < 9223372036854775807 by omega)]
          exact fin _ (by simp only [addI, hin, hib, if_true, if_false, List.map_append, List.map_cons, List.map_nil, Id.A_def])
        · simp only [go_sem, ↓reduceIte, hib, b3, b4, List.length_map, wrap_suc (show i < 9223372036854775807 by omega)]
          exact fin _ (by simp only [addI, hin, hib, if_false, List.map_append, List.map_cons, List.map_nil, Id.A_def])
    have la5 : a.length ≤ 5 := by omega
    have lb5 : b.length ≤ 5 := by omega
    by_cases h1 : i < l.length
    · have d5f : decide ((i : Int) < 5) = false := decide_eq_false (by omega)
      simp only [go_sem, ↓reduceIte, List.length_map, dlt_t h1, d5f]
      exact ⟨a, b, la5, lb5, oa, ob, rfl⟩
    · simp only [go_sem, ↓reduceIte, List.length_map, dlt_f h1]
      exact ⟨a, b, la5, lb5, oa, ob, rfl⟩
  rintro s ⟨a, b, la, lb, oa, ob, rfl⟩
  clear hl hll l
  simp only [go_sem, ↓reduceIte]
  refine cut_block (fun s => ∃ b : List Id, b.length ≤ 10 ∧ okI b ∧ s = ⟨0, [(5, ids a), (6, .own 0)], [some (.arr 3 (b.map Id.A))]⟩) ?_ ?_
  · refine loop_i (fun k s => ∃ (i : Nat) (b : List Id), k = min m.length 5 - i ∧ i ≤ min m.length 5 ∧ b.length ≤ 5 + i ∧ okI b ∧ s = ⟨0, [(1, ids m), (5, ids a), (6, .own 0), (9, .v (.int .i64 (i : Int)))], [some (.arr 3 (b.map Id.A))]⟩) (min m.length 5)
      ⟨0, b, rfl, Nat.zero_le _, by omega, ob, ?_⟩ ?_
    · simp only [go_sem, ↓reduceIte]
    rintro k s ⟨i, b, rfl, hi, lb, ob, rfl⟩
    by_cases hlt : i < min m.length 5
    · have h1 : i < m.length := by omega
      have d5t : decide ((i : Int) < 5) = true := decide_eq_true (by omega)
      have hx := hm m[i] (List.getElem_mem h1)
      simp only [go_sem, ↓reduceIte, List.length_map, dlt_t h1, d5t, nth_map Id.A m i h1, Id.A_def]
      refine call_lend_pure (subL_refl _) rfl rfl (c_r11_HasID b m[i] (by unfold maxLen; omega)) ?_
      have b3 : (b.length + 1) * 24 ≤ 140737488355328 := by omega
      have b4 : b.length + 1 ≤ maxLen := by unfold maxLen; omega
      by_cases hib : m[i] ∈ b
      · simp only [go_sem, ↓reduceIte, hib, wrap_suc (show i < 9223372036854775807 by omega)]
        exact ⟨min m.length 5 - (i + 1), by omega, i + 1, b, rfl, by omega, by omega, ob, rfl⟩
      · simp only [go_sem, ↓reduceIte, hib, b3, b4, List.length_map, nth_map Id.A m i h1, Id.A_def, wrap_suc (show i < 9223372036854775807 by omega)]
        exact ⟨min m.length 5 - (i + 1), by omega, i + 1, b ++ [m[i]], rfl, by omega, by rw [List.length_append, List.length_singleton]; omega, okI_add ob hx, by rw [List.map_append, List.map_singleton]; rfl⟩
    have lb5 : b.length ≤ 10 := by omega
    by_cases h1 : i < m.length
    · have d5f : decide ((i : Int) < 5) = false := decide_eq_false (by omega)
      simp only [go_sem, ↓reduceIte, List.length_map, dlt_t h1, d5f]
      exact ⟨b, lb5, ob, rfl⟩
    · simp only [go_sem, ↓reduceIte, List.length_map, dlt_f h1]
      exact ⟨b, lb5, ob, rfl⟩
  rintro s ⟨b, lb, ob, rfl⟩
  have w1 := without_len a b
  have w2 := without_len b a
  simp only [go_sem, ↓reduceIte]
  refine call_pure (subL_refl _) rfl (c_Diff a b (by omega) (by omega) oa ob) rfl ?_
  simp only [go_sem, ↓reduceIte]
  refine call_pure (subL_refl _) rfl (c_Only a b (by omega) (by omega)) rfl ?_
  simp only [go_sem, ↓reduceIte]
  refine call_pure (subL_refl _) rfl (c_r11_SameIDs (withoutL a b) (withoutL a b) (by unfold maxLen; omega)) rfl ?_
  simp only [go_sem, ↓reduceIte]
  refine call_pure (subL_refl _) rfl (c_Only b a (by omega) (by omega)) rfl ?_
  simp only [go_sem, ↓reduceIte]
  refine call_pure (subL_refl _) rfl (c_r11_SameIDs (withoutL b a) (withoutL b a) (by unfold maxLen; omega)) rfl ?_
  simp only [go_sem, ↓reduceIte]
  refine call_pure (subL_refl _) rfl (c_Points a b (by omega) (by omega) oa ob) rfl ?_
  simp only [go_sem, ↓reduceIte]
  refine call_pure (subL_refl _) rfl c_lives rfl ?_
  simp only [go_sem, ↓reduceIte]
end
end Hud
end
section
namespace Go.Proofs.YtialbdgcgiaebaaGreat
open Go Go.RowKit Go.WideShapes Go.ChangeShapes Go.ChangeAt Hud
theorem ids_of : ∀ {es : List (List Value)}, (∀ x ∈ es, okCells [.int .i64, .int .i64, .int .u64] x) → ∃ l : List Hud.Id, es.map (fun x => x.map AV.v) = l.map Hud.Id.A ∧ okI l
  | [], _ => ⟨[], rfl, fun _ h => by simp at h⟩
  | e :: es, h => by
    obtain ⟨l, h1, h2⟩ := ids_of (es := es) fun x hx => h x (List.mem_cons_of_mem _ hx)
    have h3 := h e List.mem_cons_self
    simp only [okCells, okLeaf] at h3
    obtain ⟨v1, r1, rfl, ⟨x, rfl, wx⟩, v2, r2, rfl, ⟨y, rfl, wy⟩, v3, r3, rfl, ⟨z, rfl, wz⟩, rfl⟩ := h3
    refine ⟨⟨x, y, z⟩ :: l, by rw [List.map_cons, List.map_cons, h1]; rfl, fun q hq => ?_⟩
    rcases List.mem_cons.1 hq with rfl | hq
    · have := wf_u64 wz
      exact ⟨this.1, Int.lt_of_le_of_lt this.2 (by decide)⟩
    · exact h2 q hq
set_option maxRecDepth 100000 in
theorem ids_in {base : Nat} {H : Type} {enc : TypeId × Value → H} {W : World} {spare : Nat → Bool} {held : Bool} {v : Value} {d : DataW H} {ps : List MemPlace} (hv : Value.okWide Tryz.prog W .any base 23 v) (hd : DataW.Trod enc Tryz.prog W 0 spare held 23 v d ps) :
    ∃ l : List Hud.Id, (okI l ∧ l.length ≤ maxLen) ∧ Rp (allG W) (fun _ => undef) 0 (ids l) v := by
  obtain ⟨A, l0, c0, rfl⟩ := okWide_slice Tryz.underlying23 hv
  have s0 := slice_in (φ := fun _ => undef) (ks := [.int .i64, .int .i64, .int .u64]) (n := 5) Tryz.underlying23 (by kernel_rfl) (by kernel_rfl) (by decide) hd
  obtain ⟨es, he, hlen, hr0⟩ := s0
  obtain ⟨l, hl, ho⟩ := ids_of he
  have hll : es.length = l.length := by simpa using congrArg List.length hl
  rw [hl] at hr0
  exact ⟨l, ⟨ho, by omega⟩, hr0⟩
set_option maxRecDepth 100000 in
theorem raw_lifted (os : Os) (started : os.Started) (H : Type) (enc : TypeId × Value → H) :
    ReturnsInHanded {} Tryz.checked os 4 .any (Rows.reconRawSpec.pre6 enc Tryz.prog Tryz.f4 Rows.reconRawRow.domain false) (Rows.reconRawSpec.post enc Tryz.prog Tryz.f4 false true false false) := by
  refine returnsInHanded_of_change (C := Tryz.checked) Tryz.own started (by kernel_rfl) Tryz.func4
    (ChangeSpec.witness6 (enc := enc) (C := Tryz.checked) false ⟨#[], #[.slice none 0 0, .slice none 0 0], []⟩ 8 (by kernel_rfl) (by kernel_rfl) (by kernel_rfl) (by kernel_rfl)) ?_
  intro W base args ds gs before hval0 hW hcnd _
  have hval : ∀ (j : Nat) t v, Tryz.f4.params[j]? = some t → args[j]? = some v → Value.okWide Tryz.prog W .any base t v := hval0
  have hW' := hW
  obtain ⟨p, q, hA0, hV, rfl, hfz, hnd⟩ := hW
  have hA : DataW.TrodAll enc Tryz.prog W 0 (fun _ => true) true Tryz.f4.params.toList args.toList ds p := hA0
  rw [Tryz.params4] at hA hval
  obtain ⟨v0, v1, d0, d1, p0, p1, rfl, rfl, rfl, h0, h1⟩ := trodAll_two hA
  obtain ⟨rfl, rfl⟩ := trodVars_none hV
  obtain ⟨l, il, rl⟩ := ids_in (hval 0 23 v0 rfl rfl) h0
  obtain ⟨m, im, rm⟩ := ids_in (hval 1 23 v1 rfl rfl) h1
  refine law_post (φ := fun _ => undef) (avs := [ids l, ids m]) Tryz.laidOut hW' rfl rfl ?_ (by kernel_rfl) Tryz.underlying4 (enters_of Tryz.func4 (by kernel_rfl) rfl _ _) (c_l30_ReconRaw l m il.1 im.1 il.2 im.2) ?_
  · rw [Tryz.params4]
    intro t ht
    simp only [List.mem_cons, List.not_mem_nil, or_false] at ht
    rcases ht with rfl | rfl <;> exact ⟨by kernel_rfl, of_decide_eq_true (by kernel_rfl)⟩
  · simp only [RpL]
    exact ⟨_, _, rfl, rl, _, _, rfl, rm, rfl⟩
theorem raw_holds : Rows.ReconRawSaid :=
  OpenClaim.holds_of_wide 4 Tryz.f4 rfl rfl rfl rfl rfl rfl rfl ⟨rfl, rfl, rfl, rfl, rfl⟩ rfl rfl rfl rfl rfl (by kernel_rfl) Tryz.func4 (by kernel_rfl)
    (of_decide_eq_true (by kernel_rfl)) (by unfold Func.isWrapper; first | (rw [if_pos (by decide +kernel)]; kernel_rfl) | (rw [if_neg (by decide +kernel)]; exact ⟨rfl, rfl⟩))
    (fun os started H enc _ => raw_lifted os started H enc)
end Go.Proofs.YtialbdgcgiaebaaGreat
end
