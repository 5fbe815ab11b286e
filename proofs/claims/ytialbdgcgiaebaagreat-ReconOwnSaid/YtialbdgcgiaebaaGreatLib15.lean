import Derived.Test.YtialbdgcgiaebaaGreatLib14
set_option linter.all false
section
namespace Hud
open Go
attribute [local irreducible] hst
section
variable {G : Nat → Option (List AV)}
set_option maxHeartbeats 2000000
def hA (n1 n2 n3 : Nat) : List Fq := [eW, Fin.ofNat PP 3, Fin.ofNat PP n1, Fin.ofNat PP n2, Fin.ofNat PP n3, 0]
theorem q_elem_lt (n : Nat) : 1 + n % 1152921504606846976 < PP := by show _ < 2305843009213693951; omega
def u64n (n : Int) : Nat := (n % 18446744073709551616).toNat
theorem u64n_lt (n : Int) : u64n n < 18446744073709551616 := by unfold u64n; omega
theorem u64n_wrap (n : Int) : IntKind.u64.wrap n = ((u64n n : Nat) : Int) := by
  have : IntKind.u64.wrap n = n % 18446744073709551616 := by simp [IntKind.wrap, IntKind.bits, IntKind.signed]
  rw [this]; unfold u64n; omega
def elemF (a b c : Int) : Fq := ⟨1 + (hashE [u64n a, u64n b, u64n c]).val % 1152921504606846976, q_elem_lt _⟩
theorem elemF_in (a b c : Int) : 1 ≤ (elemF a b c).val ∧ (elemF a b c).val ≤ 1152921504606846976 := by
  have : (elemF a b c).val = 1 + (hashE [u64n a, u64n b, u64n c]).val % 1152921504606846976 := rfl
  omega
theorem pbin_1add (x : Nat) (h : 1 + x < 18446744073709551616) : pbin .add (.int .u64 1) (.int .u64 (x : Int)) = some (.int .u64 ((1 + x : Nat) : Int)) := pbin_addU 1 x h
theorem e_Elem (a b c : Int) (hc : 0 ≤ c ∧ c < 18446744073709551616) : CallOk Go.Proofs.Tryz.prog G n_sketch_Elem [.ag [.v (.int .i64 a), .v (.int .i64 b), .v (.int .u64 c)]] [] fun r T' => r = .v (fu (elemF a b c)) ∧ T' = [] := by
  refine fun_okH h_sketch_Elem_ok (by decide) ?_
  unfold h_sketch_Elem
  have ec : (c : Int) = ((u64n c : Nat) : Int) := by unfold u64n; omega
  rw [ec]
  have r1 := pbin_1add ((hashE [u64n a, u64n b, u64n (u64n c : Nat)]).val % 1152921504606846976) (by omega)
  have e2 : u64n ((u64n c : Nat) : Int) = u64n c := by rw [← ec]
  simp only [go_sem, ↓reduceIte, u64n_wrap, e2]
  refine call_lend_pure (subL_refl _) rfl rfl (h_Of (u64n a) (u64n b) (u64n c) (u64n_lt _) (u64n_lt _) (u64n_lt _)) ?_
  rw [e2] at r1
  simp only [go_sem, ↓reduceIte, ↓pbin_rem60, ↓r1]
  rw [← ec]
  rfl
end
end Hud
end
section
namespace Hud
open Go
theorem quo_nat (n m : Nat) (h : n ≤ 9223372036854775807) : IntKind.i64.wrap (((n : Nat) : Int).tdiv ((m : Nat) : Int)) = ((n / m : Nat) : Int) := by
  rw [← Int.ofNat_tdiv]
  exact wrap_nat (Nat.le_trans (Nat.div_le_self n m) h)
theorem quo2 (n : Nat) (h : n ≤ 9223372036854775807) : IntKind.i64.wrap (((n : Nat) : Int).tdiv 2) = ((n / 2 : Nat) : Int) := quo_nat n 2 h
theorem quo4 (n : Nat) (h : n ≤ 9223372036854775807) : IntKind.i64.wrap (((n : Nat) : Int).tdiv 4) = ((n / 4 : Nat) : Int) := quo_nat n 4 h
theorem quo8 (n : Nat) (h : n ≤ 9223372036854775807) : IntKind.i64.wrap (((n : Nat) : Int).tdiv 8) = ((n / 8 : Nat) : Int) := quo_nat n 8 h
def HS (a b k : Nat) (l : List Nat) : Prop := SR (a + k) b l ∧ ∀ p q, a ≤ p → p < a + k → a + k ≤ q → q < b → l.getD p 0 ≤ l.getD q 0
theorem hs_step {a b k : Nat} {l : List Nat} (hb : b ≤ l.length) (hk : a + k < b) (h : HP a 0 (k + 1) l) (hs : HS a b (k + 1) l) : HP a 1 k (swapN l a (a + k)) ∧ HS a b k (swapN l a (a + k)) := by
  have hg := swapN_get l a (a + k) (by omega) (by omega)
  have ht := hp_top h
  have ht2 : ∀ p, a ≤ p → p ≤ a + k → l.getD p 0 ≤ l.getD a 0 := fun p h1 h2 => by have := ht (p - a) (by omega); rwa [show a + (p - a) = p by omega] at this
  refine ⟨fun p c h1 h2 h3 => ?_, fun i j h1 h2 h3 => ?_, fun p q h1 h2 h3 h4 => ?_⟩
  · rw [hg, hg, if_neg (by omega), if_neg (by omega), if_neg (by omega), if_neg (by omega)]
    exact h p c (by omega) h2 (by omega)
  · rw [hg, hg]
    by_cases hi : i = a + k
    · rw [if_pos hi]
      by_cases hj : j = a + k
      · rw [if_pos hj]; exact Nat.le_refl _
      · rw [if_neg hj, if_neg (by omega)]; exact hs.2 a j (Nat.le_refl _) (by omega) (by omega) h3
    · rw [if_neg hi, if_neg (by omega), if_neg (by omega), if_neg (by omega)]
      exact hs.1 i j (by omega) h2 h3
  · rw [hg, hg, if_neg (by omega : ¬ p = a + k)]
    have hp : (if p = a then l.getD (a + k) 0 else l.getD p 0) ≤ l.getD a 0 ∧ ∀ q, a + (k + 1) ≤ q → q < b → (if p = a then l.getD (a + k) 0 else l.getD p 0) ≤ l.getD q 0 := by
      split
      · exact ⟨ht2 _ (by omega) (Nat.le_refl _), fun q h5 h6 => hs.2 (a + k) q (by omega) (by omega) h5 h6⟩
      · exact ⟨ht2 _ h1 (by omega), fun q h5 h6 => hs.2 p q h1 (by omega) h5 h6⟩
    by_cases hq : q = a + k
    · rw [if_pos hq]; exact hp.1
    · rw [if_neg hq, if_neg (show ¬ q = a by omega)]; exact hp.2 q (by omega) h4
theorem hs_pr {a b k : Nat} {l l' : List Nat} (hb : a + k ≤ l.length) (hs : HS a b k l) (hp : PR a (a + k) l l') : HS a b k l' := by
  refine ⟨hs.1.outside hp (.inr (by omega)), fun p q h1 h2 h3 h4 => ?_⟩
  rw [hp.2.1 q (.inr h3)]
  exact hp.all hb (Q := fun x => x ≤ l.getD q 0) (fun i h5 h6 => hs.2 i q h5 h6 h3 h4) p h1 h2
section
variable {G : Nat → Option (List AV)}
set_option maxHeartbeats 1000000
theorem s_heap (l : List Nat) (a b : Nat) (hab : a < b) (hb : b ≤ l.length) (hl : l.length ≤ 1000000000) :
    CallOk Go.Proofs.Tryz.prog G n_slices_heapSortOrdered_uint64 [.own 0, .v (.int .i64 (a : Int)), .v (.int .i64 (b : Int))] [some (.arr 1 (ul l))] (SortPost l fun _ l' => PR a b l l' ∧ SR a b l') := by
  refine fun_okH h_slices_heapSortOrdered_uint64_ok (by decide) ?_
  unfold h_slices_heapSortOrdered_uint64
  have w1 : IntKind.i64.wrap ((b : Int) - (a : Int)) = ((b - a : Nat) : Int) := by rw [wrap_i64 (by omega) (by omega)]; omega
  have w2 : IntKind.i64.wrap (((b - a : Nat) : Int) - 1) = ((b - a - 1 : Nat) : Int) := by rw [wrap_i64 (by omega) (by omega)]; omega
  simp only [go_sem, ↓reduceIte, w1, w2, quo2 (b - a - 1) (by omega)]
  refine loop_i (fun k s => ∃ l' : List Nat, k ≤ b - a ∧ PR a b l l' ∧ HP a k (b - a) l' ∧ s = ⟨1, [(0, .own 0), (6, .v (.int .i64 (a : Int))), (7, .v (.int .i64 0)), (8, .v (.int .i64 ((b - a : Nat) : Int))), (9, .v (.int .i64 ((k : Int) - 1)))], [some (.arr 1 (ul l'))]⟩) ((b - a - 1) / 2 + 1)
    ⟨l, by omega, PR.refl a b l, fun p c h1 h2 h3 => by omega, ?_⟩ ?_
  · simp only [go_sem, ↓reduceIte, show (((b - a - 1) / 2 + 1 : Nat) : Int) - 1 = (((b - a - 1) / 2 : Nat) : Int) by omega]
  rintro k s ⟨l1, hk, hp, hh, rfl⟩
  have hl1 := hp.1
  cases k with
  | zero =>
    have w3 : IntKind.i64.wrap (((b - a : Nat) : Int) - 1) = ((b - a - 1 : Nat) : Int) := w2
    simp only [go_sem, ↓reduceIte, show decide (((0 : Nat) : Int) - 1 ≥ 0) = false by decide, show decide ((-1 : Int) ≥ 0) = false by decide, w3]
    refine loop_i (fun k s => ∃ l' : List Nat, k ≤ b - a ∧ PR a b l l' ∧ HP a 0 k l' ∧ HS a b k l' ∧ s = ⟨1, [(0, .own 0), (6, .v (.int .i64 (a : Int))), (7, .v (.int .i64 0)), (10, .v (.int .i64 ((k : Int) - 1)))], [some (.arr 1 (ul l'))]⟩) (b - a)
      ⟨l1, Nat.le_refl _, hp, hh, ⟨SR.small (by omega), fun p q h1 h2 h3 h4 => by omega⟩, ?_⟩ ?_
    · simp only [go_sem, ↓reduceIte, show ((b - a : Nat) : Int) - 1 = ((b - a - 1 : Nat) : Int) by omega]
    rintro k s ⟨l2, hk, hp2, hh2, hs2, rfl⟩
    have hl2 := hp2.1
    cases k with
    | zero =>
      simp only [go_sem, ↓reduceIte, show decide (((0 : Nat) : Int) - 1 ≥ 0) = false by decide, show decide ((-1 : Int) ≥ 0) = false by decide]
      exact ⟨l2, ⟨hp2, hs2.1⟩, rfl⟩
    | succ k =>
      have hk1 : ((k + 1 : Nat) : Int) - 1 = (k : Int) := by omega
      have g1 := ul_get l2 a (by omega)
      have g2 := ul_get l2 (a + k) (by omega)
      obtain ⟨y, g3⟩ := ul_sg l2 a (a + k) (.int .u64 ((l2.getD (a + k) 0 : Nat) : Int)) (by omega)
      have w5 : IntKind.i64.wrap ((a : Int) + (k : Int)) = ((a + k : Nat) : Int) := by rw [wrap_i64 (by omega) (by omega)]; omega
      have w6 : IntKind.i64.wrap ((k : Int) - 1) = (k : Int) - 1 := wrap_i64 (by omega) (by omega)
      obtain ⟨st1, st2⟩ := hs_step (by omega) (by omega) hh2 hs2
      have hsp : PR a b l2 (swapN l2 a (a + k)) := swapN_pr (by omega) (by omega) (by omega) (by omega) (by omega)
      simp only [go_sem, ↓reduceIte, hk1, show decide ((k : Int) ≥ 0) = true by simp, List.length_map, List.length_set, w5, show a < l2.length by omega, show a + k < l2.length by omega, g1, g2, g3, ul_swap]
      refine call_at [0] (subL_refl _) (by decide) (by simp) rfl rfl (s_sift (swapN l2 a (a + k)) 0 k a st1 (by omega) (by rw [swapN_len]; omega) (by rw [swapN_len]; omega)) ?_
      rintro r T' ⟨l3, ⟨hp3, hh3⟩, rfl⟩
      simp only [go_sem, ↓reduceIte, w6]
      rw [Nat.add_zero] at hp3
      exact ⟨k, Nat.lt_succ_self k, l3, by omega, (hp2.trans hsp).trans (hp3.wide (Nat.le_refl _) (by omega)), hh3, hs_pr (by rw [swapN_len]; omega) st2 hp3, rfl⟩
  | succ k =>
    have hk1 : ((k + 1 : Nat) : Int) - 1 = (k : Int) := by omega
    have w6 : IntKind.i64.wrap ((k : Int) - 1) = (k : Int) - 1 := wrap_i64 (by omega) (by omega)
    simp only [go_sem, ↓reduceIte, hk1, show decide ((k : Int) ≥ 0) = true by simp]
    refine call_at [0] (subL_refl _) (by decide) (by simp) rfl rfl (s_sift l1 k (b - a) a hh (by omega) (by omega) (by omega)) ?_
    rintro r T' ⟨l3, ⟨hp3, hh3⟩, rfl⟩
    simp only [go_sem, ↓reduceIte, w6]
    exact ⟨k, Nat.lt_succ_self k, l3, by omega, hp.trans (hp3.wide (by omega) (by omega)), hh3, rfl⟩
end
end Hud
end
section
namespace Hud
open Go
theorem u8_wrap (n : Nat) (h : n < 256) : IntKind.u8.wrap (n : Int) = (n : Int) := by
  simp only [IntKind.wrap, IntKind.bits, IntKind.signed]
  simp
  omega
section
variable {G : Nat → Option (List AV)}
theorem s_Len64 (x : Nat) (hx : x < 65536) : CallOk Go.Proofs.Tryz.prog G n_math_bits_Len64 [.v (.int .u64 (x : Int))] [] fun r T' => (∃ n : Nat, r = .v (.int .i64 (n : Int)) ∧ n ≤ 16 ∧ x < 2 ^ n ∧ (x = 0 ∨ 2 ^ n ≤ 2 * x)) ∧ T' = [] := by
  refine fun_okH h_math_bits_Len64_ok (by decide) ?_
  unfold h_math_bits_Len64
  generalize hb : bs _ = tab
  have key : (List.range 256).all (fun i => match tab.data[i]? with | some t => decide (t.toNat ≤ 8 ∧ i < 2 ^ t.toNat ∧ (i = 0 ∨ 2 ^ t.toNat ≤ 2 * i)) | none => false) = true := by rw [← hb]; decide +kernel
  clear hb
  have ht : ∀ i, i < 256 → ∃ t, tab.data[i]? = some t ∧ t.toNat ≤ 8 ∧ i < 2 ^ t.toNat ∧ (i = 0 ∨ 2 ^ t.toNat ≤ 2 * i) := by
    intro i hi
    have := List.all_eq_true.1 key i (List.mem_range.2 hi)
    split at this
    · rename_i t h; exact ⟨t, h, of_decide_eq_true this⟩
    · cases this
  have e1 : decide ((x : Int) ≥ 4294967296) = false := decide_eq_false (by omega)
  have e2 : decide ((x : Int) ≥ 65536) = false := decide_eq_false (by omega)
  by_cases h : 256 ≤ x
  · have e3 : decide ((x : Int) ≥ 256) = true := decide_eq_true (by omega)
    have sh : pbin .shr (.int .u64 (x : Int)) (.int .u64 8) = some (.int .u64 ((x / 256 : Nat) : Int)) := by
      have : (x : Int).fdiv (2 ^ min 8 64) = ((x / 256 : Nat) : Int) := by simp [Int.fdiv_eq_ediv]
      rw [← this]
      simp only [pbin]
      rfl
    obtain ⟨t, t1, t2, t3, t4⟩ := ht (x / 256) (by omega)
    have w1 := wrap_nat (show t.toNat ≤ 9223372036854775807 by omega)
    have w2 : IntKind.i64.wrap (IntKind.i64.wrap 8 + (t.toNat : Int)) = ((8 + t.toNat : Nat) : Int) := by rw [show IntKind.i64.wrap 8 = 8 from rfl, wrap_i64 (by omega) (by omega)]; omega
    have w3 : IntKind.i64.wrap (8 + (t.toNat : Int)) = ((8 + t.toNat : Nat) : Int) := by rw [wrap_i64 (by omega) (by omega)]; omega
    simp only [go_sem, ↓reduceIte, e1, e2, e3, ↓sh, u8_wrap _ (show x / 256 < 256 by omega), t1, w1, w2, w3]
    refine ⟨8 + t.toNat, rfl, by omega, ?_, .inr ?_⟩
    · rw [Nat.pow_add]; have : (2 : Nat) ^ 8 = 256 := rfl; omega
    · rw [Nat.pow_add]; have : (2 : Nat) ^ 8 = 256 := rfl; omega
  · have e3 : decide ((x : Int) ≥ 256) = false := decide_eq_false (by omega)
    obtain ⟨t, t1, t2, t3, t4⟩ := ht x (by omega)
    have w1 := wrap_nat (show t.toNat ≤ 9223372036854775807 by omega)
    have w2 : IntKind.i64.wrap (0 + (t.toNat : Int)) = (t.toNat : Int) := by rw [Int.zero_add]; exact w1
    simp only [go_sem, ↓reduceIte, e1, e2, e3, u8_wrap _ (show x < 256 by omega), t1, w1, w2]
    exact ⟨t.toNat, rfl, by omega, t3, t4⟩
theorem s_Len (x : Nat) (hx : x < 65536) : CallOk Go.Proofs.Tryz.prog G n_math_bits_Len [.v (.int .u64 (x : Int))] [] fun r T' => (∃ n : Nat, r = .v (.int .i64 (n : Int)) ∧ n ≤ 16 ∧ x < 2 ^ n ∧ (x = 0 ∨ 2 ^ n ≤ 2 * x)) ∧ T' = [] := by
  refine fun_okH h_math_bits_Len_ok (by decide) ?_
  unfold h_math_bits_Len
  simp only [go_sem, ↓reduceIte]
  refine call_post (subL_refl _) rfl (s_Len64 x hx) ?_
  rintro r T' ⟨⟨n, rfl, hn⟩, rfl⟩
  simp only [go_sem, ↓reduceIte]
  exact ⟨n, rfl, hn⟩
theorem pbin_shl1 (n : Nat) (h : n ≤ 16) : pbin .shl (.int .u64 1) (.int .i64 (n : Int)) = some (.int .u64 ((2 ^ n : Nat) : Int)) := by
  have h2 : (2 : Nat) ^ n ≤ 2 ^ 16 := Nat.pow_le_pow_right (by omega) h
  have e : (1 : Int) * 2 ^ (min ((n : Int)).toNat 64) = ((2 ^ n : Nat) : Int) := by
    rw [Int.toNat_natCast, Nat.min_eq_left (by omega), Int.one_mul]
    exact (Int.natCast_pow 2 n).symm
  have : IntKind.u64.wrap ((1 : Int) * 2 ^ (min ((n : Int)).toNat 64)) = ((2 ^ n : Nat) : Int) := by
    rw [e, u64_wrap _ (by omega)]
  rw [← this]
  simp only [pbin]
  rw [if_neg (by omega)]
  rfl
theorem s_nextPow (n : Nat) (hn : 0 < n) (hx : n < 65536) : CallOk Go.Proofs.Tryz.prog G n_slices_nextPowerOfTwo [.v (.int .i64 (n : Int))] [] fun r T' => (∃ m : Nat, r = .v (.int .u64 (m : Int)) ∧ n < m ∧ m ≤ 2 * n) ∧ T' = [] := by
  refine fun_okH h_slices_nextPowerOfTwo_ok (by decide) ?_
  unfold h_slices_nextPowerOfTwo
  simp only [go_sem, ↓reduceIte, u64_wrap n (by omega)]
  refine call_post (subL_refl _) rfl (s_Len n hx) ?_
  rintro r T' ⟨⟨k, rfl, h1, h2, h3⟩, rfl⟩
  simp only [go_sem, ↓reduceIte, ↓pbin_shl1 k h1]
  exact ⟨2 ^ k, rfl, h2, by omega⟩
theorem pbin_andLe (x : Int) (y : Nat) (hy : y < 18446744073709551616) : ∃ z : Nat, z ≤ y ∧ pbin .and (.int .u64 x) (.int .u64 (y : Int)) = some (.int .u64 (z : Int)) := by
  refine ⟨(BitVec.ofInt 64 x &&& BitVec.ofInt 64 (y : Int)).toNat, ?_, ?_⟩
  · have h1 : (BitVec.ofInt 64 (y : Int)).toNat = y := by rw [BitVec.toNat_ofInt]; omega
    rw [BitVec.toNat_and, h1]
    exact Nat.and_le_right
  · have : pbin .and (.int .u64 (x : Int)) (.int .u64 (y : Int)) = some (.int .u64 (IntKind.u64.wrap ((BitVec.ofInt 64 (x : Int) &&& BitVec.ofInt 64 (y : Int)).toNat : Int))) := by
      simp only [pbin, if_true]
      rfl
    rw [this, u64_wrap _ (BitVec.isLt _)]
theorem s_Next (x : Int) : CallOk Go.Proofs.Tryz.prog G n_slices_xorshift_Next [.ptr 0 0] [some (.box [.v (.int .u64 x)])] fun r T' => ∃ z : Int, r = .v (.int .u64 z) ∧ T' = [some (.box [.v (.int .u64 z)])] := by
  refine fun_okH h_slices_xorshift_Next_ok (by decide) ?_
  unfold h_slices_xorshift_Next
  simp only [go_sem, ↓reduceIte]
  exact ⟨_, rfl, rfl⟩
end
end Hud
end
section
namespace Hud
open Go
section
variable {G : Nat → Option (List AV)}
set_option maxHeartbeats 1000000
theorem s_reverse (l : List Nat) (a b : Nat) (hab : a < b) (hb : b ≤ l.length) (hl : l.length ≤ 1000000000) :
    CallOk Go.Proofs.Tryz.prog G n_slices_reverseRangeOrdered_uint64 [.own 0, .v (.int .i64 (a : Int)), .v (.int .i64 (b : Int))] [some (.arr 1 (ul l))] (SortPost l fun _ l' => PR a b l l') := by
  refine fun_okH h_slices_reverseRangeOrdered_uint64_ok (by decide) ?_
  unfold h_slices_reverseRangeOrdered_uint64
  have w1 : IntKind.i64.wrap ((b : Int) - 1) = ((b - 1 : Nat) : Int) := by rw [wrap_i64 (by omega) (by omega)]; omega
  simp only [go_sem, ↓reduceIte, w1]
  refine loop_i (fun n s => ∃ (i j : Nat) (l' : List Nat), n = j + 1 - i ∧ a ≤ i ∧ j < b ∧ i ≤ b ∧ PR a b l l' ∧ s = ⟨1, [(0, .own 0), (6, .v (.int .i64 (i : Int))), (7, .v (.int .i64 (j : Int)))], [some (.arr 1 (ul l'))]⟩) (b - a)
    ⟨a, b - 1, l, by omega, Nat.le_refl _, by omega, by omega, PR.refl a b l, by simp only [go_sem, ↓reduceIte]⟩ ?_
  rintro n s ⟨i, j, l1, hn, hi, hj, hib, hp, rfl⟩
  have hl1 := hp.1
  by_cases hij : i < j
  · have g1 := ul_get l1 i (by omega)
    have g2 := ul_get l1 j (by omega)
    obtain ⟨y, g3⟩ := ul_sg l1 i j (.int .u64 ((l1.getD j 0 : Nat) : Int)) (by omega)
    have w2 : IntKind.i64.wrap ((j : Int) - 1) = ((j - 1 : Nat) : Int) := by rw [wrap_i64 (by omega) (by omega)]; omega
    simp only [go_sem, ↓reduceIte, dlt_t hij, List.length_map, List.length_set, show i < l1.length by omega, show j < l1.length by omega, g1, g2, g3, ul_swap, wrap_suc (show i < 9223372036854775807 by omega), w2]
    exact ⟨(j - 1) + 1 - (i + 1), by omega, i + 1, j - 1, _, rfl, by omega, by omega, by omega, hp.trans (swapN_pr (by omega) (by omega) (by omega) (by omega) (by omega)), rfl⟩
  · simp only [go_sem, ↓reduceIte, dlt_f hij]
    exact ⟨l1, hp, rfl⟩
theorem s_order2 (l : List Nat) (a b : Nat) (c : Int) (ha : a < l.length) (hb : b < l.length) :
    CallOk Go.Proofs.Tryz.prog G n_slices_order2Ordered_uint64 [.own 0, .v (.int .i64 (a : Int)), .v (.int .i64 (b : Int)), .ptr 1 0] [some (.arr 1 (ul l)), some (.box [.v (.int .i64 c)])] fun r T' => ∃ (x y : Nat) (c' : Int), ((x = a ∧ y = b) ∨ (x = b ∧ y = a)) ∧ r = .tup [.v (.int .i64 (x : Int)), .v (.int .i64 (y : Int))] ∧ T' = [some (.arr 1 (ul l)), some (.box [.v (.int .i64 c')])] := by
  refine fun_okH h_slices_order2Ordered_uint64_ok (by decide) ?_
  unfold h_slices_order2Ordered_uint64
  have g1 := ul_get l a ha
  have g2 := ul_get l b hb
  simp only [go_sem, ↓reduceIte, List.length_map, ha, hb, g1, g2]
  refine call_pure (subL_refl _) rfl (s_Less _ _) rfl ?_
  simp only [go_sem, ↓reduceIte, List.length_map, ha, hb, g1, g2]
  refine condW_i (fun hc => ?_) (fun hc => ?_)
  · simp only [go_sem, ↓reduceIte]
    exact ⟨b, a, _, .inr ⟨rfl, rfl⟩, rfl, rfl⟩
  · simp only [go_sem, ↓reduceIte]
    exact ⟨a, b, c, .inl ⟨rfl, rfl⟩, rfl, rfl⟩
theorem s_median (l : List Nat) (a b d : Nat) (c : Int) (ha : a < l.length) (hb : b < l.length) (hd : d < l.length) :
    CallOk Go.Proofs.Tryz.prog G n_slices_medianOrdered_uint64 [.own 0, .v (.int .i64 (a : Int)), .v (.int .i64 (b : Int)), .v (.int .i64 (d : Int)), .ptr 1 0] [some (.arr 1 (ul l)), some (.box [.v (.int .i64 c)])] fun r T' => ∃ (x : Nat) (c' : Int), (x = a ∨ x = b ∨ x = d) ∧ r = .v (.int .i64 (x : Int)) ∧ T' = [some (.arr 1 (ul l)), some (.box [.v (.int .i64 c')])] := by
  refine fun_okH h_slices_medianOrdered_uint64_ok (by decide) ?_
  unfold h_slices_medianOrdered_uint64
  simp only [go_sem, ↓reduceIte]
  refine call_on (subL_refl _) rfl rfl rfl (s_order2 l a b c ha hb) ?_
  rintro r T' ⟨x, y, c1, h1, rfl, rfl⟩
  simp only [go_sem, ↓reduceIte]
  refine call_on (subL_refl _) rfl rfl rfl (s_order2 l y d c1 (by omega) hd) ?_
  rintro r T' ⟨x2, y2, c2, h2, rfl, rfl⟩
  simp only [go_sem, ↓reduceIte]
  refine call_on (subL_refl _) rfl rfl rfl (s_order2 l x x2 c2 (by omega) (by omega)) ?_
  rintro r T' ⟨x3, y3, c3, h3, rfl, rfl⟩
  simp only [go_sem, ↓reduceIte]
  exact ⟨y3, c3, by omega, rfl, rfl⟩
theorem s_medianA (l : List Nat) (a : Nat) (c : Int) (h0 : 0 < a) (ha : a + 1 < l.length) (hl : l.length ≤ 1000000000) :
    CallOk Go.Proofs.Tryz.prog G n_slices_medianAdjacentOrdered_uint64 [.own 0, .v (.int .i64 (a : Int)), .ptr 1 0] [some (.arr 1 (ul l)), some (.box [.v (.int .i64 c)])] fun r T' => ∃ (x : Nat) (c' : Int), (x = a - 1 ∨ x = a ∨ x = a + 1) ∧ r = .v (.int .i64 (x : Int)) ∧ T' = [some (.arr 1 (ul l)), some (.box [.v (.int .i64 c')])] := by
  refine fun_okH h_slices_medianAdjacentOrdered_uint64_ok (by decide) ?_
  unfold h_slices_medianAdjacentOrdered_uint64
  have w1 : IntKind.i64.wrap ((a : Int) - 1) = ((a - 1 : Nat) : Int) := by rw [wrap_i64 (by omega) (by omega)]; omega
  simp only [go_sem, ↓reduceIte, w1, wrap_suc (show a < 9223372036854775807 by omega)]
  refine call_on (subL_refl _) rfl rfl rfl (s_median l (a - 1) a (a + 1) c (by omega) (by omega) ha) ?_
  rintro r T' ⟨x, c1, h1, rfl, rfl⟩
  simp only [go_sem, ↓reduceIte]
  exact ⟨x, c1, h1, rfl, rfl⟩
theorem s_choose (l : List Nat) (a b : Nat) (hab : a + 12 < b) (hb : b ≤ l.length) (hl : l.length ≤ 1000000000) :
    CallOk Go.Proofs.Tryz.prog G n_slices_choosePivotOrdered_uint64 [.own 0, .v (.int .i64 (a : Int)), .v (.int .i64 (b : Int))] [some (.arr 1 (ul l))] fun r T' => ∃ (p : Nat) (h : Int), a ≤ p ∧ p < b ∧ r = .tup [.v (.int .i64 (p : Int)), .v (.int .i64 h)] ∧ T' = [some (.arr 1 (ul l))] := by
  refine fun_okH h_slices_choosePivotOrdered_uint64_ok (by decide) ?_
  unfold h_slices_choosePivotOrdered_uint64
  have w1 : IntKind.i64.wrap ((b : Int) - (a : Int)) = ((b - a : Nat) : Int) := by rw [wrap_i64 (by omega) (by omega)]; omega
  generalize hq : (b - a) / 4 = q
  have m1 : IntKind.i64.wrap ((q : Int) * 1) = ((q : Nat) : Int) := by rw [wrap_i64 (by omega) (by omega)]; omega
  have m2 : IntKind.i64.wrap ((q : Int) * 2) = ((q * 2 : Nat) : Int) := by rw [wrap_i64 (by omega) (by omega)]; omega
  have m3 : IntKind.i64.wrap ((q : Int) * 3) = ((q * 3 : Nat) : Int) := by rw [wrap_i64 (by omega) (by omega)]; omega
  have n1 : IntKind.i64.wrap ((a : Int) + (q : Int)) = ((a + q : Nat) : Int) := by rw [wrap_i64 (by omega) (by omega)]; omega
  have n2 : IntKind.i64.wrap ((a : Int) + ((q * 2 : Nat) : Int)) = ((a + q * 2 : Nat) : Int) := by rw [wrap_i64 (by omega) (by omega)]; omega
  have n3 : IntKind.i64.wrap ((a : Int) + ((q * 3 : Nat) : Int)) = ((a + q * 3 : Nat) : Int) := by rw [wrap_i64 (by omega) (by omega)]; omega
  simp only [go_sem, ↓reduceIte, w1, quo4 (b - a) (by omega), hq, m1, m2, m3, n1, n2, n3, show decide (((b - a : Nat) : Int) ≥ 8) = true from decide_eq_true (by omega)]
  by_cases h50 : 50 ≤ b - a
  · simp only [go_sem, ↓reduceIte, show decide (((b - a : Nat) : Int) ≥ 50) = true from decide_eq_true (by omega)]
    refine call_on (subL_refl _) rfl rfl rfl (s_medianA l (a + q) 0 (by omega) (by omega) hl) ?_
    rintro r T' ⟨x1, c1, h1, rfl, rfl⟩
    have k1 : a ≤ x1 ∧ x1 < b := by omega
    clear h1
    simp only [go_sem, ↓reduceIte]
    refine call_on (subL_refl _) rfl rfl rfl (s_medianA l (a + q * 2) c1 (by omega) (by omega) hl) ?_
    rintro r T' ⟨x2, c2, h2, rfl, rfl⟩
    have k2 : a ≤ x2 ∧ x2 < b := by omega
    clear h2
    simp only [go_sem, ↓reduceIte]
    refine call_on (subL_refl _) rfl rfl rfl (s_medianA l (a + q * 3) c2 (by omega) (by omega) hl) ?_
    rintro r T' ⟨x3, c3, h3, rfl, rfl⟩
    have k3 : a ≤ x3 ∧ x3 < b := by omega
    clear h3
    simp only [go_sem, ↓reduceIte]
    refine call_on (subL_refl _) rfl rfl rfl (s_median l x1 x2 x3 c3 (by omega) (by omega) (by omega)) ?_
    rintro r T' ⟨x, c4, h4, rfl, rfl⟩
    have k4 : a ≤ x ∧ x < b := by omega
    clear h4
    simp only [go_sem, ↓reduceIte]
    refine condW_i (fun hz => ?_) (fun hz => ?_)
    · simp only [go_sem, ↓reduceIte]
      exact ⟨x, 1, k4.1, k4.2, rfl⟩
    · simp only [go_sem, ↓reduceIte]
      refine condW_i (fun hz2 => ?_) (fun hz2 => ?_)
      · simp only [go_sem, ↓reduceIte]
        exact ⟨x, 2, k4.1, k4.2, rfl⟩
      · simp only [go_sem, ↓reduceIte]
        exact ⟨x, 0, k4.1, k4.2, rfl⟩
  · simp only [go_sem, ↓reduceIte, show decide (((b - a : Nat) : Int) ≥ 50) = false from decide_eq_false (by omega)]
    refine call_on (subL_refl _) rfl rfl rfl (s_median l (a + q) (a + q * 2) (a + q * 3) 0 (by omega) (by omega) (by omega)) ?_
    rintro r T' ⟨x, c4, h4, rfl, rfl⟩
    have k4 : a ≤ x ∧ x < b := by omega
    clear h4
    simp only [go_sem, ↓reduceIte]
    refine condW_i (fun hz => ?_) (fun hz => ?_)
    · simp only [go_sem, ↓reduceIte]
      exact ⟨x, 1, k4.1, k4.2, rfl⟩
    · simp only [go_sem, ↓reduceIte]
      refine condW_i (fun hz2 => ?_) (fun hz2 => ?_)
      · simp only [go_sem, ↓reduceIte]
        exact ⟨x, 2, k4.1, k4.2, rfl⟩
      · simp only [go_sem, ↓reduceIte]
        exact ⟨x, 0, k4.1, k4.2, rfl⟩
theorem pbin_subU' (x y : Nat) (h : y ≤ x) (h2 : x < 18446744073709551616) : pbin .sub (.int .u64 (x : Int)) (.int .u64 (y : Int)) = some (.int .u64 ((x - y : Nat) : Int)) := by
  simp only [pbin, if_true]
  rw [show (x : Int) - (y : Int) = ((x - y : Nat) : Int) from by omega, u64_wrap _ (by omega)]
theorem s_break (l : List Nat) (a b : Nat) (hab : a + 12 < b) (hb : b ≤ l.length) (hl : l.length ≤ 60000) :
    CallOk Go.Proofs.Tryz.prog G n_slices_breakPatternsOrdered_uint64 [.own 0, .v (.int .i64 (a : Int)), .v (.int .i64 (b : Int))] [some (.arr 1 (ul l))] (SortPost l fun _ l' => PR a b l l') := by
  refine fun_okH h_slices_breakPatternsOrdered_uint64_ok (by decide) ?_
  unfold h_slices_breakPatternsOrdered_uint64
  have w1 : IntKind.i64.wrap ((b : Int) - (a : Int)) = ((b - a : Nat) : Int) := by rw [wrap_i64 (by omega) (by omega)]; omega
  generalize hq : (b - a) / 4 = q
  have m2 : IntKind.i64.wrap ((q : Int) * 2) = ((q * 2 : Nat) : Int) := by rw [wrap_i64 (by omega) (by omega)]; omega
  have n2 : IntKind.i64.wrap ((a : Int) + ((q * 2 : Nat) : Int)) = ((a + q * 2 : Nat) : Int) := by rw [wrap_i64 (by omega) (by omega)]; omega
  have n3 : IntKind.i64.wrap (((a + q * 2 : Nat) : Int) - 1) = ((a + q * 2 - 1 : Nat) : Int) := by rw [wrap_i64 (by omega) (by omega)]; omega
  have n4 : IntKind.i64.wrap (((a + q * 2 : Nat) : Int) + 1) = ((a + q * 2 + 1 : Nat) : Int) := wrap_suc (by omega)
  simp only [go_sem, ↓reduceIte, w1, show decide (((b - a : Nat) : Int) ≥ 8) = true from decide_eq_true (by omega)]
  refine call_post (subL_refl _) rfl (s_nextPow (b - a) (by omega) (by omega)) ?_
  rintro r T' ⟨⟨m, rfl, hm1, hm2⟩, rfl⟩
  simp only [go_sem, ↓reduceIte, quo4 (b - a) (by omega), hq, m2, n2, n3]
  refine loop_i (fun n s => ∃ (i : Nat) (l' : List Nat) (z : Int), n = a + q * 2 + 2 - i ∧ a ≤ i ∧ i ≤ a + q * 2 + 2 ∧ PR a b l l' ∧ s = ⟨1, [(0, .own 0), (1, .v (.int .i64 (a : Int))), (6, .v (.int .i64 ((b - a : Nat) : Int))), (7, .ptr 1 0), (8, .v (.int .u64 (m : Int))), (9, .v (.int .i64 (i : Int)))], [some (.arr 1 (ul l')), some (.box [.v (.int .u64 z)])]⟩) 3
    ⟨a + q * 2 - 1, l, IntKind.u64.wrap ((b - a : Nat) : Int), by omega, by omega, by omega, PR.refl a b l, by simp only [go_sem, ↓reduceIte]⟩ ?_
  rintro n s ⟨i, l1, z, hn, hai, hi, hp, rfl⟩
  have hl1 := hp.1
  by_cases hij : i ≤ a + q * 2 + 1
  · simp only [go_sem, ↓reduceIte, quo4 (b - a) (by omega), hq, m2, n2, n4, dle_t hij]
    refine call_at [1] (subL_refl _) (by decide) (by simp) rfl rfl (s_Next z) ?_
    rintro r T' ⟨z2, rfl, rfl⟩
    have v1 : IntKind.u64.wrap ((m : Int) - 1) = ((m - 1 : Nat) : Int) := by rw [show (m : Int) - 1 = ((m - 1 : Nat) : Int) by omega, u64_wrap _ (by omega)]
    obtain ⟨o, ho, hpo⟩ := pbin_andLe z2 (m - 1) (by omega)
    have sb : pbin .sub (.int .u64 (m : Int)) (.int .u64 1) = some (.int .u64 ((m - 1 : Nat) : Int)) := pbin_subU' m 1 (by omega) (by omega)
    have v2 := wrap_nat (show o ≤ 9223372036854775807 by omega)
    simp only [↓sb, ↓hpo, go_sem, ↓reduceIte, v2]
    by_cases hob : b - a ≤ o
    · have v3 : IntKind.i64.wrap ((o : Int) - ((b - a : Nat) : Int)) = ((o - (b - a) : Nat) : Int) := by rw [wrap_i64 (by omega) (by omega)]; omega
      simp only [go_sem, ↓reduceIte, dge_t hob, v3]
      have v4 : IntKind.i64.wrap ((a : Int) + ((o - (b - a) : Nat) : Int)) = ((a + (o - (b - a)) : Nat) : Int) := by rw [wrap_i64 (by omega) (by omega)]; omega
      have hj : a + (o - (b - a)) < b := by omega
      have hja : a ≤ a + (o - (b - a)) := by omega
      generalize a + (o - (b - a)) = j at *
      have g1 := ul_get l1 i (by omega)
      have g2 := ul_get l1 j (by omega)
      obtain ⟨y, g3⟩ := ul_sg l1 i j (.int .u64 ((l1.getD j 0 : Nat) : Int)) (by omega)
      simp only [go_sem, ↓reduceIte, v4, List.length_map, List.length_set, show i < l1.length by omega, show j < l1.length by omega, g1, g2, g3, ul_swap, wrap_suc (show i < 9223372036854775807 by omega)]
      exact ⟨a + q * 2 + 2 - (i + 1), by omega, i + 1, _, z2, rfl, by omega, by omega, hp.trans (swapN_pr (by omega) (by omega) (by omega) (by omega) (by omega)), rfl⟩
    · simp only [go_sem, ↓reduceIte, dge_f (Nat.lt_of_not_le hob)]
      have v4 : IntKind.i64.wrap ((a : Int) + (o : Int)) = ((a + o : Nat) : Int) := by rw [wrap_i64 (by omega) (by omega)]; omega
      have hj : a + o < b := by omega
      have hja : a ≤ a + o := by omega
      generalize a + o = j at *
      have g1 := ul_get l1 i (by omega)
      have g2 := ul_get l1 j (by omega)
      obtain ⟨y, g3⟩ := ul_sg l1 i j (.int .u64 ((l1.getD j 0 : Nat) : Int)) (by omega)
      simp only [go_sem, ↓reduceIte, v4, List.length_map, List.length_set, show i < l1.length by omega, show j < l1.length by omega, g1, g2, g3, ul_swap, wrap_suc (show i < 9223372036854775807 by omega)]
      exact ⟨a + q * 2 + 2 - (i + 1), by omega, i + 1, _, z2, rfl, by omega, by omega, hp.trans (swapN_pr (by omega) (by omega) (by omega) (by omega) (by omega)), rfl⟩
  · simp only [go_sem, ↓reduceIte, quo4 (b - a) (by omega), hq, m2, n2, n4, dle_f (Nat.lt_of_not_le hij)]
    exact ⟨l1, hp, rfl⟩
end
end Hud
end
