import Derived.Test.YtialbdgcgiaebaaGreatLib15
set_option linter.all false
section
namespace Hud
open Go
def Pt (a b i j : Nat) (l : List Nat) : Prop := a < i ∧ i ≤ j + 1 ∧ a ≤ j ∧ j < b ∧ (∀ k, a < k → k < i → l.getD k 0 ≤ l.getD a 0) ∧ ∀ k, j < k → k < b → l.getD a 0 ≤ l.getD k 0
def PtPost (a b j : Nat) (l : List Nat) : Prop := a ≤ j ∧ j < b ∧ (∀ k, a ≤ k → k < j → l.getD k 0 ≤ l.getD j 0) ∧ ∀ k, j < k → k < b → l.getD j 0 ≤ l.getD k 0
theorem pt_swap {a b i j : Nat} {l : List Nat} (hb : b ≤ l.length) (h : Pt a b i j l) (hij : i ≤ j) (h1 : l.getD a 0 ≤ l.getD i 0) (h2 : l.getD j 0 < l.getD a 0) : i < j ∧ Pt a b (i + 1) (j - 1) (swapN l i j) := by
  obtain ⟨p1, p2, p3, p4, p5, p6⟩ := h
  have hne : i ≠ j := fun e => by subst e; omega
  have hg := swapN_get l i j (by omega) (by omega)
  refine ⟨by omega, by omega, by omega, by omega, by omega, fun k k1 k2 => ?_, fun k k1 k2 => ?_⟩
  · rw [hg, hg, if_neg (show ¬ a = j by omega), if_neg (show ¬ a = i by omega), if_neg (show ¬ k = j by omega)]
    by_cases hk : k = i
    · rw [if_pos hk]; omega
    · rw [if_neg hk]; exact p5 k k1 (by omega)
  · rw [hg, hg, if_neg (show ¬ a = j by omega), if_neg (show ¬ a = i by omega), if_neg (show ¬ k = i by omega)]
    by_cases hk : k = j
    · rw [if_pos hk]; omega
    · rw [if_neg hk]; exact p6 k (by omega) k2
theorem pt_end {a b i j : Nat} {l : List Nat} (hb : b ≤ l.length) (h : Pt a b i j l) (hij : j < i) : PtPost a b j (swapN l j a) := by
  obtain ⟨p1, p2, p3, p4, p5, p6⟩ := h
  have hg := swapN_get l j a (by omega) (by omega)
  have hj : (swapN l j a).getD j 0 = l.getD a 0 := by
    rw [hg]
    by_cases e : j = a
    · rw [if_pos e, e]
    · rw [if_neg e, if_pos rfl]
  refine ⟨p3, p4, fun k k1 k2 => ?_, fun k k1 k2 => ?_⟩
  · rw [hj, hg]
    by_cases hk : k = a
    · rw [if_pos hk]; exact p5 j (by omega) hij
    · rw [if_neg hk, if_neg (by omega)]; exact p5 k (by omega) (by omega)
  · rw [hj, hg, if_neg (by omega), if_neg (by omega)]; exact p6 k k1 k2
section
variable {G : Nat → Option (List AV)}
set_option maxHeartbeats 2000000
theorem s_part (l : List Nat) (a b p : Nat) (hap : a ≤ p) (hpb : p < b) (hb : b ≤ l.length) (hl : l.length ≤ 1000000000) :
    CallOk Go.Proofs.Tryz.prog G n_slices_partitionOrdered_uint64 [.own 0, .v (.int .i64 (a : Int)), .v (.int .i64 (b : Int)), .v (.int .i64 (p : Int))] [some (.arr 1 (ul l))] (SortPost l fun r l' => ∃ (j : Nat) (f : Bool), r = .tup [.v (.int .i64 (j : Int)), .v (.bool f)] ∧ PR a b l l' ∧ PtPost a b j l') := by
  refine fun_okH h_slices_partitionOrdered_uint64_ok (by decide) ?_
  unfold h_slices_partitionOrdered_uint64
  have g1 := ul_get l a (by omega)
  have g2 := ul_get l p (by omega)
  obtain ⟨y, g3⟩ := ul_sg l a p (.int .u64 ((l.getD p 0 : Nat) : Int)) (by omega)
  have w1 : IntKind.i64.wrap ((b : Int) - 1) = ((b - 1 : Nat) : Int) := by rw [wrap_i64 (by omega) (by omega)]; omega
  simp only [go_sem, ↓reduceIte, List.length_map, List.length_set, show a < l.length by omega, show p < l.length by omega, g1, g2, g3, ul_swap, w1, wrap_suc (show a < 9223372036854775807 by omega)]
  have hp0 : PR a b l (swapN l a p) := swapN_pr (by omega) (by omega) (by omega) (by omega) (by omega)
  generalize swapN l a p = l1 at hp0
  have hl1 := hp0.1
  clear g1 g2 g3
  have gx := ul_get l1 a (by omega)
  refine cut_block (fun s => ∃ i : Nat, (a + 1) ≤ i ∧ Pt a b i (b - 1) l1 ∧ ((b - 1) < i ∨ l1.getD a 0 ≤ l1.getD i 0) ∧ s = ⟨1, [(0, .own 0), (1, .v (.int .i64 (a : Int))), (10, .v (.int .i64 ((i : Nat) : Int))), (11, .v (.int .i64 (((b - 1) : Nat) : Int)))], [some (.arr 1 (ul l1))]⟩) ?_ ?_
  · refine loop_i (fun n s => ∃ i : Nat, n = b + 1 - i ∧ (a + 1) ≤ i ∧ Pt a b i (b - 1) l1 ∧ s = ⟨1, [(0, .own 0), (1, .v (.int .i64 (a : Int))), (10, .v (.int .i64 ((i : Nat) : Int))), (11, .v (.int .i64 (((b - 1) : Nat) : Int)))], [some (.arr 1 (ul l1))]⟩) (b + 1 - (a + 1))
      ⟨(a + 1), rfl, Nat.le_refl _, ⟨by omega, by omega, by omega, by omega, fun k k1 k2 => by omega, fun k k1 k2 => by omega⟩, by simp only [go_sem, ↓reduceIte]⟩ ?_
    rintro n s ⟨i, hn, hii, hpt, rfl⟩
    obtain ⟨p1, p2, p3, p4, p5, p6⟩ := id hpt
    by_cases hij : i ≤ (b - 1)
    · have gi := ul_get l1 i (by omega)
      simp only [go_sem, ↓reduceIte, dle_t hij, List.length_map, show a < l1.length by omega, show i < l1.length by omega, gx, gi]
      refine call_pure (subL_refl _) rfl (s_Less _ _) rfl ?_
      simp only [go_sem, ↓reduceIte, dle_t hij, List.length_map, show a < l1.length by omega, show i < l1.length by omega, gx, gi]
      refine condW_i (fun hc => ?_) (fun hc => ?_)
      · have hlt : l1.getD i 0 < l1.getD a 0 := by simpa using hc
        simp only [go_sem, ↓reduceIte, wrap_suc (show i < 9223372036854775807 by omega)]
        refine ⟨b + 1 - (i + 1), by omega, i + 1, rfl, by omega, ⟨by omega, by omega, p3, p4, fun k k1 k2 => ?_, p6⟩, rfl⟩
        by_cases hk : k = i
        · subst hk; omega
        · exact p5 k k1 (by omega)
      · have hlt : l1.getD a 0 ≤ l1.getD i 0 := by simpa using hc
        simp only [go_sem, ↓reduceIte]
        exact ⟨i, hii, hpt, .inr hlt, rfl⟩
    · simp only [go_sem, ↓reduceIte, dle_f (Nat.lt_of_not_le hij)]
      exact ⟨i, hii, hpt, .inl (by omega), rfl⟩
  rintro s ⟨i, hii, hpt, hei, rfl⟩
  simp only [go_sem, ↓reduceIte]
  refine cut_block (fun s => ∃ j : Nat, j ≤ (b - 1) ∧ Pt a b i j l1 ∧ (j < i ∨ l1.getD j 0 < l1.getD a 0) ∧ s = ⟨1, [(0, .own 0), (1, .v (.int .i64 (a : Int))), (10, .v (.int .i64 ((i : Nat) : Int))), (11, .v (.int .i64 ((j : Nat) : Int)))], [some (.arr 1 (ul l1))]⟩) ?_ ?_
  · refine loop_i (fun n s => ∃ j : Nat, n = j ∧ j ≤ (b - 1) ∧ Pt a b i j l1 ∧ s = ⟨1, [(0, .own 0), (1, .v (.int .i64 (a : Int))), (10, .v (.int .i64 ((i : Nat) : Int))), (11, .v (.int .i64 ((j : Nat) : Int)))], [some (.arr 1 (ul l1))]⟩) ((b - 1))
      ⟨(b - 1), rfl, Nat.le_refl _, hpt, by simp only [go_sem, ↓reduceIte]⟩ ?_
    rintro n s ⟨j, hn, hjj, hpt, rfl⟩
    obtain ⟨p1, p2, p3, p4, p5, p6⟩ := id hpt
    by_cases hij : i ≤ j
    · have gj := ul_get l1 j (by omega)
      have wj : IntKind.i64.wrap ((j : Int) - 1) = ((j - 1 : Nat) : Int) := by rw [wrap_i64 (by omega) (by omega)]; omega
      simp only [go_sem, ↓reduceIte, dle_t hij, List.length_map, show a < l1.length by omega, show j < l1.length by omega, gx, gj]
      refine call_pure (subL_refl _) rfl (s_Less _ _) rfl ?_
      simp only [go_sem, ↓reduceIte, dle_t hij, List.length_map, show a < l1.length by omega, show j < l1.length by omega, gx, gj]
      refine condW_i (fun hc => ?_) (fun hc => ?_)
      · have hlt : l1.getD a 0 ≤ l1.getD j 0 := by simpa using hc
        simp only [go_sem, ↓reduceIte, wj]
        refine ⟨j - 1, by omega, j - 1, rfl, by omega, ⟨by omega, by omega, by omega, by omega, p5, fun k k1 k2 => ?_⟩, rfl⟩
        by_cases hk : k = j
        · subst hk; exact hlt
        · exact p6 k (by omega) k2
      · have hlt : l1.getD j 0 < l1.getD a 0 := by simpa using hc
        simp only [go_sem, ↓reduceIte]
        exact ⟨j, hjj, hpt, .inr hlt, rfl⟩
    · simp only [go_sem, ↓reduceIte, dle_f (Nat.lt_of_not_le hij)]
      exact ⟨j, hjj, hpt, .inl (by omega), rfl⟩
  rintro s ⟨j, hjj, hpt, hej, rfl⟩
  simp only [go_sem, ↓reduceIte]
  by_cases hij : j < i
  · skip
    have q1 := ul_get l1 j (by have := hpt.2.2.2.1; omega)
    obtain ⟨y2, q3⟩ := ul_sg l1 j a (.int .u64 ((l1.getD a 0 : Nat) : Int)) (by omega)
    simp only [go_sem, ↓reduceIte, dgt_t hij, List.length_map, List.length_set, show a < l1.length by omega, show j < l1.length by have := hpt.2.2.2.1; omega, gx, q1, q3, ul_swap]
    have k1 := hpt.2.2.1
    have k2 := hpt.2.2.2.1
    exact ⟨_, ⟨j, true, rfl, hp0.trans (swapN_pr (by omega) (by omega) (by omega) (by omega) (by omega)), pt_end (by omega) hpt hij⟩, rfl⟩
  · skip
    obtain ⟨p1, p2, p3, p4, p5, p6⟩ := id hpt
    have hei' : l1.getD a 0 ≤ l1.getD i 0 := hei.resolve_left (by omega)
    have hej' : l1.getD j 0 < l1.getD a 0 := hej.resolve_left hij
    have hps := pt_swap (by omega) hpt (by omega) hei' hej'
    have q1 := ul_get l1 i (by omega)
    have q2 := ul_get l1 j (by omega)
    obtain ⟨y2, q3⟩ := ul_sg l1 i j (.int .u64 ((l1.getD j 0 : Nat) : Int)) (by omega)
    have wj : IntKind.i64.wrap ((j : Int) - 1) = ((j - 1 : Nat) : Int) := by rw [wrap_i64 (by omega) (by omega)]; omega
    simp only [go_sem, ↓reduceIte, dgt_f (Nat.le_of_not_lt hij), List.length_map, List.length_set, show i < l1.length by omega, show j < l1.length by omega, q1, q2, q3, ul_swap, wj, wrap_suc (show i < 9223372036854775807 by omega)]
    have hpsw : PR a b l1 (swapN l1 i j) := swapN_pr (by omega) (by omega) (by omega) (by omega) (by omega)
    refine loop_i (fun n s => ∃ (i j : Nat) (l2 : List Nat), n = j + 1 - i ∧ PR a b l l2 ∧ Pt a b i j l2 ∧ s = ⟨1, [(0, .own 0), (1, .v (.int .i64 (a : Int))), (10, .v (.int .i64 ((i : Nat) : Int))), (11, .v (.int .i64 ((j : Nat) : Int)))], [some (.arr 1 (ul l2))]⟩) (j - 1 + 1 - (i + 1))
      ⟨i + 1, j - 1, _, rfl, hp0.trans hpsw, hps.2, by simp only [go_sem, ↓reduceIte]⟩ ?_
    rintro n s ⟨i0, j0, l2, hn, hp2, hpt, rfl⟩
    have hl2 := hp2.1
    have gx := ul_get l2 a (by omega)
    simp only [go_sem, ↓reduceIte]
    refine cut_block (fun s => ∃ i : Nat, i0 ≤ i ∧ Pt a b i j0 l2 ∧ (j0 < i ∨ l2.getD a 0 ≤ l2.getD i 0) ∧ s = ⟨1, [(0, .own 0), (1, .v (.int .i64 (a : Int))), (10, .v (.int .i64 ((i : Nat) : Int))), (11, .v (.int .i64 ((j0 : Nat) : Int)))], [some (.arr 1 (ul l2))]⟩) ?_ ?_
    · refine loop_i (fun n s => ∃ i : Nat, n = b + 1 - i ∧ i0 ≤ i ∧ Pt a b i j0 l2 ∧ s = ⟨1, [(0, .own 0), (1, .v (.int .i64 (a : Int))), (10, .v (.int .i64 ((i : Nat) : Int))), (11, .v (.int .i64 ((j0 : Nat) : Int)))], [some (.arr 1 (ul l2))]⟩) (b + 1 - i0)
        ⟨i0, rfl, Nat.le_refl _, hpt, by simp only [go_sem, ↓reduceIte]⟩ ?_
      rintro n s ⟨i, hn, hii, hpt, rfl⟩
      obtain ⟨p1, p2, p3, p4, p5, p6⟩ := id hpt
      by_cases hij : i ≤ j0
      · have gi := ul_get l2 i (by omega)
        simp only [go_sem, ↓reduceIte, dle_t hij, List.length_map, show a < l2.length by omega, show i < l2.length by omega, gx, gi]
        refine call_pure (subL_refl _) rfl (s_Less _ _) rfl ?_
        simp only [go_sem, ↓reduceIte, dle_t hij, List.length_map, show a < l2.length by omega, show i < l2.length by omega, gx, gi]
        refine condW_i (fun hc => ?_) (fun hc => ?_)
        · have hlt : l2.getD i 0 < l2.getD a 0 := by simpa using hc
          simp only [go_sem, ↓reduceIte, wrap_suc (show i < 9223372036854775807 by omega)]
          refine ⟨b + 1 - (i + 1), by omega, i + 1, rfl, by omega, ⟨by omega, by omega, p3, p4, fun k k1 k2 => ?_, p6⟩, rfl⟩
          by_cases hk : k = i
          · subst hk; omega
          · exact p5 k k1 (by omega)
        · have hlt : l2.getD a 0 ≤ l2.getD i 0 := by simpa using hc
          simp only [go_sem, ↓reduceIte]
          exact ⟨i, hii, hpt, .inr hlt, rfl⟩
      · simp only [go_sem, ↓reduceIte, dle_f (Nat.lt_of_not_le hij)]
        exact ⟨i, hii, hpt, .inl (by omega), rfl⟩
    rintro s ⟨i, hii, hpt, hei, rfl⟩
    simp only [go_sem, ↓reduceIte]
    refine cut_block (fun s => ∃ j : Nat, j ≤ j0 ∧ Pt a b i j l2 ∧ (j < i ∨ l2.getD j 0 < l2.getD a 0) ∧ s = ⟨1, [(0, .own 0), (1, .v (.int .i64 (a : Int))), (10, .v (.int .i64 ((i : Nat) : Int))), (11, .v (.int .i64 ((j : Nat) : Int)))], [some (.arr 1 (ul l2))]⟩) ?_ ?_
    · refine loop_i (fun n s => ∃ j : Nat, n = j ∧ j ≤ j0 ∧ Pt a b i j l2 ∧ s = ⟨1, [(0, .own 0), (1, .v (.int .i64 (a : Int))), (10, .v (.int .i64 ((i : Nat) : Int))), (11, .v (.int .i64 ((j : Nat) : Int)))], [some (.arr 1 (ul l2))]⟩) (j0)
        ⟨j0, rfl, Nat.le_refl _, hpt, by simp only [go_sem, ↓reduceIte]⟩ ?_
      rintro n s ⟨j, hn, hjj, hpt, rfl⟩
      obtain ⟨p1, p2, p3, p4, p5, p6⟩ := id hpt
      by_cases hij : i ≤ j
      · have gj := ul_get l2 j (by omega)
        have wj : IntKind.i64.wrap ((j : Int) - 1) = ((j - 1 : Nat) : Int) := by rw [wrap_i64 (by omega) (by omega)]; omega
        simp only [go_sem, ↓reduceIte, dle_t hij, List.length_map, show a < l2.length by omega, show j < l2.length by omega, gx, gj]
        refine call_pure (subL_refl _) rfl (s_Less _ _) rfl ?_
        simp only [go_sem, ↓reduceIte, dle_t hij, List.length_map, show a < l2.length by omega, show j < l2.length by omega, gx, gj]
        refine condW_i (fun hc => ?_) (fun hc => ?_)
        · have hlt : l2.getD a 0 ≤ l2.getD j 0 := by simpa using hc
          simp only [go_sem, ↓reduceIte, wj]
          refine ⟨j - 1, by omega, j - 1, rfl, by omega, ⟨by omega, by omega, by omega, by omega, p5, fun k k1 k2 => ?_⟩, rfl⟩
          by_cases hk : k = j
          · subst hk; exact hlt
          · exact p6 k (by omega) k2
        · have hlt : l2.getD j 0 < l2.getD a 0 := by simpa using hc
          simp only [go_sem, ↓reduceIte]
          exact ⟨j, hjj, hpt, .inr hlt, rfl⟩
      · simp only [go_sem, ↓reduceIte, dle_f (Nat.lt_of_not_le hij)]
        exact ⟨j, hjj, hpt, .inl (by omega), rfl⟩
    rintro s ⟨j, hjj, hpt, hej, rfl⟩
    simp only [go_sem, ↓reduceIte]
    by_cases hij : j < i
    · skip
      have q1 := ul_get l2 j (by have := hpt.2.2.2.1; omega)
      obtain ⟨y2, q3⟩ := ul_sg l2 j a (.int .u64 ((l2.getD a 0 : Nat) : Int)) (by omega)
      simp only [go_sem, ↓reduceIte, dgt_t hij, List.length_map, List.length_set, show a < l2.length by omega, show j < l2.length by have := hpt.2.2.2.1; omega, gx, q1, q3, ul_swap]
      have k1 := hpt.2.2.1
      have k2 := hpt.2.2.2.1
      exact ⟨_, ⟨j, false, rfl, hp2.trans (swapN_pr (by omega) (by omega) (by omega) (by omega) (by omega)), pt_end (by omega) hpt hij⟩, rfl⟩
    · skip
      obtain ⟨p1, p2, p3, p4, p5, p6⟩ := id hpt
      have hei' : l2.getD a 0 ≤ l2.getD i 0 := hei.resolve_left (by omega)
      have hej' : l2.getD j 0 < l2.getD a 0 := hej.resolve_left hij
      have hps := pt_swap (by omega) hpt (by omega) hei' hej'
      have q1 := ul_get l2 i (by omega)
      have q2 := ul_get l2 j (by omega)
      obtain ⟨y2, q3⟩ := ul_sg l2 i j (.int .u64 ((l2.getD j 0 : Nat) : Int)) (by omega)
      have wj : IntKind.i64.wrap ((j : Int) - 1) = ((j - 1 : Nat) : Int) := by rw [wrap_i64 (by omega) (by omega)]; omega
      simp only [go_sem, ↓reduceIte, dgt_f (Nat.le_of_not_lt hij), List.length_map, List.length_set, show i < l2.length by omega, show j < l2.length by omega, q1, q2, q3, ul_swap, wj, wrap_suc (show i < 9223372036854775807 by omega)]
      have hpsw : PR a b l2 (swapN l2 i j) := swapN_pr (by omega) (by omega) (by omega) (by omega) (by omega)
      exact ⟨j - 1 + 1 - (i + 1), by omega, i + 1, j - 1, _, rfl, hp2.trans hpsw, hps.2, rfl⟩
end
end Hud
end
section
namespace Hud
open Go
def Pe (a b i j : Nat) (l : List Nat) : Prop := a < i ∧ i ≤ j + 1 ∧ a ≤ j ∧ j < b ∧ (∀ k, a < k → k < i → l.getD k 0 ≤ l.getD a 0) ∧ ∀ k, j < k → k < b → l.getD a 0 < l.getD k 0
theorem pe_swap {a b i j : Nat} {l : List Nat} (hb : b ≤ l.length) (h : Pe a b i j l) (hij : i ≤ j) (h1 : l.getD a 0 < l.getD i 0) (h2 : l.getD j 0 ≤ l.getD a 0) : i < j ∧ Pe a b (i + 1) (j - 1) (swapN l i j) ∧ (swapN l i j).getD a 0 = l.getD a 0 := by
  obtain ⟨p1, p2, p3, p4, p5, p6⟩ := h
  have hne : i ≠ j := fun e => by subst e; omega
  have hg := swapN_get l i j (by omega) (by omega)
  have hga : (swapN l i j).getD a 0 = l.getD a 0 := by rw [hg, if_neg (show ¬ a = j by omega), if_neg (show ¬ a = i by omega)]
  refine ⟨by omega, ⟨by omega, by omega, by omega, by omega, fun k k1 k2 => ?_, fun k k1 k2 => ?_⟩, hga⟩
  · rw [hga, hg, if_neg (show ¬ k = j by omega)]
    by_cases hk : k = i
    · rw [if_pos hk]; omega
    · rw [if_neg hk]; exact p5 k k1 (by omega)
  · rw [hga, hg, if_neg (show ¬ k = i by omega)]
    by_cases hk : k = j
    · rw [if_pos hk]; omega
    · rw [if_neg hk]; exact p6 k (by omega) k2
section
variable {G : Nat → Option (List AV)}
set_option maxHeartbeats 2000000
theorem s_partEq (l : List Nat) (a b p : Nat) (hap : a ≤ p) (hpb : p < b) (hb : b ≤ l.length) (hl : l.length ≤ 1000000000) :
    CallOk Go.Proofs.Tryz.prog G n_slices_partitionEqualOrdered_uint64 [.own 0, .v (.int .i64 (a : Int)), .v (.int .i64 (b : Int)), .v (.int .i64 (p : Int))] [some (.arr 1 (ul l))] (SortPost l fun r l' => ∃ i : Nat, r = .v (.int .i64 (i : Int)) ∧ PR a b l l' ∧ a < i ∧ i ≤ b ∧ (∀ k, a ≤ k → k < i → l'.getD k 0 ≤ l.getD p 0) ∧ ∀ k, i ≤ k → k < b → l.getD p 0 < l'.getD k 0) := by
  refine fun_okH h_slices_partitionEqualOrdered_uint64_ok (by decide) ?_
  unfold h_slices_partitionEqualOrdered_uint64
  have g1 := ul_get l a (by omega)
  have g2 := ul_get l p (by omega)
  obtain ⟨y, g3⟩ := ul_sg l a p (.int .u64 ((l.getD p 0 : Nat) : Int)) (by omega)
  have w1 : IntKind.i64.wrap ((b : Int) - 1) = ((b - 1 : Nat) : Int) := by rw [wrap_i64 (by omega) (by omega)]; omega
  simp only [go_sem, ↓reduceIte, List.length_map, List.length_set, show a < l.length by omega, show p < l.length by omega, g1, g2, g3, ul_swap, w1, wrap_suc (show a < 9223372036854775807 by omega)]
  have hp0 : PR a b l (swapN l a p) := swapN_pr (by omega) (by omega) (by omega) (by omega) (by omega)
  have hv0 : (swapN l a p).getD a 0 = l.getD p 0 := by
    rw [swapN_get l a p (by omega) (by omega)]
    by_cases e : a = p
    · rw [if_pos e, e]
    · rw [if_neg e, if_pos rfl]
  generalize swapN l a p = l1 at hp0 hv0
  have hl1 := hp0.1
  clear g1 g2 g3
  refine loop_i (fun n s => ∃ (i j : Nat) (l2 : List Nat), n = j + 1 - i ∧ PR a b l l2 ∧ l2.getD a 0 = l.getD p 0 ∧ Pe a b i j l2 ∧ s = ⟨1, [(0, .own 0), (1, .v (.int .i64 (a : Int))), (9, .v (.int .i64 ((i : Nat) : Int))), (10, .v (.int .i64 ((j : Nat) : Int)))], [some (.arr 1 (ul l2))]⟩) (b - 1 + 1 - (a + 1))
    ⟨a + 1, b - 1, _, rfl, hp0, hv0, ⟨by omega, by omega, by omega, by omega, fun k k1 k2 => by omega, fun k k1 k2 => by omega⟩, by simp only [go_sem, ↓reduceIte]⟩ ?_
  rintro n s ⟨i0, j0, l2, hn, hp2, hv2, hpt, rfl⟩
  have hl2 := hp2.1
  have gx := ul_get l2 a (by omega)
  simp only [go_sem, ↓reduceIte]
  refine cut_block (fun s => ∃ i : Nat, i0 ≤ i ∧ Pe a b i j0 l2 ∧ (j0 < i ∨ l2.getD a 0 < l2.getD i 0) ∧ s = ⟨1, [(0, .own 0), (1, .v (.int .i64 (a : Int))), (9, .v (.int .i64 ((i : Nat) : Int))), (10, .v (.int .i64 ((j0 : Nat) : Int)))], [some (.arr 1 (ul l2))]⟩) ?_ ?_
  · refine loop_i (fun n s => ∃ i : Nat, n = b + 1 - i ∧ i0 ≤ i ∧ Pe a b i j0 l2 ∧ s = ⟨1, [(0, .own 0), (1, .v (.int .i64 (a : Int))), (9, .v (.int .i64 ((i : Nat) : Int))), (10, .v (.int .i64 ((j0 : Nat) : Int)))], [some (.arr 1 (ul l2))]⟩) (b + 1 - i0)
      ⟨i0, rfl, Nat.le_refl _, hpt, by simp only [go_sem, ↓reduceIte]⟩ ?_
    rintro n s ⟨i, hn, hii, hpt, rfl⟩
    obtain ⟨p1, p2, p3, p4, p5, p6⟩ := id hpt
    by_cases hij : i ≤ j0
    · have gi := ul_get l2 i (by omega)
      simp only [go_sem, ↓reduceIte, dle_t hij, List.length_map, show a < l2.length by omega, show i < l2.length by omega, gx, gi]
      refine call_pure (subL_refl _) rfl (s_Less _ _) rfl ?_
      simp only [go_sem, ↓reduceIte, dle_t hij, List.length_map, show a < l2.length by omega, show i < l2.length by omega, gx, gi]
      refine condW_i (fun hc => ?_) (fun hc => ?_)
      · have hlt : l2.getD i 0 ≤ l2.getD a 0 := by simpa using hc
        simp only [go_sem, ↓reduceIte, wrap_suc (show i < 9223372036854775807 by omega)]
        refine ⟨b + 1 - (i + 1), by omega, i + 1, rfl, by omega, ⟨by omega, by omega, p3, p4, fun k k1 k2 => ?_, p6⟩, rfl⟩
        by_cases hk : k = i
        · subst hk; omega
        · exact p5 k k1 (by omega)
      · have hlt : l2.getD a 0 < l2.getD i 0 := by simpa using hc
        simp only [go_sem, ↓reduceIte]
        exact ⟨i, hii, hpt, .inr hlt, rfl⟩
    · simp only [go_sem, ↓reduceIte, dle_f (Nat.lt_of_not_le hij)]
      exact ⟨i, hii, hpt, .inl (by omega), rfl⟩
  rintro s ⟨i, hii, hpt, hei, rfl⟩
  simp only [go_sem, ↓reduceIte]
  refine cut_block (fun s => ∃ j : Nat, j ≤ j0 ∧ Pe a b i j l2 ∧ (j < i ∨ l2.getD j 0 ≤ l2.getD a 0) ∧ s = ⟨1, [(0, .own 0), (1, .v (.int .i64 (a : Int))), (9, .v (.int .i64 ((i : Nat) : Int))), (10, .v (.int .i64 ((j : Nat) : Int)))], [some (.arr 1 (ul l2))]⟩) ?_ ?_
  · refine loop_i (fun n s => ∃ j : Nat, n = j ∧ j ≤ j0 ∧ Pe a b i j l2 ∧ s = ⟨1, [(0, .own 0), (1, .v (.int .i64 (a : Int))), (9, .v (.int .i64 ((i : Nat) : Int))), (10, .v (.int .i64 ((j : Nat) : Int)))], [some (.arr 1 (ul l2))]⟩) (j0)
      ⟨j0, rfl, Nat.le_refl _, hpt, by simp only [go_sem, ↓reduceIte]⟩ ?_
    rintro n s ⟨j, hn, hjj, hpt, rfl⟩
    obtain ⟨p1, p2, p3, p4, p5, p6⟩ := id hpt
    by_cases hij : i ≤ j
    · have gj := ul_get l2 j (by omega)
      have wj : IntKind.i64.wrap ((j : Int) - 1) = ((j - 1 : Nat) : Int) := by rw [wrap_i64 (by omega) (by omega)]; omega
      simp only [go_sem, ↓reduceIte, dle_t hij, List.length_map, show a < l2.length by omega, show j < l2.length by omega, gx, gj]
      refine call_pure (subL_refl _) rfl (s_Less _ _) rfl ?_
      simp only [go_sem, ↓reduceIte, dle_t hij, List.length_map, show a < l2.length by omega, show j < l2.length by omega, gx, gj]
      refine condW_i (fun hc => ?_) (fun hc => ?_)
      · have hlt : l2.getD a 0 < l2.getD j 0 := by simpa using hc
        simp only [go_sem, ↓reduceIte, wj]
        refine ⟨j - 1, by omega, j - 1, rfl, by omega, ⟨by omega, by omega, by omega, by omega, p5, fun k k1 k2 => ?_⟩, rfl⟩
        by_cases hk : k = j
        · subst hk; exact hlt
        · exact p6 k (by omega) k2
      · have hlt : l2.getD j 0 ≤ l2.getD a 0 := by simpa using hc
        simp only [go_sem, ↓reduceIte]
        exact ⟨j, hjj, hpt, .inr hlt, rfl⟩
    · simp only [go_sem, ↓reduceIte, dle_f (Nat.lt_of_not_le hij)]
      exact ⟨j, hjj, hpt, .inl (by omega), rfl⟩
  rintro s ⟨j, hjj, hpt, hej, rfl⟩
  simp only [go_sem, ↓reduceIte]
  by_cases hij : j < i
  · simp only [go_sem, ↓reduceIte, dgt_t hij]
    obtain ⟨p1, p2, p3, p4, p5, p6⟩ := id hpt
    refine ⟨l2, ⟨i, rfl, hp2, p1, by omega, fun k k1 k2 => ?_, fun k k1 k2 => ?_⟩, rfl⟩
    · rw [← hv2]
      by_cases hk : k = a
      · rw [hk]; exact Nat.le_refl _
      · exact p5 k (by omega) k2
    · rw [← hv2]; exact p6 k (by omega) k2
  · skip
    obtain ⟨p1, p2, p3, p4, p5, p6⟩ := id hpt
    have hei' : l2.getD a 0 < l2.getD i 0 := hei.resolve_left (by omega)
    have hej' : l2.getD j 0 ≤ l2.getD a 0 := hej.resolve_left hij
    have hps := pe_swap (by omega) hpt (by omega) hei' hej'
    have q1 := ul_get l2 i (by omega)
    have q2 := ul_get l2 j (by omega)
    obtain ⟨y2, q3⟩ := ul_sg l2 i j (.int .u64 ((l2.getD j 0 : Nat) : Int)) (by omega)
    have wj : IntKind.i64.wrap ((j : Int) - 1) = ((j - 1 : Nat) : Int) := by rw [wrap_i64 (by omega) (by omega)]; omega
    simp only [go_sem, ↓reduceIte, dgt_f (Nat.le_of_not_lt hij), List.length_map, List.length_set, show i < l2.length by omega, show j < l2.length by omega, q1, q2, q3, ul_swap, wj, wrap_suc (show i < 9223372036854775807 by omega)]
    have hpsw : PR a b l2 (swapN l2 i j) := swapN_pr (by omega) (by omega) (by omega) (by omega) (by omega)
    exact ⟨j - 1 + 1 - (i + 1), by omega, i + 1, j - 1, _, rfl, hp2.trans hpsw, by rw [hps.2.2, hv2], hps.2.1, rfl⟩
end
end Hud
end
section
namespace Hud
open Go
section
variable {G : Nat → Option (List AV)}
set_option maxHeartbeats 2000000
theorem s_partial (l : List Nat) (a b : Nat) (hab : a + 12 < b) (hb : b ≤ l.length) (hl : l.length ≤ 1000000000) (hpre : Pre a b l) :
    CallOk Go.Proofs.Tryz.prog G n_slices_partialInsertionSortOrdered_uint64 [.own 0, .v (.int .i64 (a : Int)), .v (.int .i64 (b : Int))] [some (.arr 1 (ul l))] (SortPost l fun r l' => ∃ f : Bool, r = .v (.bool f) ∧ PR a b l l' ∧ (f = true → SR a b l')) := by
  refine fun_okH h_slices_partialInsertionSortOrdered_uint64_ok (by decide) ?_
  unfold h_slices_partialInsertionSortOrdered_uint64
  simp only [go_sem, ↓reduceIte, wrap_suc (show a < 9223372036854775807 by omega)]
  refine loop_i (fun n s => ∃ (m i : Nat) (l1 : List Nat), n = 5 - m ∧ m ≤ 5 ∧ a < i ∧ i ≤ b ∧ PR a b l l1 ∧ SR a i l1 ∧ s = ⟨1, [(0, .own 0), (1, .v (.int .i64 (a : Int))), (2, .v (.int .i64 (b : Int))), (7, .v (.int .i64 ((i : Nat) : Int))), (8, .v (.int .i64 ((m : Nat) : Int)))], [some (.arr 1 (ul l1))]⟩) 5
    ⟨0, a + 1, l, rfl, by omega, by omega, by omega, PR.refl a b l, SR.small (by omega), by simp only [go_sem, ↓reduceIte]⟩ ?_
  rintro n s ⟨m, i, l1, hn, hm5, hai, hib, hp, hs, rfl⟩
  have hl1 := hp.1
  have wm := wrap_suc (show m < 9223372036854775807 by omega)
  by_cases hm : m < 5
  · simp only [go_sem, ↓reduceIte, show decide ((m : Int) < 5) = true from decide_eq_true (by omega)]
    refine cut_block (fun s => ∃ i : Nat, a < i ∧ i ≤ b ∧ SR a i l1 ∧ (i = b ∨ l1.getD i 0 < l1.getD (i - 1) 0) ∧ s = ⟨1, [(0, .own 0), (1, .v (.int .i64 (a : Int))), (2, .v (.int .i64 (b : Int))), (7, .v (.int .i64 ((i : Nat) : Int))), (8, .v (.int .i64 ((m : Nat) : Int)))], [some (.arr 1 (ul l1))]⟩) ?_ ?_
    · refine loop_i (fun n s => ∃ i : Nat, n = b - i ∧ a < i ∧ i ≤ b ∧ SR a i l1 ∧ s = ⟨1, [(0, .own 0), (1, .v (.int .i64 (a : Int))), (2, .v (.int .i64 (b : Int))), (7, .v (.int .i64 ((i : Nat) : Int))), (8, .v (.int .i64 ((m : Nat) : Int)))], [some (.arr 1 (ul l1))]⟩) (b - i)
        ⟨i, rfl, hai, hib, hs, by simp only [go_sem, ↓reduceIte]⟩ ?_
      clear hs hib hai hn
      rintro n s ⟨i, hn, hai, hib, hs, rfl⟩
      by_cases hi : i < b
      · have wi : IntKind.i64.wrap ((i : Int) - 1) = ((i - 1 : Nat) : Int) := by rw [wrap_i64 (by omega) (by omega)]; omega
        have g1 := ul_get l1 i (by omega)
        have g2 := ul_get l1 (i - 1) (by omega)
        simp only [go_sem, ↓reduceIte, dlt_t hi, List.length_map, show i < l1.length by omega, show i - 1 < l1.length by omega, wi, g1, g2]
        refine call_pure (subL_refl _) rfl (s_Less _ _) rfl ?_
        simp only [go_sem, ↓reduceIte, dlt_t hi, List.length_map, show i < l1.length by omega, show i - 1 < l1.length by omega, wi, g1, g2]
        refine condW_i (fun hc => ?_) (fun hc => ?_)
        · have hlt : l1.getD (i - 1) 0 ≤ l1.getD i 0 := by simpa using hc
          simp only [go_sem, ↓reduceIte, wrap_suc (show i < 9223372036854775807 by omega)]
          exact ⟨b - (i + 1), by omega, i + 1, rfl, by omega, by omega, ins_done (Nat.le_refl _) (ins_init hs) (.inr hlt), rfl⟩
        · have hlt : l1.getD i 0 < l1.getD (i - 1) 0 := by simpa using hc
          simp only [go_sem, ↓reduceIte]
          exact ⟨i, hai, hib, hs, .inr hlt, rfl⟩
      · simp only [go_sem, ↓reduceIte, dlt_f hi]
        exact ⟨i, hai, hib, hs, .inl (by omega), rfl⟩
    clear hs hib hai
    rintro s ⟨i, hai, hib, hs, he, rfl⟩
    simp only [go_sem, ↓reduceIte]
    by_cases hi : i = b
    · simp only [go_sem, ↓reduceIte, hi, beq_self_eq_true]
      exact ⟨l1, ⟨true, rfl, hp, fun _ => by rw [hi] at hs; exact hs⟩, rfl⟩
    · have he' := he.resolve_left hi
      have hne : (((i : Nat) : Int) == (b : Int)) = false := by simp; omega
      have wba : IntKind.i64.wrap ((b : Int) - (a : Int)) = ((b - a : Nat) : Int) := by rw [wrap_i64 (by omega) (by omega)]; omega
      simp only [go_sem, ↓reduceIte, hne, wba]
      by_cases h50 : b - a < 50
      · simp only [go_sem, ↓reduceIte, show decide (((b - a : Nat) : Int) < 50) = true from decide_eq_true (by omega)]
        exact ⟨l1, ⟨false, rfl, hp, fun h => by cases h⟩, rfl⟩
      · simp only [go_sem, ↓reduceIte, show decide (((b - a : Nat) : Int) < 50) = false from decide_eq_false (by omega)]
        have wi : IntKind.i64.wrap ((i : Int) - 1) = ((i - 1 : Nat) : Int) := by rw [wrap_i64 (by omega) (by omega)]; omega
        have wi1 := wrap_suc (show i < 9223372036854775807 by omega)
        have wia : IntKind.i64.wrap ((i : Int) - (a : Int)) = ((i - a : Nat) : Int) := by rw [wrap_i64 (by omega) (by omega)]; omega
        have wbi : IntKind.i64.wrap ((b : Int) - (i : Int)) = ((b - i : Nat) : Int) := by rw [wrap_i64 (by omega) (by omega)]; omega
        have q1 := ul_get l1 (i) (by omega)
        have q2 := ul_get l1 (i - 1) (by omega)
        obtain ⟨yy, q3⟩ := ul_sg l1 (i) (i - 1) (.int .u64 ((l1.getD (i - 1) 0 : Nat) : Int)) (by omega)
        simp only [go_sem, ↓reduceIte, List.length_map, List.length_set, show i < l1.length by omega, show i - 1 < l1.length by omega, q1, q2, q3, ul_swap, wi, wia]
        have hsw : PR (i - 1) (i + 1) l1 (swapN l1 i (i - 1)) := swapN_pr (by omega) (by omega) (by omega) (by omega) (by omega)
        have hp2 : PR a b l (swapN l1 i (i - 1)) := hp.trans (hsw.wide (by omega) (by omega))
        have hs2 : SR a (i - 1) (swapN l1 i (i - 1)) := SR.outside (fun p q h1 h2 h3 => hs p q h1 h2 (by omega)) hsw (.inl (by omega))
        generalize swapN l1 i (i - 1) = l2 at hp2 hs2
        clear q1 q2 q3 hsw
        have hl2 := hp2.1
        by_cases hia : 2 ≤ i - a
        · simp only [go_sem, ↓reduceIte, show decide (((i - a : Nat) : Int) ≥ 2) = true from decide_eq_true (by omega), wi]
          refine cut_block (fun s => ∃ l3 : List Nat, PR a b l l3 ∧ SR a i l3 ∧ s = ⟨1, [(0, .own 0), (1, .v (.int .i64 (a : Int))), (2, .v (.int .i64 (b : Int))), (7, .v (.int .i64 ((i : Nat) : Int))), (8, .v (.int .i64 ((m : Nat) : Int)))], [some (.arr 1 (ul l3))]⟩) ?_ ?_
          · refine loop_i (fun j s => ∃ l3 : List Nat, a ≤ j ∧ j ≤ i - 1 ∧ PR a b l l3 ∧ (∀ p q, a ≤ p → p < q → q ≤ i - 1 → q ≠ j → l3.getD p 0 ≤ l3.getD q 0) ∧ s = ⟨1, [(0, .own 0), (1, .v (.int .i64 (a : Int))), (2, .v (.int .i64 (b : Int))), (7, .v (.int .i64 ((i : Nat) : Int))), (8, .v (.int .i64 ((m : Nat) : Int))), (9, .v (.int .i64 (j : Int)))], [some (.arr 1 (ul l3))]⟩) (i - 1)
              ⟨l2, by omega, Nat.le_refl _, hp2, ins_init hs2, by simp only [go_sem, ↓reduceIte]⟩ ?_
            rintro j s ⟨l3, haj, hji, hp3, hs3, rfl⟩
            have hl3 := hp3.1
            have hpre3 := hpre.pr hp3 hb
            by_cases hj : 1 ≤ j
            · have wj : IntKind.i64.wrap ((j : Int) - 1) = ((j - 1 : Nat) : Int) := by rw [wrap_i64 (by omega) (by omega)]; omega
              have g1 := ul_get l3 j (by omega)
              have g2 := ul_get l3 (j - 1) (by omega)
              simp only [go_sem, ↓reduceIte, show decide ((j : Int) ≥ 1) = true from decide_eq_true (by omega), List.length_map, show j < l3.length by omega, show j - 1 < l3.length by omega, wj, g1, g2]
              refine call_pure (subL_refl _) rfl (s_Less _ _) rfl ?_
              simp only [go_sem, ↓reduceIte, List.length_map, show j < l3.length by omega, show j - 1 < l3.length by omega, wj, g1, g2]
              refine condW_i (fun hc => ?_) (fun hc => ?_)
              · have hlt : l3.getD (j - 1) 0 ≤ l3.getD j 0 := by simpa using hc
                simp only [go_sem, ↓reduceIte]
                have := ins_done hji hs3 (.inr hlt)
                rw [show i - 1 + 1 = i by omega] at this
                exact ⟨l3, hp3, this, rfl⟩
              · have hlt : l3.getD j 0 < l3.getD (j - 1) 0 := by simpa using hc
                have haj' : a < j := by
                  rcases Nat.eq_or_lt_of_le haj with e | e
                  · subst e
                    rcases hpre3 with h0 | h0
                    · omega
                    · have := h0 a (Nat.le_refl _) (by omega)
                      omega
                  · exact e
                simp only [go_sem, ↓reduceIte]
                have q1 := ul_get l3 (j) (by omega)
                have q2 := ul_get l3 (j - 1) (by omega)
                obtain ⟨yy, q3⟩ := ul_sg l3 (j) (j - 1) (.int .u64 ((l3.getD (j - 1) 0 : Nat) : Int)) (by omega)
                simp only [go_sem, ↓reduceIte, List.length_map, List.length_set, show j < l3.length by omega, show j - 1 < l3.length by omega, q1, q2, q3, ul_swap, wj]
                exact ⟨j - 1, by omega, _, by omega, by omega, hp3.trans (swapN_pr (by omega) (by omega) (by omega) (by omega) (by omega)), ins_step (by omega) haj' hji hs3 hlt, rfl⟩
            · simp only [go_sem, ↓reduceIte, show decide ((j : Int) ≥ 1) = false from decide_eq_false (by omega)]
              have := ins_done hji hs3 (.inl (by omega))
              rw [show i - 1 + 1 = i by omega] at this
              exact ⟨l3, hp3, this, rfl⟩
          rintro s ⟨l3, hp3, hs3, rfl⟩
          have hl3 := hp3.1
          simp only [go_sem, ↓reduceIte]
          by_cases hr : 2 ≤ b - i
          · simp only [go_sem, ↓reduceIte, wbi, show decide (((b - i : Nat) : Int) ≥ 2) = true from decide_eq_true (by omega), wi1]
            refine loop_i (fun n s => ∃ (j : Nat) (l4 : List Nat), n = b - j ∧ i < j ∧ j ≤ b ∧ PR a b l l4 ∧ SR a i l4 ∧ s = ⟨1, [(0, .own 0), (1, .v (.int .i64 (a : Int))), (2, .v (.int .i64 (b : Int))), (7, .v (.int .i64 ((i : Nat) : Int))), (8, .v (.int .i64 ((m : Nat) : Int))), (10, .v (.int .i64 (j : Int)))], [some (.arr 1 (ul l4))]⟩) (b - (i + 1))
              ⟨i + 1, l3, rfl, by omega, by omega, hp3, hs3, by simp only [go_sem, ↓reduceIte]⟩ ?_
            rintro n s ⟨j, l4, hn, hij, hjb, hp4, hs4, rfl⟩
            have hl4 := hp4.1
            by_cases hj : j < b
            · have wj : IntKind.i64.wrap ((j : Int) - 1) = ((j - 1 : Nat) : Int) := by rw [wrap_i64 (by omega) (by omega)]; omega
              have g1 := ul_get l4 j (by omega)
              have g2 := ul_get l4 (j - 1) (by omega)
              simp only [go_sem, ↓reduceIte, dlt_t hj, List.length_map, show j < l4.length by omega, show j - 1 < l4.length by omega, wj, g1, g2]
              refine call_pure (subL_refl _) rfl (s_Less _ _) rfl ?_
              simp only [go_sem, ↓reduceIte, dlt_t hj, List.length_map, show j < l4.length by omega, show j - 1 < l4.length by omega, wj, g1, g2]
              refine condW_i (fun hc => ?_) (fun hc => ?_)
              · simp only [go_sem, ↓reduceIte, wm]
                exact ⟨5 - (m + 1), by omega, m + 1, i, l4, rfl, by omega, hai, by omega, hp4, hs4, rfl⟩
              · simp only [go_sem, ↓reduceIte]
                have q1 := ul_get l4 (j) (by omega)
                have q2 := ul_get l4 (j - 1) (by omega)
                obtain ⟨yy, q3⟩ := ul_sg l4 (j) (j - 1) (.int .u64 ((l4.getD (j - 1) 0 : Nat) : Int)) (by omega)
                simp only [go_sem, ↓reduceIte, List.length_map, List.length_set, show j < l4.length by omega, show j - 1 < l4.length by omega, q1, q2, q3, ul_swap, wj, wrap_suc (show j < 9223372036854775807 by omega)]
                have hsw : PR (j - 1) (j + 1) l4 (swapN l4 j (j - 1)) := swapN_pr (by omega) (by omega) (by omega) (by omega) (by omega)
                exact ⟨b - (j + 1), by omega, j + 1, _, rfl, by omega, by omega, hp4.trans (hsw.wide (by omega) (by omega)), hs4.outside hsw (.inl (by omega)), rfl⟩
            · simp only [go_sem, ↓reduceIte, dlt_f hj, wm]
              exact ⟨5 - (m + 1), by omega, m + 1, i, l4, rfl, by omega, hai, by omega, hp4, hs4, rfl⟩
          · simp only [go_sem, ↓reduceIte, wbi, show decide (((b - i : Nat) : Int) ≥ 2) = false from decide_eq_false (by omega), wm]
            exact ⟨5 - (m + 1), by omega, m + 1, i, l3, rfl, by omega, hai, by omega, hp3, hs3, rfl⟩
        · simp only [go_sem, ↓reduceIte, show decide (((i - a : Nat) : Int) ≥ 2) = false from decide_eq_false (by omega)]
          have hp3 := hp2
          have hs3 : SR a i l2 := SR.small (by omega)
          by_cases hr : 2 ≤ b - i
          · simp only [go_sem, ↓reduceIte, wbi, show decide (((b - i : Nat) : Int) ≥ 2) = true from decide_eq_true (by omega), wi1]
            refine loop_i (fun n s => ∃ (j : Nat) (l4 : List Nat), n = b - j ∧ i < j ∧ j ≤ b ∧ PR a b l l4 ∧ SR a i l4 ∧ s = ⟨1, [(0, .own 0), (1, .v (.int .i64 (a : Int))), (2, .v (.int .i64 (b : Int))), (7, .v (.int .i64 ((i : Nat) : Int))), (8, .v (.int .i64 ((m : Nat) : Int))), (10, .v (.int .i64 (j : Int)))], [some (.arr 1 (ul l4))]⟩) (b - (i + 1))
              ⟨i + 1, l2, rfl, by omega, by omega, hp3, hs3, by simp only [go_sem, ↓reduceIte]⟩ ?_
            rintro n s ⟨j, l4, hn, hij, hjb, hp4, hs4, rfl⟩
            have hl4 := hp4.1
            by_cases hj : j < b
            · have wj : IntKind.i64.wrap ((j : Int) - 1) = ((j - 1 : Nat) : Int) := by rw [wrap_i64 (by omega) (by omega)]; omega
              have g1 := ul_get l4 j (by omega)
              have g2 := ul_get l4 (j - 1) (by omega)
              simp only [go_sem, ↓reduceIte, dlt_t hj, List.length_map, show j < l4.length by omega, show j - 1 < l4.length by omega, wj, g1, g2]
              refine call_pure (subL_refl _) rfl (s_Less _ _) rfl ?_
              simp only [go_sem, ↓reduceIte, dlt_t hj, List.length_map, show j < l4.length by omega, show j - 1 < l4.length by omega, wj, g1, g2]
              refine condW_i (fun hc => ?_) (fun hc => ?_)
              · simp only [go_sem, ↓reduceIte, wm]
                exact ⟨5 - (m + 1), by omega, m + 1, i, l4, rfl, by omega, hai, by omega, hp4, hs4, rfl⟩
              · simp only [go_sem, ↓reduceIte]
                have q1 := ul_get l4 (j) (by omega)
                have q2 := ul_get l4 (j - 1) (by omega)
                obtain ⟨yy, q3⟩ := ul_sg l4 (j) (j - 1) (.int .u64 ((l4.getD (j - 1) 0 : Nat) : Int)) (by omega)
                simp only [go_sem, ↓reduceIte, List.length_map, List.length_set, show j < l4.length by omega, show j - 1 < l4.length by omega, q1, q2, q3, ul_swap, wj, wrap_suc (show j < 9223372036854775807 by omega)]
                have hsw : PR (j - 1) (j + 1) l4 (swapN l4 j (j - 1)) := swapN_pr (by omega) (by omega) (by omega) (by omega) (by omega)
                exact ⟨b - (j + 1), by omega, j + 1, _, rfl, by omega, by omega, hp4.trans (hsw.wide (by omega) (by omega)), hs4.outside hsw (.inl (by omega)), rfl⟩
            · simp only [go_sem, ↓reduceIte, dlt_f hj, wm]
              exact ⟨5 - (m + 1), by omega, m + 1, i, l4, rfl, by omega, hai, by omega, hp4, hs4, rfl⟩
          · simp only [go_sem, ↓reduceIte, wbi, show decide (((b - i : Nat) : Int) ≥ 2) = false from decide_eq_false (by omega), wm]
            exact ⟨5 - (m + 1), by omega, m + 1, i, l2, rfl, by omega, hai, by omega, hp3, hs3, rfl⟩
  · simp only [go_sem, ↓reduceIte, show decide ((m : Int) < 5) = false from decide_eq_false (by omega)]
    exact ⟨l1, ⟨false, rfl, hp, fun h => by cases h⟩, rfl⟩
end
end Hud
end
section
namespace Hud
open Go
theorem ptpost_left {a b j : Nat} {l l' : List Nat} (h : PtPost a b j l) (hb : b ≤ l.length) (hp : PR a j l l') : PtPost a b j l' := by
  obtain ⟨h1, h2, h3, h4⟩ := h
  have e : l'.getD j 0 = l.getD j 0 := hp.2.1 j (.inr (Nat.le_refl _))
  refine ⟨h1, h2, fun k k1 k2 => ?_, fun k k1 k2 => ?_⟩
  · rw [e]; exact hp.all (by omega) (Q := fun x => x ≤ l.getD j 0) h3 k k1 k2
  · rw [e, hp.2.1 k (.inr (by omega))]; exact h4 k k1 k2
theorem ptpost_right {a b j : Nat} {l l' : List Nat} (h : PtPost a b j l) (hb : b ≤ l.length) (hp : PR (j + 1) b l l') : PtPost a b j l' := by
  obtain ⟨h1, h2, h3, h4⟩ := h
  have e : l'.getD j 0 = l.getD j 0 := hp.2.1 j (.inl (by omega))
  refine ⟨h1, h2, fun k k1 k2 => ?_, fun k k1 k2 => ?_⟩
  · rw [e, hp.2.1 k (.inl (by omega))]; exact h3 k k1 k2
  · rw [e]; exact hp.all hb (Q := fun x => l.getD j 0 ≤ x) (fun i h5 h6 => h4 i (by omega) h6) k (by omega) k2
theorem ptpost_join {a b j : Nat} {l : List Nat} (h : PtPost a b j l) (h1 : SR a j l) (h2 : SR (j + 1) b l) : SR a b l := by
  obtain ⟨k1, k2, k3, k4⟩ := h
  intro p q p1 p2 p3
  by_cases hp : p < j
  · by_cases hq : q < j
    · exact h1 p q p1 p2 hq
    · refine Nat.le_trans (k3 p p1 hp) ?_
      by_cases e : q = j
      · rw [e]; exact Nat.le_refl _
      · exact k4 q (by omega) p3
  · by_cases e : p = j
    · subst e
      by_cases e2 : q = p
      · rw [e2]; exact Nat.le_refl _
      · exact k4 q (by omega) p3
    · exact h2 p q (by omega) p2 p3
theorem ptpost_pre {a b j : Nat} {l : List Nat} (h : PtPost a b j l) : Pre (j + 1) b l := .inr fun i h1 h2 => h.2.2.2 i (by omega) h2
theorem peq_join {a b i v : Nat} {l5 l6 : List Nat} (hi : i ≤ b) (hb : b ≤ l5.length) (h1 : ∀ k, a ≤ k → k < i → l5.getD k 0 ≤ v) (h2 : ∀ k, i ≤ k → k < b → v < l5.getD k 0) (h3 : ∀ k, a ≤ k → k < b → v ≤ l5.getD k 0) (hp : PR i b l5 l6) (hs : SR i b l6) : SR a b l6 := by
  intro p q p1 p2 p3
  have e : ∀ k, k < i → l6.getD k 0 = l5.getD k 0 := fun k hk => hp.2.1 k (.inl hk)
  by_cases hpi : p < i
  · rw [e p hpi]
    by_cases hqi : q < i
    · rw [e q hqi]; exact Nat.le_trans (h1 p p1 hpi) (h3 q (by omega) p3)
    · exact Nat.le_trans (h1 p p1 hpi) (Nat.le_of_lt (hp.all hb (Q := fun x => v < x) h2 q (by omega) p3))
  · exact hs p q (by omega) p2 p3
section
variable {P : Program} {G : Nat → Option (List AV)} {st : St}
theorem cut_cond {t : Bool} {a b : HC} {K : St → Prop} {Q : Ex → St → Prop} (R : St → Prop) (h1 : t = true → @codeC P G a st ⟨@seqQ ⟨R⟩ ⟨Q⟩⟩) (h2 : t = false → @codeC P G b st ⟨@seqQ ⟨R⟩ ⟨Q⟩⟩) (hr : ∀ s, R s → K s) :
    @condW t ⟨@codeC P G a st ⟨@seqQ ⟨K⟩ ⟨Q⟩⟩⟩ ⟨@codeC P G b st ⟨@seqQ ⟨K⟩ ⟨Q⟩⟩⟩ :=
  condW_i (fun h => cut_seq R (h1 h) hr) (fun h => cut_seq R (h2 h) hr)
end
section
variable {G : Nat → Option (List AV)}
set_option maxHeartbeats 20000000
abbrev pdS (a b lim : Nat) (w8 w9 : Bool) (l : List Nat) : St := ⟨1, [(0, .own 0), (1, .v (.int .i64 (a : Int))), (2, .v (.int .i64 (b : Int))), (3, .v (.int .i64 (lim : Int))), (8, .v (.bool w8)), (9, .v (.bool w9))], [some (.arr 1 (ul l))]⟩
def PdOk (G : Nat → Option (List AV)) (n : Nat) : Prop := ∀ (l : List Nat) (a b lim : Nat), b - a = n → a ≤ b → b ≤ l.length → l.length ≤ 60000 → lim ≤ 1000000000 → Pre a b l → CallOk Go.Proofs.Tryz.prog G n_slices_pdqsortOrdered_uint64 [.own 0, .v (.int .i64 (a : Int)), .v (.int .i64 (b : Int)), .v (.int .i64 (lim : Int))] [some (.arr 1 (ul l))] (SortPost l fun _ l' => PR a b l l' ∧ SR a b l')
def PdN (a b lim2 : Nat) (l4 : List Nat) (Q : St → Prop) : Prop := ∀ (a' b' : Nat) (v8 v9 : Bool) (l6 : List Nat) (s : St), b' - a' < b - a → a ≤ a' → a' ≤ b' → b' ≤ b → PR a b l4 l6 → Pre a' b' l6 → (∀ l7, PR a' b' l6 l7 → SR a' b' l7 → SR a b l7) → gcs [] s = pdS a' b' lim2 v8 v9 l6 → Q s
def pdC2 : HC := .seq (.seq (.reg [⟨some 95, .mov (.tmp 0), none⟩, ⟨some 96, .mov (.tmp 1), none⟩, ⟨some 97, .mov (.tmp 2), none⟩, ⟨some 98, .mov (.tmp 11), none⟩, ⟨some 99, .call (.func n_slices_partitionOrdered_uint64) [.tmp 95, .tmp 96, .tmp 97, .tmp 98], none⟩, ⟨some 94, .mov (.tmp 99), none⟩, ⟨some 100, .ext (.tmp 94) 0, none⟩, ⟨some 101, .ext (.tmp 94) 1, none⟩, ⟨some 14, .mov (.tmp 100), none⟩, ⟨some 15, .mov (.tmp 101), none⟩]) (.kill [11, 101, 100, 94, 99, 98, 97, 96, 95])) (.seq (.seq (.reg [⟨some 102, .mov (.tmp 15), none⟩, ⟨some 9, .mov (.tmp 102), none⟩]) (.kill [15, 102])) (.seq (.seq (.reg [⟨some 103, .mov (.tmp 14), none⟩, ⟨some 104, .mov (.tmp 1), none⟩, ⟨some 105, .bin .sub (.tmp 103) (.tmp 104), none⟩, ⟨some 106, .mov (.tmp 2), none⟩, ⟨some 107, .mov (.tmp 14), none⟩, ⟨some 108, .bin .sub (.tmp 106) (.tmp 107), none⟩, ⟨some 16, .mov (.tmp 105), none⟩, ⟨some 17, .mov (.tmp 108), none⟩]) (.kill [108, 107, 106, 105, 104, 103])) (.seq (.seq (.reg [⟨some 109, .mov (.tmp 10), none⟩, ⟨some 110, .bin .quo (.tmp 109) (.const (.int .i64 8)), none⟩, ⟨some 18, .mov (.tmp 110), none⟩]) (.kill [10, 110, 109])) (.seq (.seq (.reg [⟨some 111, .mov (.tmp 16), none⟩, ⟨some 112, .mov (.tmp 17), none⟩, ⟨some 113, .bin .lss (.tmp 111) (.tmp 112), none⟩]) (.kill [112, 111])) (.cond (.tmp 113) (.seq (.kill [17, 113]) (.seq (.seq (.reg [⟨some 114, .mov (.tmp 16), none⟩, ⟨some 115, .mov (.tmp 18), none⟩, ⟨some 116, .bin .geq (.tmp 114) (.tmp 115), none⟩, ⟨some 8, .mov (.tmp 116), none⟩]) (.kill [16, 18, 116, 115, 114])) (.seq (.seq (.reg [⟨some 117, .mov (.tmp 0), none⟩, ⟨some 118, .mov (.tmp 1), none⟩, ⟨some 119, .mov (.tmp 14), none⟩, ⟨some 120, .mov (.tmp 3), none⟩, ⟨some 121, .call (.func n_slices_pdqsortOrdered_uint64) [.tmp 117, .tmp 118, .tmp 119, .tmp 120], none⟩]) (.kill [1, 121, 120, 119, 118, 117])) (.seq (.reg [⟨some 122, .mov (.tmp 14), none⟩, ⟨some 123, .bin .add (.tmp 122) (.const (.int .i64 1)), none⟩, ⟨some 1, .mov (.tmp 123), none⟩]) (.kill [14, 123, 122]))))) (.seq (.kill [16, 113]) (.seq (.seq (.reg [⟨some 124, .mov (.tmp 17), none⟩, ⟨some 125, .mov (.tmp 18), none⟩, ⟨some 126, .bin .geq (.tmp 124) (.tmp 125), none⟩, ⟨some 8, .mov (.tmp 126), none⟩]) (.kill [17, 18, 126, 125, 124])) (.seq (.seq (.reg [⟨some 127, .mov (.tmp 0), none⟩, ⟨some 128, .mov (.tmp 14), none⟩, ⟨some 129, .bin .add (.tmp 128) (.const (.int .i64 1)), none⟩, ⟨some 130, .mov (.tmp 2), none⟩, ⟨some 131, .mov (.tmp 3), none⟩, ⟨some 132, .call (.func n_slices_pdqsortOrdered_uint64) [.tmp 127, .tmp 129, .tmp 130, .tmp 131], none⟩]) (.kill [2, 132, 131, 130, 129, 128, 127])) (.seq (.reg [⟨some 133, .mov (.tmp 14), none⟩, ⟨some 2, .mov (.tmp 133), none⟩]) (.kill [14, 133]))))))))))
theorem pd_partA (n : Nat) (ih : ∀ m, m < n → PdOk G m) {a b p lim2 : Nat} {l4 : List Nat} {Q : Ex → St → Prop} (hn : b - a = n) (hap : a ≤ p) (hpb : p < b) (hb : b ≤ l4.length) (hl4 : l4.length ≤ 60000) (hlim2 : lim2 ≤ 1000000000) (hpre : Pre a b l4) (hQ : PdN a b lim2 l4 (Q .normal)) :
    @codeC Go.Proofs.Tryz.prog G pdC2 ⟨1, [(11, .v (.int .i64 (p : Int))), (3, .v (.int .i64 (lim2 : Int))), (10, .v (.int .i64 ((b - a : Nat) : Int))), (0, .own 0), (1, .v (.int .i64 (a : Int))), (2, .v (.int .i64 (b : Int)))], [some (.arr 1 (ul l4))]⟩ ⟨Q⟩ := by
  unfold pdC2
  simp only [go_sem, ↓reduceIte]
  refine call_at [0] (subL_refl _) (by decide) (by simp) rfl rfl (s_part l4 a b p hap hpb hb (by omega)) ?_
  rintro r T' ⟨l5, ⟨j, f, hr, hp5, hpp⟩, hT⟩
  subst hr
  subst hT
  have hl5 := hp5.1
  have hj1 := hpp.1
  have hj2 := hpp.2.1
  have wl : IntKind.i64.wrap ((j : Int) - (a : Int)) = ((j - a : Nat) : Int) := by rw [wrap_i64 (by omega) (by omega)]; omega
  have wr : IntKind.i64.wrap ((b : Int) - (j : Int)) = ((b - j : Nat) : Int) := by rw [wrap_i64 (by omega) (by omega)]; omega
  have hpre5 : Pre a b l5 := hpre.pr hp5 hb
  simp only [go_sem, ↓reduceIte, wl, wr, quo8 (b - a) (by omega)]
  by_cases hlr : j - a < b - j
  · simp only [go_sem, ↓reduceIte, dlt_t hlr]
    refine call_at [0] (subL_refl _) (by decide) (by simp) rfl rfl (ih (j - a) (by omega) l5 a j lim2 rfl hj1 (by omega) (by omega) hlim2 (hpre5.sub (by omega))) ?_
    rintro r T' ⟨l6, ⟨hp6, hs6⟩, hT⟩
    subst hT
    have hl6 := hp6.1
    have hpp6 := ptpost_left hpp (by omega) hp6
    simp only [go_sem, ↓reduceIte, wrap_suc (show j < 9223372036854775807 by omega)]
    refine hQ (j + 1) b (decide (((j - a : Nat) : Int) ≥ (((b - a) / 8 : Nat) : Int))) f l6 _ (by omega) (by omega) (by omega) (by omega) (hp5.trans (hp6.wide (Nat.le_refl _) (by omega))) (ptpost_pre hpp6) (fun l7 h7 h8 => ptpost_join (ptpost_right hpp6 (by omega) h7) (hs6.outside h7 (.inl (by omega))) h8) ?_
    simp only [go_sem, ↓reduceIte]
  · simp only [go_sem, ↓reduceIte, dlt_f hlr, wrap_suc (show j < 9223372036854775807 by omega)]
    refine call_at [0] (subL_refl _) (by decide) (by simp) rfl rfl (ih (b - (j + 1)) (by omega) l5 (j + 1) b lim2 rfl (by omega) (by omega) (by omega) hlim2 (ptpost_pre hpp)) ?_
    rintro r T' ⟨l6, ⟨hp6, hs6⟩, hT⟩
    subst hT
    have hl6 := hp6.1
    have hpp6 := ptpost_right hpp (by omega) hp6
    simp only [go_sem, ↓reduceIte]
    refine hQ a j (decide (((b - j : Nat) : Int) ≥ (((b - a) / 8 : Nat) : Int))) f l6 _ (by omega) (by omega) (by omega) (by omega) (hp5.trans (hp6.wide (by omega) (Nat.le_refl _))) ((hpre5.pr (hp6.wide (by omega) (Nat.le_refl _)) (by omega)).sub (by omega)) (fun l7 h7 h8 => ptpost_join (ptpost_left hpp6 (by omega) h7) h8 (hs6.outside h7 (.inr (by omega)))) ?_
    simp only [go_sem, ↓reduceIte]
theorem pd_partB (n : Nat) (ih : ∀ m, m < n → PdOk G m) {a b p lim2 : Nat} {l4 : List Nat} {Q : Ex → St → Prop} (hn : b - a = n) (hap : a ≤ p) (hpb : p < b) (hb : b ≤ l4.length) (hl4 : l4.length ≤ 60000) (hlim2 : lim2 ≤ 1000000000) (hpre : Pre a b l4) (hQ : PdN a b lim2 l4 (Q .normal)) :
    @codeC Go.Proofs.Tryz.prog G pdC2 ⟨1, [(11, .v (.int .i64 (p : Int))), (10, .v (.int .i64 ((b - a : Nat) : Int))), (0, .own 0), (1, .v (.int .i64 (a : Int))), (2, .v (.int .i64 (b : Int))), (3, .v (.int .i64 (lim2 : Int)))], [some (.arr 1 (ul l4))]⟩ ⟨Q⟩ := by
  unfold pdC2
  simp only [go_sem, ↓reduceIte]
  refine call_at [0] (subL_refl _) (by decide) (by simp) rfl rfl (s_part l4 a b p hap hpb hb (by omega)) ?_
  rintro r T' ⟨l5, ⟨j, f, hr, hp5, hpp⟩, hT⟩
  subst hr
  subst hT
  have hl5 := hp5.1
  have hj1 := hpp.1
  have hj2 := hpp.2.1
  have wl : IntKind.i64.wrap ((j : Int) - (a : Int)) = ((j - a : Nat) : Int) := by rw [wrap_i64 (by omega) (by omega)]; omega
  have wr : IntKind.i64.wrap ((b : Int) - (j : Int)) = ((b - j : Nat) : Int) := by rw [wrap_i64 (by omega) (by omega)]; omega
  have hpre5 : Pre a b l5 := hpre.pr hp5 hb
  simp only [go_sem, ↓reduceIte, wl, wr, quo8 (b - a) (by omega)]
  by_cases hlr : j - a < b - j
  · simp only [go_sem, ↓reduceIte, dlt_t hlr]
    refine call_at [0] (subL_refl _) (by decide) (by simp) rfl rfl (ih (j - a) (by omega) l5 a j lim2 rfl hj1 (by omega) (by omega) hlim2 (hpre5.sub (by omega))) ?_
    rintro r T' ⟨l6, ⟨hp6, hs6⟩, hT⟩
    subst hT
    have hl6 := hp6.1
    have hpp6 := ptpost_left hpp (by omega) hp6
    simp only [go_sem, ↓reduceIte, wrap_suc (show j < 9223372036854775807 by omega)]
    refine hQ (j + 1) b (decide (((j - a : Nat) : Int) ≥ (((b - a) / 8 : Nat) : Int))) f l6 _ (by omega) (by omega) (by omega) (by omega) (hp5.trans (hp6.wide (Nat.le_refl _) (by omega))) (ptpost_pre hpp6) (fun l7 h7 h8 => ptpost_join (ptpost_right hpp6 (by omega) h7) (hs6.outside h7 (.inl (by omega))) h8) ?_
    simp only [go_sem, ↓reduceIte]
  · simp only [go_sem, ↓reduceIte, dlt_f hlr, wrap_suc (show j < 9223372036854775807 by omega)]
    refine call_at [0] (subL_refl _) (by decide) (by simp) rfl rfl (ih (b - (j + 1)) (by omega) l5 (j + 1) b lim2 rfl (by omega) (by omega) (by omega) hlim2 (ptpost_pre hpp)) ?_
    rintro r T' ⟨l6, ⟨hp6, hs6⟩, hT⟩
    subst hT
    have hl6 := hp6.1
    have hpp6 := ptpost_right hpp (by omega) hp6
    simp only [go_sem, ↓reduceIte]
    refine hQ a j (decide (((b - j : Nat) : Int) ≥ (((b - a) / 8 : Nat) : Int))) f l6 _ (by omega) (by omega) (by omega) (by omega) (hp5.trans (hp6.wide (by omega) (Nat.le_refl _))) ((hpre5.pr (hp6.wide (by omega) (Nat.le_refl _)) (by omega)).sub (by omega)) (fun l7 h7 h8 => ptpost_join (ptpost_left hpp6 (by omega) h7) h8 (hs6.outside h7 (.inr (by omega)))) ?_
    simp only [go_sem, ↓reduceIte]
def pdC1 : HC := .seq (.seq (.seq (.regd (.q ⟨some 73, .mov (.tmp 1), none⟩ (.q ⟨some 74, .bin .gtr (.tmp 73) (.const (.int .i64 0)), none⟩ (.q ⟨some 75, .mov (.tmp 74), none⟩ (.q ⟨some 76, .mov (.tmp 0), some (75, true)⟩ (.q ⟨some 77, .mov (.tmp 1), some (75, true)⟩ (.q ⟨some 78, .bin .sub (.tmp 77) (.const (.int .i64 1)), some (75, true)⟩ (.q ⟨some 79, .iad (.tmp 76) (.tmp 78) 1, some (75, true)⟩ (.q ⟨some 80, .ld none (.tmp 79), some (75, true)⟩ (.q ⟨some 81, .mov (.tmp 0), some (75, true)⟩ (.q ⟨some 82, .mov (.tmp 11), some (75, true)⟩ (.q ⟨some 83, .iad (.tmp 81) (.tmp 82) 1, some (75, true)⟩ (.q ⟨some 84, .ld none (.tmp 83), some (75, true)⟩ (.alt ⟨some 85, .call (.func n_cmp_Less_uint64) [.tmp 80, .tmp 84], some (75, true)⟩ [] (.q ⟨some 86, .un .not (.tmp 85), some (75, true)⟩ (.q ⟨some 87, .pick (.tmp 75) (.tmp 86) (.const (.bool false)), none⟩ (.done false))) .no)))))))))))))) (.kill [86, 85, 84, 83, 82, 81, 80, 79, 78, 77, 76, 75, 74, 73])) (.cond (.tmp 87) (.seq (.kill [10, 87]) (.seq (.seq (.reg [⟨some 88, .mov (.tmp 0), none⟩, ⟨some 89, .mov (.tmp 1), none⟩, ⟨some 90, .mov (.tmp 2), none⟩, ⟨some 91, .mov (.tmp 11), none⟩, ⟨some 92, .call (.func n_slices_partitionEqualOrdered_uint64) [.tmp 88, .tmp 89, .tmp 90, .tmp 91], none⟩, ⟨some 13, .mov (.tmp 92), none⟩]) (.kill [1, 11, 92, 91, 90, 89, 88])) (.seq (.seq (.reg [⟨some 93, .mov (.tmp 13), none⟩, ⟨some 1, .mov (.tmp 93), none⟩]) (.kill [13, 93])) (.exit 1)))) (.seq (.kill [9, 8, 87]) .skip))) (pdC2)
theorem pd_tailA (n : Nat) (ih : ∀ m, m < n → PdOk G m) {a b p lim2 : Nat} {w8 w9 : Bool} {l4 : List Nat} {Q : Ex → St → Prop} (hn : b - a = n) (hap : a ≤ p) (hpb : p < b) (hb : b ≤ l4.length) (hl4 : l4.length ≤ 60000) (hlim2 : lim2 ≤ 1000000000) (hpre : Pre a b l4) (hQ : PdN a b lim2 l4 (Q .normal)) (hQ1 : PdN a b lim2 l4 (Q (.exit 1))) :
    @codeC Go.Proofs.Tryz.prog G pdC1 ⟨1, [(11, .v (.int .i64 (p : Int))), (3, .v (.int .i64 (lim2 : Int))), (10, .v (.int .i64 ((b - a : Nat) : Int))), (0, .own 0), (1, .v (.int .i64 (a : Int))), (2, .v (.int .i64 (b : Int))), (8, .v (.bool w8)), (9, .v (.bool w9))], [some (.arr 1 (ul l4))]⟩ ⟨Q⟩ := by
  unfold pdC1
  by_cases ha0 : a = 0
  · have e0 : decide ((a : Int) > 0) = false := decide_eq_false (by omega)
    simp only [go_sem, ↓reduceIte, e0]
    exact pd_partA n ih hn hap hpb hb hl4 hlim2 hpre hQ
  · have e0 : decide ((a : Int) > 0) = true := decide_eq_true (by omega)
    have va : IntKind.i64.wrap ((a : Int) - 1) = ((a - 1 : Nat) : Int) := by rw [wrap_i64 (by omega) (by omega)]; omega
    have g1 := ul_get l4 (a - 1) (by omega)
    have g2 := ul_get l4 p (by omega)
    simp only [go_sem, ↓reduceIte, e0, va, List.length_map, show a - 1 < l4.length by omega, show p < l4.length by omega, g1, g2]
    refine call_pure (subL_refl _) rfl (s_Less _ _) rfl ?_
    simp only [go_sem, ↓reduceIte, va, List.length_map, show a - 1 < l4.length by omega, show p < l4.length by omega, g1, g2]
    refine condW_i (fun hc => ?_) (fun hc => ?_)
    · have hle : l4.getD p 0 ≤ l4.getD (a - 1) 0 := by simpa using hc
      simp only [go_sem, ↓reduceIte]
      refine call_at [0] (subL_refl _) (by decide) (by simp) rfl rfl (s_partEq l4 a b p hap hpb hb (by omega)) ?_
      rintro r T' ⟨l5, ⟨i, hr, hp5, hi1, hi2, hi3, hi4⟩, hT⟩
      subst hr
      subst hT
      have hl5 := hp5.1
      have hmin : ∀ k, a ≤ k → k < b → l4.getD p 0 ≤ l5.getD k 0 := by
        refine hp5.all hb (Q := fun x => l4.getD p 0 ≤ x) fun k k1 k2 => ?_
        rcases hpre with h0 | h0
        · exact absurd h0 ha0
        · exact Nat.le_trans hle (h0 k k1 k2)
      simp only [go_sem, ↓reduceIte]
      refine hQ1 i b w8 w9 l5 _ (by omega) (by omega) hi2 (Nat.le_refl _) hp5 (.inr fun k k1 k2 => Nat.le_trans (hi3 (i - 1) (by omega) (by omega)) (Nat.le_of_lt (hi4 k k1 k2))) (fun l6 h6 h7 => peq_join hi2 (by omega) hi3 hi4 hmin h6 h7) ?_
      simp only [go_sem, ↓reduceIte]
    · simp only [go_sem, ↓reduceIte]
      exact pd_partA n ih hn hap hpb hb hl4 hlim2 hpre hQ
theorem pd_tailB (n : Nat) (ih : ∀ m, m < n → PdOk G m) {a b p lim2 : Nat} {w8 w9 : Bool} {l4 : List Nat} {Q : Ex → St → Prop} (hn : b - a = n) (hap : a ≤ p) (hpb : p < b) (hb : b ≤ l4.length) (hl4 : l4.length ≤ 60000) (hlim2 : lim2 ≤ 1000000000) (hpre : Pre a b l4) (hQ : PdN a b lim2 l4 (Q .normal)) (hQ1 : PdN a b lim2 l4 (Q (.exit 1))) :
    @codeC Go.Proofs.Tryz.prog G pdC1 ⟨1, [(11, .v (.int .i64 (p : Int))), (10, .v (.int .i64 ((b - a : Nat) : Int))), (0, .own 0), (1, .v (.int .i64 (a : Int))), (2, .v (.int .i64 (b : Int))), (3, .v (.int .i64 (lim2 : Int))), (8, .v (.bool w8)), (9, .v (.bool w9))], [some (.arr 1 (ul l4))]⟩ ⟨Q⟩ := by
  unfold pdC1
  by_cases ha0 : a = 0
  · have e0 : decide ((a : Int) > 0) = false := decide_eq_false (by omega)
    simp only [go_sem, ↓reduceIte, e0]
    exact pd_partB n ih hn hap hpb hb hl4 hlim2 hpre hQ
  · have e0 : decide ((a : Int) > 0) = true := decide_eq_true (by omega)
    have va : IntKind.i64.wrap ((a : Int) - 1) = ((a - 1 : Nat) : Int) := by rw [wrap_i64 (by omega) (by omega)]; omega
    have g1 := ul_get l4 (a - 1) (by omega)
    have g2 := ul_get l4 p (by omega)
    simp only [go_sem, ↓reduceIte, e0, va, List.length_map, show a - 1 < l4.length by omega, show p < l4.length by omega, g1, g2]
    refine call_pure (subL_refl _) rfl (s_Less _ _) rfl ?_
    simp only [go_sem, ↓reduceIte, va, List.length_map, show a - 1 < l4.length by omega, show p < l4.length by omega, g1, g2]
    refine condW_i (fun hc => ?_) (fun hc => ?_)
    · have hle : l4.getD p 0 ≤ l4.getD (a - 1) 0 := by simpa using hc
      simp only [go_sem, ↓reduceIte]
      refine call_at [0] (subL_refl _) (by decide) (by simp) rfl rfl (s_partEq l4 a b p hap hpb hb (by omega)) ?_
      rintro r T' ⟨l5, ⟨i, hr, hp5, hi1, hi2, hi3, hi4⟩, hT⟩
      subst hr
      subst hT
      have hl5 := hp5.1
      have hmin : ∀ k, a ≤ k → k < b → l4.getD p 0 ≤ l5.getD k 0 := by
        refine hp5.all hb (Q := fun x => l4.getD p 0 ≤ x) fun k k1 k2 => ?_
        rcases hpre with h0 | h0
        · exact absurd h0 ha0
        · exact Nat.le_trans hle (h0 k k1 k2)
      simp only [go_sem, ↓reduceIte]
      refine hQ1 i b w8 w9 l5 _ (by omega) (by omega) hi2 (Nat.le_refl _) hp5 (.inr fun k k1 k2 => Nat.le_trans (hi3 (i - 1) (by omega) (by omega)) (Nat.le_of_lt (hi4 k k1 k2))) (fun l6 h6 h7 => peq_join hi2 (by omega) hi3 hi4 hmin h6 h7) ?_
      simp only [go_sem, ↓reduceIte]
    · simp only [go_sem, ↓reduceIte]
      exact pd_partB n ih hn hap hpb hb hl4 hlim2 hpre hQ
theorem s_pdq (n : Nat) (ih : ∀ m, m < n → PdOk G m) : PdOk G n := by
  intro l a0 b0 lim0 hn0 hab0 hb0 hl hlim0 hpre0
  refine fun_okH h_slices_pdqsortOrdered_uint64_ok (by decide) ?_
  unfold h_slices_pdqsortOrdered_uint64
  simp only [go_sem, ↓reduceIte]
  refine loop_i (fun n s => ∃ (a b lim : Nat) (w8 w9 : Bool) (l1 : List Nat), n = b - a ∧ a0 ≤ a ∧ a ≤ b ∧ b ≤ b0 ∧ lim ≤ 1000000000 ∧ PR a0 b0 l l1 ∧ Pre a b l1 ∧ (∀ l2, PR a b l1 l2 → SR a b l2 → SR a0 b0 l2) ∧ s = pdS a b lim w8 w9 l1) (b0 - a0)
    ⟨a0, b0, lim0, true, true, l, rfl, Nat.le_refl _, hab0, Nat.le_refl _, hlim0, PR.refl _ _ l, hpre0, fun _ _ h => h, by simp only [go_sem, ↓reduceIte, pdS]⟩ ?_
  rintro n1 s ⟨a, b, lim, w8, w9, l1, hn1, ha, hab, hb, hlim, hp, hpre, hK, rfl⟩
  have hl1 := hp.1
  have w1 : IntKind.i64.wrap ((b : Int) - (a : Int)) = ((b - a : Nat) : Int) := by rw [wrap_i64 (by omega) (by omega)]; omega
  simp only [go_sem, ↓reduceIte, w1]
  by_cases h12 : b - a ≤ 12
  · simp only [go_sem, ↓reduceIte, show decide (((b - a : Nat) : Int) ≤ 12) = true from decide_eq_true (by omega)]
    refine call_at [0] (subL_refl _) (by decide) (by simp) rfl rfl (s_ins l1 a b hab (by omega) (by omega)) ?_
    rintro r T' ⟨l2, ⟨hp2, hs2⟩, rfl⟩
    simp only [go_sem, ↓reduceIte]
    exact ⟨l2, ⟨hp.trans (hp2.wide ha hb), hK l2 hp2 hs2⟩, rfl⟩
  simp only [go_sem, ↓reduceIte, show decide (((b - a : Nat) : Int) ≤ 12) = false from decide_eq_false (by omega)]
  by_cases hlz : lim = 0
  · subst hlz
    simp only [go_sem, ↓reduceIte]
    refine call_at [0] (subL_refl _) (by decide) (by simp) rfl rfl (s_heap l1 a b (by omega) (by omega) (by omega)) ?_
    rintro r T' ⟨l2, ⟨hp2, hs2⟩, rfl⟩
    simp only [go_sem, ↓reduceIte]
    exact ⟨l2, ⟨hp.trans (hp2.wide ha hb), hK l2 hp2 hs2⟩, rfl⟩
  have hlz' : ((lim : Int) == 0) = false := by simp; omega
  simp only [go_sem, ↓reduceIte, hlz']
  refine cut_cond (fun s => ∃ (lim2 : Nat) (l2 : List Nat), lim2 ≤ 1000000000 ∧ PR a b l1 l2 ∧ (s = ⟨1, [(3, .v (.int .i64 (lim2 : Int))), (10, .v (.int .i64 ((b - a : Nat) : Int))), (0, .own 0), (1, .v (.int .i64 (a : Int))), (2, .v (.int .i64 (b : Int))), (8, .v (.bool w8)), (9, .v (.bool w9))], [some (.arr 1 (ul l2))]⟩ ∨ s = ⟨1, [(10, .v (.int .i64 ((b - a : Nat) : Int))), (0, .own 0), (1, .v (.int .i64 (a : Int))), (2, .v (.int .i64 (b : Int))), (3, .v (.int .i64 (lim2 : Int))), (8, .v (.bool w8)), (9, .v (.bool w9))], [some (.arr 1 (ul l2))]⟩)) ?_ ?_ ?_
  · intro hw
    simp only [go_sem, ↓reduceIte]
    refine call_at [0] (subL_refl _) (by decide) (by simp) rfl rfl (s_break l1 a b (by omega) (by omega) (by omega)) ?_
    rintro r T' ⟨l2, hp2, rfl⟩
    have wl : IntKind.i64.wrap ((lim : Int) - 1) = ((lim - 1 : Nat) : Int) := by rw [wrap_i64 (by omega) (by omega)]; omega
    simp only [go_sem, ↓reduceIte, wl]
    exact ⟨lim - 1, l2, by omega, hp2, .inl rfl⟩
  · intro hw
    simp only [go_sem, ↓reduceIte]
    exact ⟨lim, l1, hlim, PR.refl _ _ _, .inr rfl⟩
  rintro s ⟨lim2, l2, hlim2, hp2, hs | hs⟩
  · subst hs
    have hl2 := hp2.1
    simp only [go_sem, ↓reduceIte]
    refine call_at [0] (subL_refl _) (by decide) (by simp) rfl rfl (s_choose l2 a b (by omega) (by omega) (by omega)) ?_
    rintro r T' ⟨p, h, hap, hpb, hr, hT⟩
    subst hr
    subst hT
    simp only [go_sem, ↓reduceIte]
    refine cut_cond (fun s => ∃ (p : Nat) (h : Int) (l3 : List Nat), a ≤ p ∧ p < b ∧ PR a b l1 l3 ∧ s = ⟨1, [(12, .v (.int .i64 h)), (11, .v (.int .i64 (p : Int))), (3, .v (.int .i64 (lim2 : Int))), (10, .v (.int .i64 ((b - a : Nat) : Int))), (0, .own 0), (1, .v (.int .i64 (a : Int))), (2, .v (.int .i64 (b : Int))), (8, .v (.bool w8)), (9, .v (.bool w9))], [some (.arr 1 (ul l3))]⟩) ?_ ?_ ?_
    · intro hh
      have v1 : IntKind.i64.wrap ((b : Int) - 1) = ((b - 1 : Nat) : Int) := by rw [wrap_i64 (by omega) (by omega)]; omega
      have v2 : IntKind.i64.wrap ((p : Int) - (a : Int)) = ((p - a : Nat) : Int) := by rw [wrap_i64 (by omega) (by omega)]; omega
      have v3 : IntKind.i64.wrap (((b - 1 : Nat) : Int) - ((p - a : Nat) : Int)) = ((b - 1 - (p - a) : Nat) : Int) := by rw [wrap_i64 (by omega) (by omega)]; omega
      simp only [go_sem, ↓reduceIte]
      refine call_at [0] (subL_refl _) (by decide) (by simp) rfl rfl (s_reverse l2 a b (by omega) (by omega) (by omega)) ?_
      rintro r T' ⟨l3, hp3, hT⟩
      subst hT
      simp only [go_sem, ↓reduceIte, v1, v2, v3]
      exact ⟨b - 1 - (p - a), 1, l3, by omega, by omega, hp2.trans hp3, rfl⟩
    · intro hh
      simp only [go_sem, ↓reduceIte]
      exact ⟨p, h, l2, hap, hpb, hp2, rfl⟩
    clear hap hpb
    rintro s ⟨p, h, l3, hap, hpb, hp3, hs⟩
    subst hs
    have hl3 := hp3.1
    rw [codeC_seq]
    refine cut_seq (fun s => ∃ l4 : List Nat, PR a b l1 l4 ∧ s = ⟨1, [(11, .v (.int .i64 (p : Int))), (3, .v (.int .i64 (lim2 : Int))), (10, .v (.int .i64 ((b - a : Nat) : Int))), (0, .own 0), (1, .v (.int .i64 (a : Int))), (2, .v (.int .i64 (b : Int))), (8, .v (.bool w8)), (9, .v (.bool w9))], [some (.arr 1 (ul l4))]⟩) ?_ ?_
    · by_cases hww : w8 = true ∧ w9 = true
      · obtain ⟨rfl, rfl⟩ := hww
        simp only [go_sem, ↓reduceIte]
        refine condW_i (fun hc => ?_) (fun hc => ?_)
        · simp only [go_sem, ↓reduceIte]
          refine call_at [0] (subL_refl _) (by decide) (by simp) rfl rfl (s_partial l3 a b (by omega) (by omega) (by omega) (hpre.pr hp3 (by omega))) ?_
          rintro r T' ⟨l4, ⟨f, hr, hp4, hf⟩, hT⟩
          subst hr
          subst hT
          cases f with
          | true =>
            simp only [go_sem, ↓reduceIte]
            exact ⟨l4, ⟨hp.trans ((hp3.trans hp4).wide ha hb), hK l4 (hp3.trans hp4) (hf rfl)⟩, rfl⟩
          | false =>
            simp only [go_sem, ↓reduceIte]
            exact ⟨l4, hp3.trans hp4, rfl⟩
        · simp only [go_sem, ↓reduceIte]
          exact ⟨l3, hp3, rfl⟩
      · cases w8 with
        | false => simp only [go_sem, ↓reduceIte]; exact ⟨l3, hp3, rfl⟩
        | true =>
          cases w9 with
          | false => simp only [go_sem, ↓reduceIte]; exact ⟨l3, hp3, rfl⟩
          | true => exact absurd ⟨rfl, rfl⟩ hww
    rintro s ⟨l4, hp4, hs⟩
    subst hs
    have hl4 := hp4.1
    have hN : PdN a b lim2 l4 fun s => ∃ m, m < n1 ∧ ∃ (a b lim : Nat) (w8 w9 : Bool) (l1 : List Nat), m = b - a ∧ a0 ≤ a ∧ a ≤ b ∧ b ≤ b0 ∧ lim ≤ 1000000000 ∧ PR a0 b0 l l1 ∧ Pre a b l1 ∧ (∀ l2, PR a b l1 l2 → SR a b l2 → SR a0 b0 l2) ∧ gcs [] s = pdS a b lim w8 w9 l1 :=
      fun a' b' v8 v9 l6 s h1 h2 h3 h4 h5 h6 h7 h8 => ⟨b' - a', by omega, a', b', lim2, v8, v9, l6, rfl, by omega, h3, by omega, hlim2, hp.trans ((hp4.trans h5).wide ha hb), h6, fun l7 k1 k2 => hK l7 ((hp4.trans h5).trans (k1.wide h2 h4)) (h7 l7 k1 k2), h8⟩
    exact pd_tailA (b - a) (fun m hm => ih m (by omega)) rfl hap hpb (by omega) (by omega) hlim2 (hpre.pr hp4 (by omega)) hN hN
  · subst hs
    have hl2 := hp2.1
    simp only [go_sem, ↓reduceIte]
    refine call_at [0] (subL_refl _) (by decide) (by simp) rfl rfl (s_choose l2 a b (by omega) (by omega) (by omega)) ?_
    rintro r T' ⟨p, h, hap, hpb, hr, hT⟩
    subst hr
    subst hT
    simp only [go_sem, ↓reduceIte]
    refine cut_cond (fun s => ∃ (p : Nat) (h : Int) (l3 : List Nat), a ≤ p ∧ p < b ∧ PR a b l1 l3 ∧ s = ⟨1, [(12, .v (.int .i64 h)), (11, .v (.int .i64 (p : Int))), (10, .v (.int .i64 ((b - a : Nat) : Int))), (0, .own 0), (1, .v (.int .i64 (a : Int))), (2, .v (.int .i64 (b : Int))), (3, .v (.int .i64 (lim2 : Int))), (8, .v (.bool w8)), (9, .v (.bool w9))], [some (.arr 1 (ul l3))]⟩) ?_ ?_ ?_
    · intro hh
      have v1 : IntKind.i64.wrap ((b : Int) - 1) = ((b - 1 : Nat) : Int) := by rw [wrap_i64 (by omega) (by omega)]; omega
      have v2 : IntKind.i64.wrap ((p : Int) - (a : Int)) = ((p - a : Nat) : Int) := by rw [wrap_i64 (by omega) (by omega)]; omega
      have v3 : IntKind.i64.wrap (((b - 1 : Nat) : Int) - ((p - a : Nat) : Int)) = ((b - 1 - (p - a) : Nat) : Int) := by rw [wrap_i64 (by omega) (by omega)]; omega
      simp only [go_sem, ↓reduceIte]
      refine call_at [0] (subL_refl _) (by decide) (by simp) rfl rfl (s_reverse l2 a b (by omega) (by omega) (by omega)) ?_
      rintro r T' ⟨l3, hp3, hT⟩
      subst hT
      simp only [go_sem, ↓reduceIte, v1, v2, v3]
      exact ⟨b - 1 - (p - a), 1, l3, by omega, by omega, hp2.trans hp3, rfl⟩
    · intro hh
      simp only [go_sem, ↓reduceIte]
      exact ⟨p, h, l2, hap, hpb, hp2, rfl⟩
    clear hap hpb
    rintro s ⟨p, h, l3, hap, hpb, hp3, hs⟩
    subst hs
    have hl3 := hp3.1
    rw [codeC_seq]
    refine cut_seq (fun s => ∃ l4 : List Nat, PR a b l1 l4 ∧ s = ⟨1, [(11, .v (.int .i64 (p : Int))), (10, .v (.int .i64 ((b - a : Nat) : Int))), (0, .own 0), (1, .v (.int .i64 (a : Int))), (2, .v (.int .i64 (b : Int))), (3, .v (.int .i64 (lim2 : Int))), (8, .v (.bool w8)), (9, .v (.bool w9))], [some (.arr 1 (ul l4))]⟩) ?_ ?_
    · by_cases hww : w8 = true ∧ w9 = true
      · obtain ⟨rfl, rfl⟩ := hww
        simp only [go_sem, ↓reduceIte]
        refine condW_i (fun hc => ?_) (fun hc => ?_)
        · simp only [go_sem, ↓reduceIte]
          refine call_at [0] (subL_refl _) (by decide) (by simp) rfl rfl (s_partial l3 a b (by omega) (by omega) (by omega) (hpre.pr hp3 (by omega))) ?_
          rintro r T' ⟨l4, ⟨f, hr, hp4, hf⟩, hT⟩
          subst hr
          subst hT
          cases f with
          | true =>
            simp only [go_sem, ↓reduceIte]
            exact ⟨l4, ⟨hp.trans ((hp3.trans hp4).wide ha hb), hK l4 (hp3.trans hp4) (hf rfl)⟩, rfl⟩
          | false =>
            simp only [go_sem, ↓reduceIte]
            exact ⟨l4, hp3.trans hp4, rfl⟩
        · simp only [go_sem, ↓reduceIte]
          exact ⟨l3, hp3, rfl⟩
      · cases w8 with
        | false => simp only [go_sem, ↓reduceIte]; exact ⟨l3, hp3, rfl⟩
        | true =>
          cases w9 with
          | false => simp only [go_sem, ↓reduceIte]; exact ⟨l3, hp3, rfl⟩
          | true => exact absurd ⟨rfl, rfl⟩ hww
    rintro s ⟨l4, hp4, hs⟩
    subst hs
    have hl4 := hp4.1
    have hN : PdN a b lim2 l4 fun s => ∃ m, m < n1 ∧ ∃ (a b lim : Nat) (w8 w9 : Bool) (l1 : List Nat), m = b - a ∧ a0 ≤ a ∧ a ≤ b ∧ b ≤ b0 ∧ lim ≤ 1000000000 ∧ PR a0 b0 l l1 ∧ Pre a b l1 ∧ (∀ l2, PR a b l1 l2 → SR a b l2 → SR a0 b0 l2) ∧ gcs [] s = pdS a b lim w8 w9 l1 :=
      fun a' b' v8 v9 l6 s h1 h2 h3 h4 h5 h6 h7 h8 => ⟨b' - a', by omega, a', b', lim2, v8, v9, l6, rfl, by omega, h3, by omega, hlim2, hp.trans ((hp4.trans h5).wide ha hb), h6, fun l7 k1 k2 => hK l7 ((hp4.trans h5).trans (k1.wide h2 h4)) (h7 l7 k1 k2), h8⟩
    exact pd_tailB (b - a) (fun m hm => ih m (by omega)) rfl hap hpb (by omega) (by omega) hlim2 (hpre.pr hp4 (by omega)) hN hN
end
end Hud
end
