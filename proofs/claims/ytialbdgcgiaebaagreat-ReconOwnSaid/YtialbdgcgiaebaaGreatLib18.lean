import Derived.Test.YtialbdgcgiaebaaGreatLib17
set_option linter.all false
section
namespace Hud
open Go
def pw (x i : Fq) : Prop := (x + i) ^ (NN / 2) = 1
instance (x i : Fq) : Decidable (pw x i) := inferInstanceAs (Decidable (_ = _))
theorem pbin_addU1 (x : Nat) (h : x + 1 < 18446744073709551616) : pbin .add (.int .u64 (x : Int)) (.int .u64 1) = some (.int .u64 ((x + 1 : Nat) : Int)) := pbin_addU x 1 h
abbrev splC : AV := .cl n_poly_Roots_1 [.ptr 0 0, .ptr 1 0]
abbrev splT (out : List Nat) : Tab := [some (.box [.own 2]), some (.box [splC]), some (.arr 1 (ul out))]
abbrev splT2 (out : List Nat) : Tab := [some (.box [.own 3]), some (.box [splC]), none, some (.arr 1 (ul out))]
def SplPost (R : List Fq) (out : List Nat) (T' : Tab) : Prop := ∃ Z : List Fq, Z.Perm R ∧ (T' = splT (out ++ Z.map (·.val)) ∨ T' = splT2 (out ++ Z.map (·.val)))
def SplOk (G : Nat → Option (List AV)) (m : Nat) : Prop := ∀ (a R : List Fq) (s : Nat) (out : List Nat), R.length = m → Sp a R → m ≤ 900 → out.length + m ≤ 50000 → s ≤ PP → (∀ x ∈ R, ∀ y ∈ R, ∀ i : Fq, i.val < s → (pw x i ↔ pw y i)) →
  CallOk Go.Proofs.Tryz.prog G n_poly_Roots_1 [.ls 1 (fl a), .v (.int .u64 (s : Int)), .ptr 0 0, .ptr 1 0] (splT out) fun _ T' => SplPost R out T'
theorem nn_lit : (⟨2305843009213693950, by decide⟩ : Fq) = 0 - 1 := by decide
theorem ev_m1 (t : Fq) : ev [(⟨2305843009213693950, by decide⟩ : Fq)] t = 0 - 1 := by
  rw [nn_lit]; simp only [ev, f_mz, f_az]
theorem f_amz (a z : Fq) : a + (0 - z) = a - z := by grind
theorem f_am1 (a : Fq) : a + (0 - 1) = a - 1 := f_amz a 1
theorem sp_len {a R : List Fq} (h : Sp a R) : a.length = R.length + 1 := mon_len h.1
theorem split_len {R : List Fq} (p : Fq → Bool) : (R.filter p).length + (R.filter fun z => ! p z).length = R.length := by
  induction R with
  | nil => rfl
  | cons z R ih => simp only [List.filter_cons]; cases p z <;> simp <;> omega
theorem split_perm {R : List Fq} (p : Fq → Bool) : ((R.filter p) ++ (R.filter fun z => ! p z)).Perm R := List.filter_append_perm p R
section
variable {G : Nat → Option (List AV)}
set_option maxHeartbeats 2000000
theorem f_split (m : Nat) (ih : ∀ k, k < m → SplOk G k) : SplOk G m := by
  intro a R s0 out hm hsp hm9 hout hs0 hinv0
  have hal := sp_len hsp
  refine fun_okH h_poly_Roots_1_ok (by decide) ?_
  unfold h_poly_Roots_1
  rcases Nat.lt_or_ge 1 m with h2 | h2
  · have d0 : (((a.length : Nat) : Int) == 0) = false := by rw [beq_eq_false_iff_ne]; omega
    have d1 : (((a.length : Nat) : Int) == 1) = false := by rw [beq_eq_false_iff_ne]; omega
    have d2 : (((a.length : Nat) : Int) == 2) = false := by rw [beq_eq_false_iff_ne]; omega
    simp only [go_sem, ↓reduceIte, List.length_map, d0, d1, d2]
    obtain ⟨x, hx, y, hy, hxy⟩ : ∃ x ∈ R, ∃ y ∈ R, x ≠ y := by
      have hn := hsp.2.1
      match R, hm with
      | [], hm => simp at hm; omega
      | [z], hm => simp at hm; omega
      | x :: y :: R, _ => exact ⟨x, by simp, y, by simp, fun e => by subst e; simp at hn⟩
    obtain ⟨σ, hσ⟩ := apart_ex hxy
    refine loop_i (fun n st => ∃ s : Nat, n = PP - s ∧ s ≤ PP ∧ (∀ x ∈ R, ∀ y ∈ R, ∀ i : Fq, i.val < s → (pw x i ↔ pw y i)) ∧ st = ⟨3, [(0, .ls 1 (fl a)), (3, .ptr 1 0), (6, .v (.int .u64 (s : Int)))], splT out⟩) (PP - s0) ⟨s0, rfl, hs0, hinv0, by simp only [go_sem, ↓reduceIte]⟩ ?_
    rintro n st ⟨s, hn, hs, hinv, hst⟩
    subst hn
    subst hst
    have hsP : s < PP := by
      rcases Nat.lt_or_ge s PP with h | h
      · exact h
      · exact absurd (propext (hinv x hx y hy σ (Nat.lt_of_lt_of_le σ.isLt h))) hσ
    have hsl : s < 2305843009213693951 := hsP
    simp only [go_sem, ↓reduceIte]
    refine call_sh [3] [0] (subL_refl _) (args3 := [.ls 1 (fl [⟨s, hsP⟩, 1]), .v (.int .u64 ((1152921504606846975 : Nat) : Int)), .ls 1 (fl a)]) (by decide) (by simp) rfl rfl (by simp only [go_sem, ↓reduceIte]; rfl) rfl (by simp only [go_sem, ↓reduceIte]) (f_power [⟨s, hsP⟩, 1] a 1152921504606846975 (by decide) (by simp) (by omega)) (by simp only [go_sem, ↓reduceIte]) ?_
    have lp := powL_len (md := a) hsp.1 (by omega) 61 1152921504606846975 [1] [⟨s, hsP⟩, 1] (by simp; omega)
    simp only [go_sem, ↓reduceIte]
    refine call_sh [4] [0] (subL_refl _) (args3 := [.ls 1 (fl (powL a 61 1152921504606846975 [1] [⟨s, hsP⟩, 1])), .ls 1 (fl [⟨2305843009213693950, by decide⟩])]) (by decide) (by simp) rfl rfl (by simp only [go_sem, ↓reduceIte]; rfl) rfl (by simp only [go_sem, ↓reduceIte]) (f_PAdd _ _ (by omega) (by simp)) (by simp only [go_sem, ↓reduceIte]) ?_
    have hce : ∀ t, ev (addL (powL a 61 1152921504606846975 [1] [⟨s, hsP⟩, 1]) [⟨2305843009213693950, by decide⟩]) t = ev (powL a 61 (NN / 2) [1] [⟨s, hsP⟩, 1]) t - 1 := fun t => by
      rw [addL_ev, ev_m1, f_am1]
      rfl
    have hcl : (addL (powL a 61 1152921504606846975 [1] [⟨s, hsP⟩, 1]) [⟨2305843009213693950, by decide⟩]).length ≤ R.length + 1 := by
      refine Nat.le_trans (trimL_len _) ?_
      rw [pa_len]
      simp
      omega
    generalize addL (powL a 61 1152921504606846975 [1] [⟨s, hsP⟩, 1]) [⟨2305843009213693950, by decide⟩] = c at hce hcl
    simp only [go_sem, ↓reduceIte]
    refine call_pure (subL_refl _) (by simp only [go_sem, ↓reduceIte]) (f_Gcd a c (by omega) (by omega)) (by simp only [go_sem, ↓reduceIte]) ?_
    obtain ⟨hA, hB⟩ := split_step (s := ⟨s, hsP⟩) hsp (by omega) (by omega) hce hcl
    have lA := sp_len hA
    have lB := sp_len hB
    have lAB := split_len (R := R) (fun z => decide ((z + ⟨s, hsP⟩) ^ (NN / 2) = 1))
    have pAB := split_perm (R := R) (fun z => decide ((z + ⟨s, hsP⟩) ^ (NN / 2) = 1))
    have eB : (R.filter fun z => decide (¬ (z + ⟨s, hsP⟩) ^ (NN / 2) = 1)) = R.filter fun z => ! decide ((z + ⟨s, hsP⟩) ^ (NN / 2) = 1) := by
      apply List.filter_congr; intro z _; simp
    rw [eB] at hB lB
    by_cases hk : 1 < (gcdL a c).length ∧ (gcdL a c).length < a.length
    · have t1 : decide ((((gcdL a c).length : Nat) : Int) > 1) = true := decide_eq_true (by omega)
      have t2 := dlt_t hk.2
      have b1 := pbin_addU1 s (by omega)
      have hsub : ∀ p : Fq → Bool, ∀ x ∈ R.filter p, x ∈ R := fun p x hx => (List.mem_filter.1 hx).1
      simp only [go_sem, ↓reduceIte, List.length_map, t1, t2]
      refine call_pure (subL_refl _) (by simp only [go_sem, ↓reduceIte]) (f_DivMod a (gcdL a c) (by omega) (by omega)) (by simp only [go_sem, ↓reduceIte]) ?_
      simp only [go_sem, ↓reduceIte, ↓b1]
      have i1 : ∀ x ∈ R.filter (fun z => decide ((z + ⟨s, hsP⟩) ^ (NN / 2) = 1)), ∀ y ∈ R.filter (fun z => decide ((z + ⟨s, hsP⟩) ^ (NN / 2) = 1)), ∀ i : Fq, i.val < s + 1 → (pw x i ↔ pw y i) := fun x hx y hy i hi => by
        rcases Nat.lt_or_ge i.val s with h | h
        · exact hinv x (hsub _ x hx) y (hsub _ y hy) i h
        · obtain rfl : i = ⟨s, hsP⟩ := Fin.ext (by simp; omega)
          have k1 := (List.mem_filter.1 hx).2
          have k2 := (List.mem_filter.1 hy).2
          simp only [decide_eq_true_eq] at k1 k2
          exact ⟨fun _ => k2, fun _ => k1⟩
      have i2 : ∀ x ∈ R.filter (fun z => ! decide ((z + ⟨s, hsP⟩) ^ (NN / 2) = 1)), ∀ y ∈ R.filter (fun z => ! decide ((z + ⟨s, hsP⟩) ^ (NN / 2) = 1)), ∀ i : Fq, i.val < s + 1 → (pw x i ↔ pw y i) := fun x hx y hy i hi => by
        rcases Nat.lt_or_ge i.val s with h | h
        · exact hinv x (hsub _ x hx) y (hsub _ y hy) i h
        · obtain rfl : i = ⟨s, hsP⟩ := Fin.ext (by simp; omega)
          have k1 := (List.mem_filter.1 hx).2
          have k2 := (List.mem_filter.1 hy).2
          simp only [Bool.not_eq_eq_eq_not, Bool.not_true, decide_eq_false_iff_not] at k1 k2
          exact ⟨fun h => absurd h k1, fun h => absurd h k2⟩
      generalize R.filter (fun z => decide ((z + ⟨s, hsP⟩) ^ (NN / 2) = 1)) = RA at *
      generalize R.filter (fun z => ! decide ((z + ⟨s, hsP⟩) ^ (NN / 2) = 1)) = RB at *
      refine call_at [0, 1, 2] (subL_refl _) (by decide) (by simp) (by simp only [go_sem, ↓reduceIte]) (by simp only [go_sem, ↓reduceIte]) (ih RA.length (by omega) (gcdL a c) RA (s + 1) out rfl hA (by omega) (by omega) (by omega) i1) ?_
      rintro r T' ⟨ZA, pA, hT⟩
      have lZ := pA.length_eq
      have lo1 : (out ++ ZA.map (·.val)).length + RB.length ≤ 50000 := by rw [List.length_append, List.length_map]; omega
      have fin : ∀ ZB : List Fq, ZB.Perm RB → ∀ T', (T' = splT (out ++ ZA.map (·.val) ++ ZB.map (·.val)) ∨ T' = splT2 (out ++ ZA.map (·.val) ++ ZB.map (·.val))) → SplPost R out T' := fun ZB pB T' h =>
        ⟨ZA ++ ZB, (pA.append pB).trans pAB, by rwa [List.map_append, ← List.append_assoc]⟩
      generalize out ++ ZA.map (·.val) = o1 at hT lo1 fin
      rcases hT with hT | hT
      · subst hT
        simp only [go_sem, ↓reduceIte, ↓b1]
        refine call_at [0, 1, 2] (subL_refl _) (by decide) (by simp) (by simp only [go_sem, ↓reduceIte]) (by simp only [go_sem, ↓reduceIte]) (ih RB.length (by omega) _ RB (s + 1) _ rfl hB (by omega) lo1 (by omega) i2) ?_
        rintro r T' ⟨ZB, pB, hT⟩
        have fin := fin ZB pB
        generalize o1 ++ ZB.map (·.val) = o2 at hT fin
        rcases hT with hT | hT
        · subst hT
          simp only [go_sem, ↓reduceIte]
          exact fin _ (.inl rfl)
        · subst hT
          simp only [go_sem, ↓reduceIte]
          exact fin _ (.inr rfl)
      · subst hT
        simp only [go_sem, ↓reduceIte, ↓b1]
        refine call_at [0, 1, 5] (subL_refl _) (by decide) (by simp) (by simp only [go_sem, ↓reduceIte]) (by simp only [go_sem, ↓reduceIte]) (ih RB.length (by omega) _ RB (s + 1) _ rfl hB (by omega) lo1 (by omega) i2) ?_
        rintro r T' ⟨ZB, pB, hT⟩
        have fin := fin ZB pB
        generalize o1 ++ ZB.map (·.val) = o2 at hT fin
        rcases hT with hT | hT
        · subst hT
          simp only [go_sem, ↓reduceIte]
          exact fin _ (.inr rfl)
        · subst hT
          simp only [go_sem, ↓reduceIte]
          exact fin _ (.inr rfl)
    · have hnext : ∀ x ∈ R, ∀ y ∈ R, ∀ i : Fq, i.val < s + 1 → (pw x i ↔ pw y i) := fun x hx y hy i hi => by
        rcases Nat.lt_or_ge i.val s with h | h
        · exact hinv x hx y hy i h
        · obtain rfl : i = ⟨s, hsP⟩ := Fin.ext (by simp; omega)
          by_cases hz : (R.filter fun z => decide ((z + ⟨s, hsP⟩) ^ (NN / 2) = 1)).length = 0
          · have := List.eq_nil_of_length_eq_zero hz
            rw [List.filter_eq_nil_iff] at this
            have k1 := this x hx
            have k2 := this y hy
            simp only [decide_eq_true_eq] at k1 k2
            exact ⟨fun h => absurd h k1, fun h => absurd h k2⟩
          · have hfull : (R.filter fun z => decide ((z + ⟨s, hsP⟩) ^ (NN / 2) = 1)).length = R.length := by omega
            rw [List.length_filter_eq_length_iff] at hfull
            have k1 := hfull x hx
            have k2 := hfull y hy
            simp only [decide_eq_true_eq] at k1 k2
            exact ⟨fun _ => k2, fun _ => k1⟩
      have b1 := pbin_addU1 s (by omega)
      by_cases h1 : 1 < (gcdL a c).length
      · have t1 : decide ((((gcdL a c).length : Nat) : Int) > 1) = true := decide_eq_true (by omega)
        have t2 := dlt_f (a := (gcdL a c).length) (b := a.length) (fun h => hk ⟨h1, h⟩)
        simp only [go_sem, ↓reduceIte, List.length_map, t1, t2, ↓b1]
        exact ⟨PP - (s + 1), by omega, s + 1, rfl, by omega, hnext, rfl⟩
      · have t1 : decide ((((gcdL a c).length : Nat) : Int) > 1) = false := decide_eq_false (by omega)
        simp only [go_sem, ↓reduceIte, List.length_map, t1, ↓b1]
        exact ⟨PP - (s + 1), by omega, s + 1, rfl, by omega, hnext, rfl⟩
  · rcases Nat.eq_zero_or_pos m with h0 | h0
    · have e : a.length = 1 := by omega
      have eR : R = [] := List.eq_nil_of_length_eq_zero (by omega)
      subst eR
      simp only [go_sem, ↓reduceIte, List.length_map, e]
      exact ⟨[], .refl _, .inl (by simp)⟩
    · have e : a.length = 2 := by omega
      obtain ⟨z, rfl⟩ : ∃ z, R = [z] := by
        match R, hm with
        | [], hm => simp at hm; omega
        | [z], _ => exact ⟨z, rfl⟩
        | _ :: _ :: _, hm => simp at hm; omega
      obtain ⟨f, hf, hfl⟩ := hsp.1
      obtain ⟨c, rfl⟩ : ∃ c, f = [c] := by
        match f, hfl with
        | [], h => simp at h
        | [c], _ => exact ⟨c, rfl⟩
        | _ :: _ :: _, h => simp at h
      have hz : ev a z = 0 := (hsp.2.2 z).2 (by simp)
      have hzc : z = 0 - c := by
        rw [hf] at hz
        simp only [List.cons_append, List.nil_append, ev, f_mz, f_az] at hz
        grind
      subst hf
      have lo : (List.length out + 1) * 8 ≤ 140737488355328 := by omega
      have lo2 : List.length out + 1 ≤ maxLen := by unfold maxLen; omega
      simp only [go_sem, ↓reduceIte, fl]
      refine call_pure (subL_refl _) (by simp only [go_sem, ↓reduceIte]) (f_Neg c) (by simp only [go_sem, ↓reduceIte]) ?_
      simp only [go_sem, ↓reduceIte, List.length_map, lo, lo2]
      refine ⟨[z], .refl _, .inr ?_⟩
      subst hzc
      simp [splT2, ul]
theorem f_split_all (m : Nat) : SplOk G m := Nat.strongRecOn m fun m ih => f_split m ih
end
end Hud
end
section
namespace Hud
open Go
def RootsOf (a : List Fq) (l : List Nat) : Prop := (∀ n ∈ l, n < PP) ∧ l.Pairwise (· < ·) ∧ ∀ z : Fq, z.val ∈ l ↔ ev a z = 0
theorem sr_pairwise {l : List Nat} (h : SR 0 l.length l) : l.Pairwise (· ≤ ·) := by
  rw [List.pairwise_iff_getElem]
  intro i j hi hj hij
  have := h i j (Nat.zero_le _) (by omega) hj
  simpa [List.getD_eq_getElem?_getD, hi, hj] using this
theorem strict_of {l : List Nat} (h : l.Pairwise (· ≤ ·)) (hn : l.Nodup) : l.Pairwise (· < ·) := by
  refine (List.Pairwise.and h hn).imp fun ⟨h1, h2⟩ => by omega
theorem monL_mon {d : Nat} {a : List Fq} (ha : mon d a) : monL a = a := by
  obtain ⟨f, rfl, _⟩ := ha
  have e : lastF (f ++ [1]) = 1 := by simp [lastF, List.getD_eq_getElem?_getD]
  have e2 : inv (1 : Fq) = 1 := by have := inv_mul fq10; rwa [f_om] at this
  unfold monL
  rw [if_neg (by simp), e, e2]
  unfold ps
  have : (fun x : Fq => 1 * x) = id := by funext x; exact f_om x
  rw [this, List.map_id]
section
variable {G : Nat → Option (List AV)}
theorem s_pdq_all (n : Nat) : PdOk G n := Nat.strongRecOn n fun n ih => s_pdq n ih
theorem s_sort (l : List Nat) (hl : l.length ≤ 60000) : CallOk Go.Proofs.Tryz.prog G n_slices_Sort_Luint64_uint64 [.own 0] [some (.arr 1 (ul l))] (SortPost l fun _ l' => l'.Perm l ∧ l'.Pairwise (· ≤ ·)) := by
  refine fun_okH h_slices_Sort_Luint64_uint64_ok (by decide) ?_
  unfold h_slices_Sort_Luint64_uint64
  simp only [go_sem, ↓reduceIte, List.length_map, u64_wrap l.length (by omega)]
  refine call_post (subL_refl _) rfl (s_Len l.length (by omega)) ?_
  rintro r T' ⟨⟨k, hr, h1, h2, h3⟩, hT⟩
  subst hr
  subst hT
  simp only [go_sem, ↓reduceIte]
  refine call_at [0] (subL_refl _) (by decide) (by simp) rfl rfl (s_pdq_all (l.length - 0) l 0 l.length k rfl (Nat.zero_le _) (Nat.le_refl _) hl (by omega) (.inl rfl)) ?_
  rintro r T' ⟨l2, ⟨hp, hs⟩, hT⟩
  subst hT
  simp only [go_sem, ↓reduceIte]
  refine ⟨l2, ⟨hp.2.2, sr_pairwise ?_⟩, rfl⟩
  rw [hp.1]; exact hs
theorem ev_mx (t : Fq) : ev [0, (⟨2305843009213693950, by decide⟩ : Fq)] t = 0 - t := by
  rw [nn_lit]; simp only [ev, f_mz, f_az, f_za]
  have : ∀ a t : Fq, t * (0 - a) = 0 - t * a := fun a t => by grind
  rw [this, f_mo]
set_option maxHeartbeats 2000000
theorem f_Roots (d : Nat) (a : List Fq) (ha : mon d a) (hd : d ≤ 900) : CallOk Go.Proofs.Tryz.prog G n_poly_Roots [.ls 1 (fl a)] [] fun r T' => ∃ l, RootsOf a l ∧ r = .ls 1 (ul l) ∧ T' = [] := by
  have key : CallOk Go.Proofs.Tryz.prog G n_poly_Roots [.ls 1 (fl a)] [] fun r T' => ∃ l, RootsOf a l ∧ r = .own 0 ∧ T' = [some (.arr 1 (ul l))] := by
    have hal := mon_len ha
    have htr := trimL_id (mon_tr ha)
    refine fun_okH h_poly_Roots_ok (by decide) ?_
    unfold h_poly_Roots
    simp only [go_sem, ↓reduceIte]
    refine call_pure (subL_refl _) (by simp only [go_sem, ↓reduceIte]) (f_TrimS a (by omega)) (by simp only [go_sem, ↓reduceIte]) ?_
    simp only [go_sem, ↓reduceIte, htr]
    refine call_pure (subL_refl _) (by simp only [go_sem, ↓reduceIte]) (f_monic a (by omega)) (by simp only [go_sem, ↓reduceIte]) ?_
    simp only [go_sem, ↓reduceIte, monL_mon ha, List.length_map]
    rcases Nat.eq_zero_or_pos d with h0 | h0
    · simp only [go_sem, ↓reduceIte, show decide (((a.length : Nat) : Int) < 2) = true from decide_eq_true (by omega)]
      refine ⟨[], ⟨by simp, .nil, fun z => ?_⟩, rfl⟩
      obtain ⟨f, rfl, hf⟩ := ha
      obtain rfl : f = [] := List.eq_nil_of_length_eq_zero (by omega)
      simp only [List.nil_append, ev, f_mz, f_az]
      exact ⟨fun h => absurd h (by simp), fun h => absurd h fq10⟩
    · simp only [go_sem, ↓reduceIte, show decide (((a.length : Nat) : Int) < 2) = false from decide_eq_false (by omega)]
      refine call_sh [0] [0] (subL_refl _) (args3 := [.ls 1 (fl [0, 1]), .v (.int .u64 ((2305843009213693951 : Nat) : Int)), .ls 1 (fl a)]) (by decide) (by simp) rfl rfl (by simp only [go_sem, ↓reduceIte]; rfl) rfl (by simp only [go_sem, ↓reduceIte]) (f_power [0, 1] a 2305843009213693951 (by decide) (by simp) (by omega)) (by simp only [go_sem, ↓reduceIte]) ?_
      have lp := powL_len (md := a) ha h0 61 2305843009213693951 [1] [0, 1] (by simp; omega)
      simp only [go_sem, ↓reduceIte]
      refine call_sh [1] [0] (subL_refl _) (args3 := [.ls 1 (fl (powL a 61 2305843009213693951 [1] [0, 1])), .ls 1 (fl [0, ⟨2305843009213693950, by decide⟩])]) (by decide) (by simp) rfl rfl (by simp only [go_sem, ↓reduceIte]; rfl) rfl (by simp only [go_sem, ↓reduceIte]) (f_PAdd _ _ (by omega) (by simp)) (by simp only [go_sem, ↓reduceIte]) ?_
      have hce : ∀ t, ev (addL (powL a 61 2305843009213693951 [1] [0, 1]) [0, ⟨2305843009213693950, by decide⟩]) t = ev (powL a 61 PP [1] [0, 1]) t - t := fun t => by
        rw [addL_ev, ev_mx, f_amz]
        rfl
      have hcl : (addL (powL a 61 2305843009213693951 [1] [0, 1]) [0, ⟨2305843009213693950, by decide⟩]).length ≤ d + 1 := by
        refine Nat.le_trans (trimL_len _) ?_
        rw [pa_len]
        simp
        omega
      generalize addL (powL a 61 2305843009213693951 [1] [0, 1]) [0, ⟨2305843009213693950, by decide⟩] = c at hce hcl
      simp only [go_sem, ↓reduceIte]
      refine call_pure (subL_refl _) (by simp only [go_sem, ↓reduceIte]) (f_Gcd a c (by omega) (by omega)) (by simp only [go_sem, ↓reduceIte]) ?_
      obtain ⟨R, hR, hRl, hRz⟩ := frob_split ha h0 (by omega) hce hcl
      simp only [go_sem, ↓reduceIte]
      refine call_at [2, 4, 3] (subL_refl _) (by decide) (by simp) (by simp only [go_sem, ↓reduceIte]) (by simp only [go_sem, ↓reduceIte]; rfl) (f_split_all R.length (gcdL a c) R 0 [] rfl hR (by omega) (by simp; omega) (Nat.zero_le _) (fun _ _ _ _ i hi => absurd hi (Nat.not_lt_zero _))) ?_
      rintro r T' ⟨Z, pZ, hT⟩
      rw [List.nil_append] at hT
      have done : ∀ l2 : List Nat, l2.Perm (Z.map (·.val)) → l2.Pairwise (· ≤ ·) → RootsOf a l2 := fun l2 h1 h2 => by
        refine ⟨fun n hn => ?_, strict_of h2 (h1.nodup_iff.2 ?_), fun z => ?_⟩
        · obtain ⟨z, _, rfl⟩ := List.mem_map.1 (h1.mem_iff.1 hn)
          exact z.isLt
        · exact List.Pairwise.map _ (fun a b h e => h (Fin.ext e)) (pZ.nodup_iff.2 hR.2.1)
        · rw [h1.mem_iff, List.mem_map, ← hRz]
          constructor
          · rintro ⟨y, hy, e⟩; rw [← Fin.ext e]; exact pZ.mem_iff.1 hy
          · intro h; exact ⟨z, pZ.mem_iff.2 h, rfl⟩
      have lZ : (Z.map (·.val)).length ≤ 60000 := by rw [List.length_map, pZ.length_eq]; omega
      generalize Z.map (·.val) = o1 at hT done lZ
      rcases hT with hT | hT
      · subst hT
        simp only [go_sem, ↓reduceIte]
        refine call_at [3] (subL_refl _) (by decide) (by simp) (by simp only [go_sem, ↓reduceIte]) (by simp only [go_sem, ↓reduceIte]) (s_sort o1 lZ) ?_
        rintro r T' ⟨l2, ⟨hp, hs⟩, hT⟩
        subst hT
        simp only [go_sem, ↓reduceIte]
        exact ⟨l2, done l2 hp hs, rfl⟩
      · subst hT
        simp only [go_sem, ↓reduceIte]
        refine call_at [5] (subL_refl _) (by decide) (by simp) (by simp only [go_sem, ↓reduceIte]) (by simp only [go_sem, ↓reduceIte]) (s_sort o1 lZ) ?_
        rintro r T' ⟨l2, ⟨hp, hs⟩, hT⟩
        subst hT
        simp only [go_sem, ↓reduceIte]
        exact ⟨l2, done l2 hp hs, rfl⟩
  refine key.fin [0] ?_
  rintro r T' ⟨l, hl, rfl, rfl⟩
  simp only [go_sem, ↓reduceIte]
  exact ⟨l, hl, rfl⟩
end
end Hud
end
section
namespace Hud
open Go
def SS (L : List Fq) : Prop := L.Pairwise fun a b => a.val < b.val
def EF (x : Id) : Fq := elemF x.a x.b x.c
def okI (a : List Id) : Prop := ∀ x ∈ a, 0 ≤ x.c ∧ x.c < 18446744073709551616
def insF (L : List Fq) (z : Fq) : List Fq := if z ∈ L then L else (L.filter fun y => decide (y.val < z.val)) ++ [z] ++ (L.filter fun y => decide (z.val < y.val))
def setF (l : List Fq) : List Fq := l.foldl insF []
def elemsL (a : List Id) : List Fq := setF (a.map EF)
theorem insF_mem {L : List Fq} {z y : Fq} : y ∈ insF L z ↔ y ∈ L ∨ y = z := by
  unfold insF
  split
  · rename_i h
    exact ⟨.inl, fun h2 => h2.elim id fun e => e ▸ h⟩
  · simp only [List.mem_append, List.mem_filter, List.mem_singleton, decide_eq_true_eq]
    constructor
    · rintro ((h | h) | h)
      · exact .inl h.1
      · exact .inr h
      · exact .inl h.1
    · rintro (h | h)
      · rcases Nat.lt_trichotomy y.val z.val with h1 | h1 | h1
        · exact .inl (.inl ⟨h, h1⟩)
        · exact .inl (.inr (Fin.ext h1))
        · exact .inr ⟨h, h1⟩
      · exact .inl (.inr h)
theorem insF_ss {L : List Fq} {z : Fq} (h : SS L) : SS (insF L z) := by
  unfold insF
  split
  · exact h
  · rw [List.append_assoc]
    refine List.pairwise_append.2 ⟨h.filter _, List.pairwise_append.2 ⟨List.pairwise_singleton _ _, h.filter _, ?_⟩, ?_⟩
    · intro a ha b hb
      rw [List.mem_singleton.1 ha]
      simpa using (List.mem_filter.1 hb).2
    · intro a ha b hb
      have h1 : a.val < z.val := by simpa using (List.mem_filter.1 ha).2
      rcases List.mem_append.1 hb with hb | hb
      · rw [List.mem_singleton.1 hb]; exact h1
      · have h2 : z.val < b.val := by simpa using (List.mem_filter.1 hb).2
        omega
theorem fold_insF (l : List Fq) : ∀ L, SS L → SS (l.foldl insF L) ∧ ∀ z, z ∈ l.foldl insF L ↔ z ∈ L ∨ z ∈ l := by
  induction l with
  | nil => intro L h; exact ⟨h, fun z => by simp⟩
  | cons x l ih =>
    intro L h
    obtain ⟨h1, h2⟩ := ih (insF L x) (insF_ss h)
    refine ⟨h1, fun z => ?_⟩
    rw [List.foldl_cons, h2, insF_mem, List.mem_cons, or_assoc]
theorem setF_ss (l : List Fq) : SS (setF l) := (fold_insF l [] .nil).1
theorem setF_mem (l : List Fq) (z : Fq) : z ∈ setF l ↔ z ∈ l := by rw [setF, (fold_insF l [] .nil).2]; simp
theorem ss_nodup {L : List Fq} (h : SS L) : L.Nodup := List.Pairwise.imp (fun h e => by rw [e] at h; omega) h
theorem ss_ext : ∀ {L M : List Fq}, SS L → SS M → (∀ z, z ∈ L ↔ z ∈ M) → L = M
  | [], [], _, _, _ => rfl
  | [], m :: M, _, _, h => absurd ((h m).2 (by simp)) (by simp)
  | l :: L, [], _, _, h => absurd ((h l).1 (by simp)) (by simp)
  | l :: L, m :: M, h1, h2, h => by
    obtain ⟨a1, a2⟩ := List.pairwise_cons.1 h1
    obtain ⟨b1, b2⟩ := List.pairwise_cons.1 h2
    have e : l = m := by
      rcases List.mem_cons.1 ((h l).1 (by simp)) with e | e
      · exact e
      · rcases List.mem_cons.1 ((h m).2 (by simp)) with e2 | e2
        · exact e2.symm
        · have := b1 l e
          have := a1 m e2
          omega
    subst e
    rw [ss_ext a2 b2 fun z => ?_]
    constructor
    · intro hz
      rcases List.mem_cons.1 ((h z).1 (by simp [hz])) with e | e
      · have := a1 z hz; rw [e] at this; omega
      · exact e
    · intro hz
      rcases List.mem_cons.1 ((h z).2 (by simp [hz])) with e | e
      · have := b1 z hz; rw [e] at this; omega
      · exact e
theorem fl_ul (l : List Fq) : fl l = ul (l.map (·.val)) := by simp [fl, ul]
theorem lift_ex : ∀ l : List Nat, (∀ n ∈ l, n < PP) → ∃ L : List Fq, l = L.map (·.val)
  | [], _ => ⟨[], rfl⟩
  | n :: l, h => by
    obtain ⟨L, hL⟩ := lift_ex l fun m hm => h m (by simp [hm])
    exact ⟨⟨n, h n (by simp)⟩ :: L, by simp [hL]⟩
section
variable {G : Nat → Option (List AV)}
set_option maxHeartbeats 2000000
theorem ul_set (l : List Nat) (i n : Nat) : (ul l).set i [.v (.int .u64 (n : Int))] = ul (l.set i n) := by simp only [ul, List.map_set]
def CpPost (l : List Nat) (r : AV) (T : Tab) : Prop := ∃ (L : List Nat) (n : Nat), n ≤ L.length ∧ (L.take n).Pairwise (· < ·) ∧ (∀ z, z ∈ L.take n ↔ z ∈ l) ∧ ((r = .own 0 ∧ n = L.length) ∨ r = .vw 0 1 0 n) ∧ T = [some (.arr 1 (ul L))]
theorem pw_snoc {L : List Nat} {x : Nat} (h : L.Pairwise (· < ·)) (h2 : ∀ y ∈ L, y < x) : (L ++ [x]).Pairwise (· < ·) :=
  List.pairwise_append.2 ⟨h, List.pairwise_singleton _ _, fun a ha b hb => by rw [List.mem_singleton.1 hb]; exact h2 a ha⟩
theorem le_at {l : List Nat} (hs : l.Pairwise (· ≤ ·)) {i j : Nat} (h : i ≤ j) (hj : j < l.length) : l[i] ≤ l[j] := by
  rcases Nat.lt_or_ge i j with h1 | h1
  · exact List.pairwise_iff_getElem.1 hs i j (by omega) hj h1
  · obtain rfl : i = j := by omega
    exact Nat.le_refl _
theorem mem_take_le {l : List Nat} (hs : l.Pairwise (· ≤ ·)) {j : Nat} (hj : j < l.length) {y : Nat} (hy : y ∈ l.take (j + 1)) : y ≤ l[j] := by
  obtain ⟨i, hi, rfl⟩ := List.getElem_of_mem hy
  rw [List.length_take] at hi
  rw [List.getElem_take]
  exact le_at hs (by omega) hj
theorem s_Compact (l : List Nat) (hs : l.Pairwise (· ≤ ·)) (hl : l.length ≤ 1000000) : CallOk Go.Proofs.Tryz.prog G n_slices_Compact_Luint64_uint64 [.own 0] [some (.arr 1 (ul l))] (CpPost l) := by
  refine fun_okH h_slices_Compact_Luint64_uint64_ok (by decide) ?_
  unfold h_slices_Compact_Luint64_uint64
  by_cases h2 : l.length < 2
  · simp only [go_sem, ↓reduceIte, List.length_map, show decide (((l.length : Nat) : Int) < 2) = true from decide_eq_true (by omega)]
    refine ⟨l, l.length, Nat.le_refl _, ?_, by simp, .inl ⟨rfl, rfl⟩, rfl⟩
    rw [List.take_length]
    match l, h2 with
    | [], _ => exact .nil
    | [x], _ => exact List.pairwise_singleton _ _
  have whole : (l.take l.length).Pairwise (· < ·) → CpPost l (.own 0) [some (.arr 1 (ul l))] := fun h => ⟨l, l.length, Nat.le_refl _, h, by simp, .inl ⟨rfl, rfl⟩, rfl⟩
  simp only [go_sem, ↓reduceIte, List.length_map, show decide (((l.length : Nat) : Int) < 2) = false from decide_eq_false (by omega)]
  refine loop_i (fun m s => ∃ k : Nat, m = l.length - k ∧ 1 ≤ k ∧ k ≤ l.length ∧ (l.take k).Pairwise (· < ·) ∧ s = ⟨1, [(0, .own 0), (3, .v (.int .i64 (k : Int)))], [some (.arr 1 (ul l))]⟩) (l.length - 1) ⟨1, rfl, Nat.le_refl _, by omega, ?_, by simp only [go_sem, ↓reduceIte]⟩ ?_
  · match l with
    | [] => exact .nil
    | x :: l => simp
  rintro m s ⟨k, rfl, hk1, hk2, hp, rfl⟩
  have w1 : IntKind.i64.wrap ((k : Int) - 1) = ((k - 1 : Nat) : Int) := by rw [wrap_i64 (by omega) (by omega)]; omega
  by_cases hlt : k < l.length
  · have g1 := ul_get l k hlt
    have g2 := ul_get l (k - 1) (by omega)
    simp only [go_sem, ↓reduceIte, List.length_map, dlt_t hlt, w1, hlt, show k - 1 < l.length by omega, g1, g2]
    have e1 : l.getD k 0 = l[k] := by simp [List.getD_eq_getElem?_getD, hlt]
    have e2 : l.getD (k - 1) 0 = l[k - 1] := by simp [List.getD_eq_getElem?_getD, show k - 1 < l.length by omega]
    rw [e1, e2]
    have hle := le_at hs (show k - 1 ≤ k by omega) hlt
    have hmemk : ∀ z, z ∈ l.take k → z ≤ l[k - 1] := fun z hz => mem_take_le hs (j := k - 1) (by omega) (by rw [show k - 1 + 1 = k by omega]; exact hz)
    refine condW_i (fun h => ?_) (fun h => ?_)
    · have heq : l[k] = l[k - 1] := by have := eq_of_beq h; omega
      simp only [go_sem, ↓reduceIte, List.length_map, Nat.min_self, show k ≤ l.length by omega, Nat.le_refl, Nat.zero_le]
      refine loop_i (fun m s => ∃ (i j : Nat) (L : List Nat), m = l.length - j ∧ 1 ≤ i ∧ i < j ∧ k + 1 ≤ j ∧ j ≤ l.length ∧ L.length = l.length ∧ (L.take i).Pairwise (· < ·) ∧ (∀ z, z ∈ L.take i ↔ z ∈ l.take j) ∧ L.drop (j - 1) = l.drop (j - 1) ∧
        s = ⟨1, [(0, .own 0), (3, .v (.int .i64 (i : Int))), (4, .vw 0 1 k (l.length - k)), (5, .v (.int .i64 ((j - k : Nat) : Int)))], [some (.arr 1 (ul L))]⟩) (l.length - (k + 1)) ⟨k, k + 1, l, rfl, hk1, by omega, by omega, by omega, rfl, hp, fun z => ?_, rfl, ?_⟩ ?_
      · rw [List.take_succ_eq_append_getElem hlt, List.mem_append, List.mem_singleton]
        refine ⟨.inl, fun h => h.elim id fun e => ?_⟩
        rw [e, heq]
        exact List.mem_take_iff_getElem.2 ⟨k - 1, by omega, rfl⟩
      · simp only [go_sem, ↓reduceIte, show k + 1 - k = 1 by omega]
      rintro m s ⟨i, j, L, rfl, hi1, hij, hkj, hj, hL, hLp, hLm, hLd, rfl⟩
      by_cases hlt2 : j < l.length
      · have hj1 : L.getD j 0 = l[j] := by
          have : (L.drop (j - 1))[1]? = (l.drop (j - 1))[1]? := by rw [hLd]
          rw [List.getElem?_drop, List.getElem?_drop, show j - 1 + 1 = j by omega, List.getElem?_eq_getElem hlt2] at this
          rw [List.getD_eq_getElem?_getD, this]; rfl
        have hj2 : L.getD (j - 1) 0 = l[j - 1] := by
          have : (L.drop (j - 1))[0]? = (l.drop (j - 1))[0]? := by rw [hLd]
          rw [List.getElem?_drop, List.getElem?_drop, show j - 1 + 0 = j - 1 by omega, List.getElem?_eq_getElem (show j - 1 < l.length by omega)] at this
          rw [List.getD_eq_getElem?_getD, this]; rfl
        have g3 := ul_get L j (by omega)
        have g4 := ul_get L (j - 1) (by omega)
        have w2 : IntKind.i64.wrap (((j - k : Nat) : Int) - 1) = ((j - k - 1 : Nat) : Int) := by rw [wrap_i64 (by omega) (by omega)]; omega
        have t1 : decide (((j - k : Nat) : Int) < ((l.length - k : Nat) : Int)) = true := decide_eq_true (by omega)
        rw [hj1] at g3
        rw [hj2] at g4
        have dj : L.drop j = l.drop j := by
          have := congrArg (List.drop 1) hLd
          rwa [List.drop_drop, List.drop_drop, show j - 1 + 1 = j by omega] at this
        have hle2 := le_at hs (show j - 1 ≤ j by omega) hlt2
        simp only [go_sem, ↓reduceIte, t1, w2, List.length_map, hL, show j - k < l.length - k by omega, show j - k - 1 < l.length - k by omega, show k + (j - k) = j by omega, show k + (j - k - 1) = j - 1 by omega, g3, g4]
        refine condW_i (fun h => ?_) (fun h => ?_)
        · have hne : l[j] ≠ l[j - 1] := fun e => by rw [e] at h; simp at h
          simp only [go_sem, ↓reduceIte, t1, w2, List.length_map, hL, show j - k < l.length - k by omega, show k + (j - k) = j by omega, show i < l.length by omega, g3, ul_get L i (by omega), wrap_suc (show i < 9223372036854775807 by omega), wrap_suc (show j - k < 9223372036854775807 by omega)]
          refine ⟨l.length - (j + 1), by omega, i + 1, j + 1, L.set i l[j], rfl, by omega, by omega, by omega, by omega, by simpa using hL, ?_, fun z => ?_, ?_, ?_⟩
          · rw [List.take_succ_eq_append_getElem (by rw [List.length_set]; omega), List.getElem_set_self, List.take_set_of_le (Nat.le_refl i)]
            refine pw_snoc hLp fun y hy => ?_
            have := mem_take_le hs (j := j - 1) (by omega) (y := y) (by rw [show j - 1 + 1 = j by omega]; exact (hLm y).1 hy)
            omega
          · rw [List.take_succ_eq_append_getElem (by rw [List.length_set]; omega), List.getElem_set_self, List.take_set_of_le (Nat.le_refl i), List.take_succ_eq_append_getElem hlt2, List.mem_append, List.mem_append, hLm]
          · rw [Nat.add_sub_cancel, List.drop_set_of_lt (by omega), dj]
          · rw [show j - k + 1 = j + 1 - k by omega, ul_set]
        · have hne : l[j] = l[j - 1] := by
            have h : (((l[j] : Nat) : Int) != ((l[j - 1] : Nat) : Int)) = false := h
            simp at h
            omega
          simp only [go_sem, ↓reduceIte, wrap_suc (show j - k < 9223372036854775807 by omega)]
          refine ⟨l.length - (j + 1), by omega, i, j + 1, L, rfl, by omega, by omega, by omega, by omega, hL, hLp, fun z => ?_, ?_, ?_⟩
          · rw [hLm, List.take_succ_eq_append_getElem hlt2, List.mem_append, List.mem_singleton]
            refine ⟨.inl, fun h => h.elim id fun e => ?_⟩
            rw [e, hne]
            exact List.mem_take_iff_getElem.2 ⟨j - 1, by omega, rfl⟩
          · rw [Nat.add_sub_cancel, dj]
          · rw [show j - k + 1 = j + 1 - k by omega]
      · obtain rfl : j = l.length := by omega
        rw [List.take_length] at hLm
        have t1 : decide (((l.length - k : Nat) : Int) < ((l.length - k : Nat) : Int)) = false := decide_eq_false (by omega)
        have hil : i ≤ l.length := by omega
        simp only [go_sem, ↓reduceIte, t1, List.length_map, hL, hil, show i + (l.length - i) = l.length by omega, List.length_replicate, List.length_take, List.length_drop, Nat.min_eq_left hil, Nat.sub_self]
        refine ⟨L.take i ++ List.replicate (l.length - i) 0, i, by simp; omega, ?_, ?_, .inr rfl, ?_⟩
        · rw [List.take_append_of_le_length (by simp; omega), List.take_take, Nat.min_self]; exact hLp
        · rw [List.take_append_of_le_length (by simp; omega), List.take_take, Nat.min_self]; exact hLm
        · simp only [ul, List.map_append, List.map_take, List.map_replicate, cast_0]
          rw [List.drop_of_length_le (by simp; omega), List.append_nil]
    · have hne : l[k] ≠ l[k - 1] := fun e => by rw [e] at h; simp at h
      simp only [go_sem, ↓reduceIte, wrap_suc (show k < 9223372036854775807 by omega)]
      refine ⟨l.length - (k + 1), by omega, k + 1, rfl, by omega, by omega, ?_, rfl⟩
      rw [List.take_succ_eq_append_getElem hlt]
      refine pw_snoc hp fun y hy => ?_
      have := hmemk y hy
      omega
  · obtain rfl : k = l.length := by omega
    simp only [go_sem, ↓reduceIte, List.length_map, dlt_f hlt]
    exact whole hp
end
end Hud
end
section
namespace Hud
open Go
theorem okI_at {a : List Id} (h : okI a) {i : Nat} (hi : i < a.length) : 0 ≤ a[i].c ∧ a[i].c < 18446744073709551616 := h _ (List.getElem_mem hi)
theorem map_take_succ {α β : Type} (f : α → β) (l : List α) (i : Nat) (h : i < l.length) : (l.take (i + 1)).map f = (l.take i).map f ++ [f l[i]] := by
  rw [List.take_succ_eq_append_getElem h, List.map_append]; rfl
theorem ss_map {L : List Fq} (h : (L.map (·.val)).Pairwise (· < ·)) : SS L := List.pairwise_map.1 h
section
variable {G : Nat → Option (List AV)}
set_option maxHeartbeats 2000000
theorem c_elemsK (a : List Id) (ha : a.length ≤ 50000) (hok : okI a) : CallOk Go.Proofs.Tryz.prog G n_recon_elems [ids a] [] fun r T => ∃ (L : List Nat) (n : Nat), n ≤ L.length ∧ L.take n = (elemsL a).map (·.val) ∧ ((r = .own 0 ∧ n = L.length) ∨ r = .vw 0 1 0 n) ∧ T = [some (.arr 1 (ul L))] := by
  have key : CallOk Go.Proofs.Tryz.prog G n_recon_elems [ids a] [] fun r T => CpPost (((a.map EF).map (·.val)).mergeSort) r T ∨ ∃ l2 : List Nat, l2.Perm ((a.map EF).map (·.val)) ∧ CpPost l2 r T := by
    refine fun_okH h_recon_elems_ok (by decide) ?_
    unfold h_recon_elems
    simp only [go_sem, ↓reduceIte, List.length_map]
    refine loop_up a.length (fun i => ⟨0, [(3, .own 0), (6, ids a), (7, .v (.int .i64 a.length)), (8, .v (.int .i64 i))], [some (.arr 1 (fl ((a.take i).map EF)))]⟩) (fun _ => True) ?_ trivial ?_ ?_
    · simp only [go_sem, ↓reduceIte]
    · intro i hi _
      have ho := okI_at hok hi
      have hl : ((a.take i).map EF).length = i := by simp; omega
      simp only [go_sem, ↓reduceIte, List.length_map, dlt_t hi, nth_map Id.A a i hi, Id.A_def]
      refine call_pure (subL_refl _) rfl (e_Elem a[i].a a[i].b a[i].c ho) rfl ?_
      have b1 : (min i a.length + 1) * 8 ≤ 140737488355328 := by omega
      have b2 : min i a.length + 1 ≤ maxLen := by unfold maxLen; omega
      simp only [go_sem, ↓reduceIte, List.length_map, b1, b2, wrap_suc (show i < 9223372036854775807 by omega), map_take_succ EF a i hi]
      rfl
    · intro _
      simp only [go_sem, ↓reduceIte, List.length_map, dlt_f (Nat.lt_irrefl _)]
      refine call_at [0] (subL_refl _) (by decide) (by simp) rfl (by simp only [go_sem, ↓reduceIte]; rw [List.take_length]; rfl) (s_sort ((a.map EF).map (·.val)) (by simp; omega)) ?_
      rintro r T' ⟨l2, ⟨hp, hs⟩, hT⟩
      subst hT
      simp only [go_sem, ↓reduceIte]
      have hl2 : l2.length ≤ 1000000 := by rw [hp.length_eq]; simp; omega
      refine call_at [0] (subL_refl _) (by decide) (by simp) rfl rfl (s_Compact l2 hs hl2) ?_
      rintro r T' ⟨L, n, h1, h2, h3, h4, hT⟩
      subst hT
      rcases h4 with ⟨hr, h5⟩ | hr
      · subst hr
        simp only [go_sem, ↓reduceIte]
        exact .inr ⟨l2, by rw [← List.map_map]; exact hp, L, n, h1, h2, h3, .inl ⟨rfl, h5⟩, rfl⟩
      · subst hr
        simp only [go_sem, ↓reduceIte]
        exact .inr ⟨l2, by rw [← List.map_map]; exact hp, L, n, h1, h2, h3, .inr rfl, rfl⟩
  refine key.mono ?_
  have fin : ∀ (l2 : List Nat), (∀ z, z ∈ l2 ↔ z ∈ (a.map EF).map (·.val)) → ∀ r T, CpPost l2 r T → ∃ (L : List Nat) (n : Nat), n ≤ L.length ∧ L.take n = (elemsL a).map (·.val) ∧ ((r = .own 0 ∧ n = L.length) ∨ r = .vw 0 1 0 n) ∧ T = [some (.arr 1 (ul L))] := by
    rintro l2 hp r T ⟨L, n, h1, h2, h3, h4, hT⟩
    refine ⟨L, n, h1, ?_, h4, hT⟩
    obtain ⟨M, hM⟩ := lift_ex (L.take n) fun m hm => by
      rw [h3, hp] at hm
      obtain ⟨z, _, rfl⟩ := List.mem_map.1 hm
      exact z.isLt
    have h5 : SS M := ss_map (by rw [← hM]; exact h2)
    have : M = elemsL a := ss_ext h5 (setF_ss _) fun z => by
      rw [elemsL, setF_mem]
      have h6 := h3 z.val
      rw [hM, hp] at h6
      have inj : ∀ K : List Fq, z.val ∈ K.map (·.val) ↔ z ∈ K := fun K => ⟨fun h => by
        obtain ⟨y, hy, e⟩ := List.mem_map.1 h
        rw [← Fin.ext e]; exact hy, fun h => List.mem_map.2 ⟨z, h, rfl⟩⟩
      rwa [inj, inj] at h6
    rw [hM, this]
  rintro r T (h | ⟨l2, hp, h⟩)
  · exact fin _ (fun z => (List.mergeSort_perm _ _).mem_iff) r T h
  · exact fin l2 (fun z => hp.mem_iff) r T h
theorem c_elems (a : List Id) (ha : a.length ≤ 50000) (hok : okI a) : CallOk Go.Proofs.Tryz.prog G n_recon_elems [ids a] [] fun r T => r = .ls 1 (fl (elemsL a)) ∧ T = [] := by
  refine (c_elemsK a ha hok).fin [0] ?_
  rintro r T' ⟨L, n, h1, h2, h4, rfl⟩
  have h5 : (ul L).take n = fl (elemsL a) := by rw [fl_ul, ← h2]; simp only [ul, List.map_take]
  generalize hE : ul L = E at h5
  have h6 : n ≤ E.length := by rw [← hE]; simp only [ul, List.length_map]; exact h1
  rcases h4 with ⟨rfl, h7⟩ | rfl
  · have h8 : E = fl (elemsL a) := by rw [← h5, List.take_of_length_le (by rw [← hE]; simp only [ul, List.length_map]; omega)]
    rw [h8]
    simp only [go_sem, ↓reduceIte]
  · simp only [go_sem, ↓reduceIte, h6, h5]
theorem s_Equal (x y : List Fq) (hx : x.length ≤ 1000000) : CallOk Go.Proofs.Tryz.prog G n_slices_Equal_Luint64_uint64 [.ls 1 (fl x), .ls 1 (fl y)] [] fun r T => r = .v (.bool (decide (x = y))) ∧ T = [] := by
  refine fun_okH h_slices_Equal_Luint64_uint64_ok (by decide) ?_
  unfold h_slices_Equal_Luint64_uint64
  simp only [go_sem, ↓reduceIte, List.length_map]
  refine condW_i (fun h => ?_) (fun h => ?_) <;> simp only [go_sem, ↓reduceIte]
  · have : x ≠ y := fun e => len_ne h (by rw [e])
    simp [this]
  have hxy := len_eq h
  refine loop_up x.length (fun i => ⟨0, [(0, .ls 1 (fl x)), (1, .ls 1 (fl y)), (12, .v (.int .i64 x.length)), (13, .v (.int .i64 i))], []⟩) (fun i => x.take i = y.take i) ?_ (by simp) ?_ ?_
  · simp only [go_sem, ↓reduceIte, List.length_map]
  · intro i hi hj
    have hy : i < y.length := by omega
    simp only [go_sem, ↓reduceIte, List.length_map, dlt_t hi, fl_get x i hi, fl_get y i hy, wrap_suc (show i < 9223372036854775807 by omega)]
    refine condW_i (fun h => ?_) (fun h => ?_) <;> simp only [go_sem, ↓reduceIte, wrap_suc (show i < 9223372036854775807 by omega)]
    · have : x ≠ y := by rintro rfl; simp at h
      simp [this]
    · have h1 : x[i] = y[i] := Fin.ext (by have h : (((x[i].val : Nat) : Int) != ((y[i].val : Nat) : Int)) = false := h; simp at h; omega)
      rw [List.take_succ_eq_append_getElem hi, List.take_succ_eq_append_getElem hy, hj, h1]
  · intro hj
    have : x = y := by
      rw [List.take_length] at hj
      rw [hj, hxy, List.take_length]
    simp only [go_sem, ↓reduceIte, List.length_map, dlt_f (Nat.lt_irrefl _), this]
end
end Hud
end
