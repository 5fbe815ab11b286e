/- ReconFew holds: whatever the input, the law returns true, and each argument reads behind the call as it read before. -/
import Derived.Test.YtialbdgcgiaebaaGreatLib22
import Derived.Test.YtialbdgcgiaebaaGreatRows
set_option linter.all false
section
namespace Go.Proofs.YtialbdgcgiaebaaGreat
open Go Go.RowKit Go.WideShapes Go.ChangeShapes Go.ChangeAt Hud
theorem Tryz.own : ownKnob Tryz.prog.godebug = none := by kernel_rfl
theorem Tryz.laidOut : laidOutB Tryz.prog = true := by kernel_rfl
set_option maxRecDepth 100000 in
theorem ints_in {base : Nat} {H : Type} {enc : TypeId × Value → H} {W : World} {spare : Nat → Bool} {held : Bool} {v : Value} {d : DataW H} {ps : List MemPlace} (hv : Value.okWide Tryz.prog W .any base 22 v) (hd : DataW.Trod enc Tryz.prog W 0 spare held 22 v d ps) :
    ∃ l : List Int, inI l ∧ Rp (allG W) (fun _ => undef) 0 (ints l) v := by
  obtain ⟨A, l0, c0, rfl⟩ := okWide_slice Tryz.underlying22 hv
  have s0 := slice_in (φ := fun _ => undef) (ks := [.int .i64]) (n := 1) Tryz.underlying22 (by kernel_rfl) (by kernel_rfl) (by decide) hd
  obtain ⟨es, he, hlen, hr0⟩ := s0
  obtain ⟨l, hl, ho⟩ := ints_of he
  have hll : es.length = l.length := by simpa using congrArg List.length hl
  rw [hl] at hr0
  exact ⟨l, ⟨ho, by omega⟩, hr0⟩
end Go.Proofs.YtialbdgcgiaebaaGreat
end
section
namespace Hud
open Go
def h_l30_ReconFew : HFun := ⟨58, [(6, none)],
  .seq (.seq (.reg [⟨some 6, .mov (.const (.bool false)), none⟩]) (.kill [6])) (.seq (.seq (.reg [⟨some 15, .mov (.tmp 2), none⟩, ⟨some 16, .call (.func n_r30_Names) [.tmp 15, .const (.int .i64 40)], none⟩, ⟨some 7, .mov (.tmp 16), none⟩]) (.kill [2, 16, 15])) (.seq (.seq (.reg [⟨some 17, .mov (.tmp 0), none⟩, ⟨some 18, .call (.func n_r30_Names) [.tmp 17, .const (.int .i64 14)], none⟩, ⟨some 19, .mov (.tmp 7), none⟩, ⟨some 20, .call (.func n_r30_Union) [.tmp 18, .tmp 19], none⟩, ⟨some 8, .mov (.tmp 20), none⟩]) (.kill [0, 20, 19, 18, 17])) (.seq (.seq (.reg [⟨some 21, .mov (.tmp 1), none⟩, ⟨some 22, .call (.func n_r30_Names) [.tmp 21, .const (.int .i64 14)], none⟩, ⟨some 23, .mov (.tmp 7), none⟩, ⟨some 24, .call (.func n_r30_Union) [.tmp 22, .tmp 23], none⟩, ⟨some 9, .mov (.tmp 24), none⟩]) (.kill [1, 7, 24, 23, 22, 21])) (.seq (.seq (.seq (.reg [⟨some 25, .mov (.tmp 8), none⟩, ⟨some 26, .mov (.tmp 9), none⟩, ⟨some 27, .call (.func n_r30_Union) [.tmp 25, .tmp 26], none⟩, ⟨some 28, .call (.func n_r30_Unlike) [.tmp 27], none⟩, ⟨some 29, .un .not (.tmp 28), none⟩]) (.kill [28, 27, 26, 25])) (.cond (.tmp 29) (.seq (.kill [8, 9, 29]) (.seq (.seq (.reg [⟨some 30, .call (.func n_l30_lives) [], none⟩, ⟨some 6, .mov (.tmp 30), none⟩]) (.kill [30])) .ret)) (.seq (.kill [29]) .skip))) (.seq (.seq (.reg [⟨some 32, .mov (.tmp 8), none⟩, ⟨some 33, .mov (.tmp 9), none⟩, ⟨some 34, .call (.func n_recon_Diff) [.tmp 32, .tmp 33], none⟩, ⟨some 31, .mov (.tmp 34), none⟩, ⟨some 35, .ext (.tmp 31) 0, none⟩, ⟨some 36, .ext (.tmp 31) 1, none⟩, ⟨some 37, .ext (.tmp 31) 2, none⟩, ⟨some 10, .mov (.tmp 35), none⟩, ⟨some 11, .mov (.tmp 36), none⟩, ⟨some 12, .mov (.tmp 37), none⟩]) (.kill [8, 9, 37, 36, 35, 31, 34, 33, 32])) (.seq (.reg [⟨some 13, .mov (.const (.int .i64 4)), none⟩]) (.seq (.seq (.reg [⟨some 14, .mov (.const (.int .i64 4)), none⟩]) (.block 0 (.loop [] (.seq (.seq (.seq (.reg [⟨some 38, .mov (.tmp 14), none⟩, ⟨some 39, .mov (.tmp 10), none⟩, ⟨some 40, .lenL (.tmp 39), none⟩, ⟨some 41, .mov (.tmp 11), none⟩, ⟨some 42, .lenL (.tmp 41), none⟩, ⟨some 43, .bin .add (.tmp 40) (.tmp 42), none⟩, ⟨some 44, .bin .add (.tmp 43) (.const (.int .i64 2)), none⟩, ⟨some 45, .bin .lss (.tmp 38) (.tmp 44), none⟩]) (.kill [44, 43, 42, 41, 40, 39, 38])) (.cond (.tmp 45) (.seq (.kill [45]) .skip) (.seq (.kill [14, 10, 11, 45]) (.exit 0)))) (.seq (.block 1 (.seq (.reg [⟨some 48, .mov (.tmp 13), none⟩, ⟨some 49, .mov (.tmp 14), none⟩, ⟨some 50, .bin .mul (.const (.int .i64 2)) (.tmp 49), none⟩, ⟨some 51, .bin .add (.tmp 48) (.tmp 50), none⟩, ⟨some 13, .mov (.tmp 51), none⟩]) (.kill [51, 50, 49, 48]))) (.seq (.reg [⟨some 46, .mov (.tmp 14), none⟩, ⟨some 47, .bin .mul (.const (.int .i64 2)) (.tmp 46), none⟩, ⟨some 14, .mov (.tmp 47), none⟩]) (.kill [47, 46]))))))) (.seq (.seq (.reg [⟨some 52, .mov (.tmp 12), none⟩, ⟨some 53, .mov (.tmp 13), none⟩, ⟨some 54, .bin .eql (.tmp 52) (.tmp 53), none⟩, ⟨some 55, .mov (.tmp 54), none⟩, ⟨some 56, .call (.func n_l30_lives) [], some (55, true)⟩, ⟨some 57, .pick (.tmp 55) (.tmp 56) (.const (.bool false)), none⟩, ⟨some 6, .mov (.tmp 57), none⟩]) (.kill [12, 13, 57, 56, 55, 54, 53, 52])) .ret))))))))⟩
theorem h_l30_ReconFew_ok : compFunH Go.Proofs.Tryz.prog n_l30_ReconFew [] = some h_l30_ReconFew := by kernel_rfl
end Hud
end
section
namespace Hud
open Go
def kF (i : Nat) : Int := 4 * 2 ^ i
def sF (i : Nat) : Int := 8 * 2 ^ i - 4
theorem kF_suc (i : Nat) : kF (i + 1) = 2 * kF i := by unfold kF; rw [Int.pow_succ]; omega
theorem sF_suc (i : Nat) : sF (i + 1) = sF i + 2 * kF i := by unfold kF sF; rw [Int.pow_succ]; omega
theorem kF_in {i : Nat} (h : i ≤ 3) : 4 ≤ kF i ∧ kF i ≤ 32 := by
  have : i = 0 ∨ i = 1 ∨ i = 2 ∨ i = 3 := by omega
  rcases this with rfl | rfl | rfl | rfl <;> decide
theorem sF_in {i : Nat} (h : i ≤ 3) : 4 ≤ sF i ∧ sF i ≤ 60 := by
  have : i = 0 ∨ i = 1 ∨ i = 2 ∨ i = 3 := by omega
  rcases this with rfl | rfl | rfl | rfl <;> decide
def jS (s : Nat) : Nat := if s ≤ 2 then 0 else if s ≤ 6 then 1 else if s ≤ 14 then 2 else 3
theorem jS_le (s : Nat) : jS s ≤ 3 := by unfold jS; split; omega; split; omega; split <;> omega
theorem kF_lt {s i : Nat} (h : i < jS s) : kF i < (s : Int) + 2 := by
  have h3 := jS_le s
  have : i = 0 ∨ i = 1 ∨ i = 2 := by omega
  unfold jS at h
  rcases this with rfl | rfl | rfl <;> simp only [kF] <;> (split at h; omega; split at h; omega; split at h <;> omega)
theorem kF_ge {s : Nat} (hs : s ≤ 30) : ¬ kF (jS s) < (s : Int) + 2 := by
  unfold jS
  split
  · simp only [kF]; omega
  · split
    · simp only [kF]; omega
    · split <;> simp only [kF] <;> omega
theorem nodup_leI : ∀ {M L : List Id}, M.Nodup → (∀ y ∈ M, y ∈ L) → M.length ≤ L.length
  | [], _, _, _ => Nat.zero_le _
  | y :: M, L, hn, h => by
    rw [List.nodup_cons] at hn
    have h1 := nodup_leI (M := M) (L := L.erase y) hn.2 fun z hz => (List.mem_erase_of_ne (fun e : z = y => hn.1 (by rw [e] at hz; exact hz))).2 (h z (List.mem_cons_of_mem _ hz))
    have h2 := List.length_erase_of_mem (h y List.mem_cons_self)
    have h3 := List.length_pos_of_mem (h y List.mem_cons_self)
    rw [List.length_cons]; omega
theorem without_few {L M C : List Id} (hL : L.Nodup) (hC : C.Nodup) : (withoutL (unionL L C) (unionL M C)).length ≤ L.length := by
  refine nodup_leI (without_nodup (union_nodup hL hC)) fun y hy => ?_
  rw [without_mem, unionL, unionL, List.mem_append, List.mem_append] at hy
  rcases hy.1 with h | h
  · exact ((without_mem _ _ _).1 h).1
  · exact absurd (.inr h) hy.2
theorem few_law {a b : List Id} (na : a.Nodup) (nb : b.Nodup) (hu : (elemsL (unionL a b)).length = (unionL a b).length) (hs : (withoutL a b).length + (withoutL b a).length ≤ 28) :
    ((ptsL a b : Nat) : Int) = sF (jS ((withoutL a b).length + (withoutL b a).length)) := by
  have hi0 := inj_of_nodup (nodup_of_len (l := (unionL a b).map EF) (by rw [List.length_map]; exact hu))
  have hm : ∀ x, (x ∈ a ∨ x ∈ b) → x ∈ unionL a b := fun x hx => by
    rw [unionL, List.mem_append]
    by_cases h : x ∈ b
    · exact .inr h
    · exact .inl ((without_mem _ _ _).2 ⟨hx.resolve_right h, h⟩)
  have hi : ∀ x, (x ∈ a ∨ x ∈ b) → ∀ y, (y ∈ a ∨ y ∈ b) → EF x = EF y → x = y := fun x hx y hy => hi0 x (hm x hx) y (hm y hy)
  have c1 := elems_card (without_nodup (a := a) (b := b) na) fun x hx y hy => hi x (.inl ((without_mem _ _ _).1 hx).1) y (.inl ((without_mem _ _ _).1 hy).1)
  have c2 := elems_card (without_nodup (a := b) (b := a) nb) fun x hx y hy => hi x (.inr ((without_mem _ _ _).1 hx).1) y (.inr ((without_mem _ _ _).1 hy).1)
  have hF : ∀ n, n ≤ 64 → (FitL a b n ↔ (withoutL a b).length + (withoutL b a).length + 2 ≤ n) := fun n hn => by rw [fit_unlike hi hn, c1, c2]
  generalize (withoutL a b).length + (withoutL b a).length = s at hs hF
  have g4 := hF 4 (by decide)
  have g8 := hF 8 (by decide)
  have g16 := hF 16 (by decide)
  have g32 := hF 32 (by decide)
  unfold ptsL ptsF
  rw [g4, g8, g16, g32]
  unfold jS
  by_cases h1 : s ≤ 2
  · rw [if_pos (show s + 2 ≤ 4 by omega), if_pos h1]; rfl
  rw [if_neg (show ¬ s + 2 ≤ 4 by omega), if_neg h1]
  by_cases h2 : s ≤ 6
  · rw [if_pos (show s + 2 ≤ 8 by omega), if_pos h2]; rfl
  rw [if_neg (show ¬ s + 2 ≤ 8 by omega), if_neg h2]
  by_cases h3 : s ≤ 14
  · rw [if_pos (show s + 2 ≤ 16 by omega), if_pos h3]; rfl
  rw [if_neg (show ¬ s + 2 ≤ 16 by omega), if_neg h3, if_pos (show s + 2 ≤ 32 by omega)]
  rfl
section
variable {G : Nat → Option (List AV)}
set_option maxHeartbeats 4000000
theorem c_l30_ReconFew (l m both : List Int) (hl : inI l) (hm : inI m) (hb : inI both) : CallOk Go.Proofs.Tryz.prog G n_l30_ReconFew [ints l, ints m, ints both] [] fun r T => r = .v (.bool true) ∧ T = [] := by
  refine fun_okH h_l30_ReconFew_ok (by decide) ?_
  unfold h_l30_ReconFew
  have n1 := names_len both 40
  have n2 := names_len l 14
  have n3 := names_len m 14
  have d1 := names_nodup both 40
  have d2 := names_nodup l 14
  have d3 := names_nodup m 14
  have o1 := names_ok both 40
  have o2 := names_ok l 14
  have o3 := names_ok m 14
  have k1 := c_Names (G := G) both 40 (by decide) hb.1 hb.2
  have k2 := c_Names (G := G) l 14 (by decide) hl.1 hl.2
  have k3 := c_Names (G := G) m 14 (by decide) hm.1 hm.2
  generalize namesL both 40 = C at *
  generalize namesL l 14 = L at *
  generalize namesL m 14 = M at *
  have u1 := union_len L C
  have u2 := union_len M C
  have ua := union_ok o2 o1
  have ub := union_ok o3 o1
  have f1 := without_few (M := M) d2 d1
  have f2 := without_few (M := L) d3 d1
  have na := union_nodup d2 d1
  have nb := union_nodup d3 d1
  simp only [go_sem, ↓reduceIte]
  refine call_pure (subL_refl _) rfl k1 rfl ?_
  simp only [go_sem, ↓reduceIte]
  refine call_pure (subL_refl _) rfl k2 rfl ?_
  simp only [go_sem, ↓reduceIte]
  refine call_pure (subL_refl _) rfl (c_Union L C (by omega) (by omega)) rfl ?_
  simp only [go_sem, ↓reduceIte]
  refine call_pure (subL_refl _) rfl k3 rfl ?_
  simp only [go_sem, ↓reduceIte]
  refine call_pure (subL_refl _) rfl (c_Union M C (by omega) (by omega)) rfl ?_
  generalize unionL L C = a at *
  generalize unionL M C = b at *
  have u3 := union_len a b
  simp only [go_sem, ↓reduceIte]
  refine call_pure (subL_refl _) rfl (c_Union a b (by omega) (by omega)) rfl ?_
  have w0 := few_law na nb
  simp only [go_sem, ↓reduceIte]
  refine call_pure (subL_refl _) rfl (c_Unlike (unionL a b) (by omega) (union_ok ua ub)) rfl ?_
  by_cases hu : (elemsL (unionL a b)).length = (unionL a b).length
  · have hu' : (((elemsL (unionL a b)).length : Int) == ((unionL a b).length : Int)) = true := by rw [hu]; exact beq_self_eq_true _
    have w1 := w0 hu (by omega)
    have kd := c_Diff (G := G) a b (by omega) (by omega) ua ub
    rw [w1] at kd
    simp only [go_sem, ↓reduceIte, hu', Bool.not_true]
    refine call_pure (subL_refl _) rfl kd rfl ?_
    clear kd k1 k2 k3 w0 w1 hu hu'
    generalize hX : withoutL a b = X at *
    generalize hY : withoutL b a = Y at *
    have hs : X.length + Y.length ≤ 28 := by omega
    generalize hjj : jS (X.length + Y.length) = J
    have hJ : J ≤ 3 := hjj ▸ jS_le _
    have e1 : IntKind.i64.wrap ((X.length : Int) + (Y.length : Int)) = ((X.length + Y.length : Nat) : Int) := wrap_i64 (by omega) (by omega)
    have e2 : IntKind.i64.wrap (((X.length + Y.length : Nat) : Int) + 2) = ((X.length + Y.length : Nat) : Int) + 2 := wrap_i64 (by omega) (by omega)
    simp only [go_sem, ↓reduceIte]
    refine loop_up J (fun i => ⟨0, [(10, ids X), (11, ids Y), (12, .v (.int .i64 (sF J))), (13, .v (.int .i64 (sF i))), (14, .v (.int .i64 (kF i)))], []⟩) (fun _ => True) ?_ trivial ?_ ?_
    · simp only [go_sem, ↓reduceIte]
      rfl
    · intro i hi _
      have q1 := kF_lt (s := X.length + Y.length) (i := i) (by omega)
      have q2 := kF_in (show i ≤ 3 by omega)
      have q3 := sF_in (show i ≤ 3 by omega)
      have e3 : IntKind.i64.wrap (2 * kF i) = 2 * kF i := wrap_i64 (by omega) (by omega)
      have e4 : IntKind.i64.wrap (sF i + 2 * kF i) = sF i + 2 * kF i := wrap_i64 (by omega) (by omega)
      have e5 : decide (kF i < ((X.length + Y.length : Nat) : Int) + 2) = true := decide_eq_true q1
      simp only [go_sem, ↓reduceIte, List.length_map, e1, e2, e3, e4, e5, kF_suc, sF_suc]
    · intro _
      have q1 := kF_ge (s := X.length + Y.length) (by omega)
      rw [hjj] at q1
      have e5 : decide (kF J < ((X.length + Y.length : Nat) : Int) + 2) = false := decide_eq_false q1
      simp only [go_sem, ↓reduceIte, List.length_map, e1, e2, e5]
      refine call_pure (subL_refl _) rfl c_lives rfl ?_
      simp only [go_sem, ↓reduceIte]
  · have hu' : (((elemsL (unionL a b)).length : Int) == ((unionL a b).length : Int)) = false := by
      rw [beq_eq_false_iff_ne]; omega
    simp only [go_sem, ↓reduceIte, hu', Bool.not_false]
    refine call_pure (subL_refl _) rfl c_lives rfl ?_
    simp only [go_sem, ↓reduceIte]
end
end Hud
end
section
namespace Go.Proofs.YtialbdgcgiaebaaGreat
open Go Go.RowKit Go.WideShapes Go.ChangeShapes Go.ChangeAt Hud
set_option maxRecDepth 100000 in
theorem few_lifted (os : Os) (started : os.Started) (H : Type) (enc : TypeId × Value → H) :
    ReturnsInHanded {} Tryz.checked os 5 .any (Rows.reconFewSpec.pre6 enc Tryz.prog Tryz.f5 Rows.reconFewRow.domain false) (Rows.reconFewSpec.post enc Tryz.prog Tryz.f5 false true false false) := by
  refine returnsInHanded_of_change (C := Tryz.checked) Tryz.own started (by kernel_rfl) Tryz.func5
    (ChangeSpec.witness6 (enc := enc) (C := Tryz.checked) false ⟨#[], #[.slice none 0 0, .slice none 0 0, .slice none 0 0], []⟩ 8 (by kernel_rfl) (by kernel_rfl) (by kernel_rfl) (by kernel_rfl)) ?_
  intro W base args ds gs before hval0 hW hcnd _
  have hval : ∀ (j : Nat) t v, Tryz.f5.params[j]? = some t → args[j]? = some v → Value.okWide Tryz.prog W .any base t v := hval0
  have hW' := hW
  obtain ⟨p, q, hA0, hV, rfl, hfz, hnd⟩ := hW
  have hA : DataW.TrodAll enc Tryz.prog W 0 (fun _ => true) true Tryz.f5.params.toList args.toList ds p := hA0
  rw [Tryz.params5] at hA hval
  obtain ⟨v0, v1, v2, d0, d1, d2, p0, p1, p2, rfl, rfl, rfl, h0, h1, h2⟩ := trodAll_three hA
  obtain ⟨rfl, rfl⟩ := trodVars_none hV
  obtain ⟨l, il, rl⟩ := ints_in (hval 0 22 v0 rfl rfl) h0
  obtain ⟨m, im, rm⟩ := ints_in (hval 1 22 v1 rfl rfl) h1
  obtain ⟨b, ib, rb⟩ := ints_in (hval 2 22 v2 rfl rfl) h2
  refine law_post (φ := fun _ => undef) (avs := [ints l, ints m, ints b]) Tryz.laidOut hW' rfl rfl ?_ (by kernel_rfl) Tryz.underlying4 (enters_of Tryz.func5 (by kernel_rfl) rfl _ _) (c_l30_ReconFew l m b il im ib) ?_
  · rw [Tryz.params5]
    intro t ht
    simp only [List.mem_cons, List.not_mem_nil, or_false] at ht
    rcases ht with rfl | rfl | rfl <;> exact ⟨by kernel_rfl, of_decide_eq_true (by kernel_rfl)⟩
  · simp only [RpL]
    exact ⟨_, _, rfl, rl, _, _, rfl, rm, _, _, rfl, rb, rfl⟩
theorem few_holds : Rows.ReconFewSaid :=
  OpenClaim.holds_of_wide 5 Tryz.f5 rfl rfl rfl rfl rfl rfl rfl ⟨rfl, rfl, rfl, rfl, rfl⟩ rfl rfl rfl rfl rfl (by kernel_rfl) Tryz.func5 (by kernel_rfl)
    (of_decide_eq_true (by kernel_rfl)) (by unfold Func.isWrapper; first | (rw [if_pos (by decide +kernel)]; kernel_rfl) | (rw [if_neg (by decide +kernel)]; exact ⟨rfl, rfl⟩))
    (fun os started H enc _ => few_lifted os started H enc)
end Go.Proofs.YtialbdgcgiaebaaGreat
end
