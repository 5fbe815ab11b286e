/- ReconOwn holds: whatever the input, the law returns true, and each argument reads behind the call as it read before. -/
import Derived.Test.YtialbdgcgiaebaaGreatLib22
import Derived.Test.YtialbdgcgiaebaaGreatRows
set_option linter.all false
section
namespace Go.Proofs.YtialbdgcgiaebaaGreat
open Go Go.RowKit Go.WideShapes Go.ChangeShapes Go.ChangeAt Hud
theorem Tryz.own : ownKnob Tryz.prog.godebug = none := by kernel_rfl
theorem Tryz.laidOut : laidOutB Tryz.prog = true := by kernel_rfl
set_option maxRecDepth 100000 in
theorem ints_in {base : Nat} {H : Type} {enc : TypeId × Value → H} {W : World} {spare : Nat → Bool} {held : Bool} {v : Value} {d : DataW H} {ps : List MemPlace} (hv : Value.okWide Tryz.prog W .any base 22 v) (hd : DataW.Trod enc Tryz.prog W 0 spare held 22 v d ps) :
    ∃ l : List Int, inI l ∧ Rp (allG W) (fun _ => undef) 0 (ints l) v := by
  obtain ⟨A, l0, c0, rfl⟩ := okWide_slice Tryz.underlying22 hv
  have s0 := slice_in (φ := fun _ => undef) (ks := [.int .i64]) (n := 1) Tryz.underlying22 (by kernel_rfl) (by kernel_rfl) (by decide) hd
  obtain ⟨es, he, hlen, hr0⟩ := s0
  obtain ⟨l, hl, ho⟩ := ints_of he
  have hll : es.length = l.length := by simpa using congrArg List.length hl
  rw [hl] at hr0
  exact ⟨l, ⟨ho, by omega⟩, hr0⟩
end Go.Proofs.YtialbdgcgiaebaaGreat
end
section
namespace Hud
open Go
def h_l30_ReconOwn : HFun := ⟨56, [(4, none)],
  .seq (.seq (.reg [⟨some 4, .mov (.const (.bool false)), none⟩]) (.kill [4])) (.seq (.seq (.reg [⟨some 12, .mov (.tmp 0), none⟩, ⟨some 13, .call (.func n_r30_Names) [.tmp 12, .const (.int .i64 14)], none⟩, ⟨some 5, .mov (.tmp 13), none⟩]) (.kill [13, 12])) (.seq (.seq (.reg [⟨some 14, .mov (.tmp 1), none⟩, ⟨some 15, .call (.func n_r30_Names) [.tmp 14, .const (.int .i64 14)], none⟩, ⟨some 6, .mov (.tmp 15), none⟩]) (.kill [15, 14])) (.seq (.seq (.reg [⟨some 17, .mov (.tmp 5), none⟩, ⟨some 18, .mov (.tmp 6), none⟩, ⟨some 19, .call (.func n_recon_Diff) [.tmp 17, .tmp 18], none⟩, ⟨some 16, .mov (.tmp 19), none⟩, ⟨some 20, .ext (.tmp 16) 0, none⟩, ⟨some 21, .ext (.tmp 16) 1, none⟩, ⟨some 22, .ext (.tmp 16) 2, none⟩, ⟨some 7, .mov (.tmp 20), none⟩, ⟨some 8, .mov (.tmp 21), none⟩, ⟨some 9, .mov (.tmp 22), none⟩]) (.kill [9, 22, 21, 20, 16, 19, 18, 17])) (.seq (.seq (.reg [⟨some 10, .mov (.const (.int .i64 0)), none⟩]) (.block 0 (.loop [] (.seq (.seq (.seq (.reg [⟨some 23, .mov (.tmp 10), none⟩, ⟨some 24, .mov (.tmp 7), none⟩, ⟨some 25, .lenL (.tmp 24), none⟩, ⟨some 26, .bin .lss (.tmp 23) (.tmp 25), none⟩]) (.kill [25, 24, 23])) (.cond (.tmp 26) (.seq (.kill [26]) .skip) (.seq (.kill [7, 10, 26]) (.exit 0)))) (.seq (.block 1 (.seq (.reg [⟨some 29, .mov (.tmp 7), none⟩, ⟨some 30, .mov (.tmp 10), none⟩, ⟨some 31, .iad (.tmp 29) (.tmp 30) 3, none⟩, ⟨some 32, .fad (.tmp 31) 0, none⟩, ⟨none, .st 1 (.tmp 32) (.const (.int .i64 77)), none⟩]) (.kill [32, 31, 30, 29]))) (.seq (.reg [⟨some 27, .mov (.tmp 10), none⟩, ⟨some 28, .bin .add (.tmp 27) (.const (.int .i64 1)), none⟩, ⟨some 10, .mov (.tmp 28), none⟩]) (.kill [28, 27]))))))) (.seq (.seq (.reg [⟨some 11, .mov (.const (.int .i64 0)), none⟩]) (.block 2 (.loop [] (.seq (.seq (.seq (.reg [⟨some 33, .mov (.tmp 11), none⟩, ⟨some 34, .mov (.tmp 8), none⟩, ⟨some 35, .lenL (.tmp 34), none⟩, ⟨some 36, .bin .lss (.tmp 33) (.tmp 35), none⟩]) (.kill [35, 34, 33])) (.cond (.tmp 36) (.seq (.kill [36]) .skip) (.seq (.kill [8, 11, 36]) (.exit 2)))) (.seq (.block 3 (.seq (.reg [⟨some 39, .mov (.tmp 8), none⟩, ⟨some 40, .mov (.tmp 11), none⟩, ⟨some 41, .iad (.tmp 39) (.tmp 40) 3, none⟩, ⟨some 42, .fad (.tmp 41) 0, none⟩, ⟨none, .st 1 (.tmp 42) (.const (.int .i64 78)), none⟩]) (.kill [42, 41, 40, 39]))) (.seq (.reg [⟨some 37, .mov (.tmp 11), none⟩, ⟨some 38, .bin .add (.tmp 37) (.const (.int .i64 1)), none⟩, ⟨some 11, .mov (.tmp 38), none⟩]) (.kill [38, 37]))))))) (.seq (.seq (.reg [⟨some 43, .mov (.tmp 5), none⟩, ⟨some 44, .mov (.tmp 0), none⟩, ⟨some 45, .call (.func n_r30_Names) [.tmp 44, .const (.int .i64 14)], none⟩, ⟨some 46, .call (.func n_r11_SameIDs) [.tmp 43, .tmp 45], none⟩, ⟨some 47, .mov (.tmp 46), none⟩, ⟨some 48, .mov (.tmp 6), some (47, true)⟩, ⟨some 49, .mov (.tmp 1), some (47, true)⟩, ⟨some 50, .call (.func n_r30_Names) [.tmp 49, .const (.int .i64 14)], some (47, true)⟩, ⟨some 51, .call (.func n_r11_SameIDs) [.tmp 48, .tmp 50], some (47, true)⟩, ⟨some 52, .pick (.tmp 47) (.tmp 51) (.const (.bool false)), none⟩, ⟨some 53, .mov (.tmp 52), none⟩, ⟨some 54, .call (.func n_l30_lives) [], some (53, true)⟩, ⟨some 55, .pick (.tmp 53) (.tmp 54) (.const (.bool false)), none⟩, ⟨some 4, .mov (.tmp 55), none⟩]) (.kill [5, 0, 6, 1, 55, 54, 53, 52, 51, 50, 49, 48, 47, 46, 45, 44, 43])) .ret))))))⟩
theorem h_l30_ReconOwn_ok : compFunH Go.Proofs.Tryz.prog n_l30_ReconOwn [] = some h_l30_ReconOwn := by kernel_rfl
end Hud
end
section
namespace Hud
open Go
theorem own_vw {h : GH} {φ : Nat → Value} {w : World} {T : Tab} {n i k : Nat} {es : List (List AV)} {u : Value} (hI : Inv h φ w T) (hi : T[i]? = some (some (.arr k es))) (e : Rp h φ n (.own i) u) : Rp h φ n (.vw i k 0 es.length) u := by
  simp only [Rp] at e ⊢
  obtain ⟨e1, e2, _⟩ := e
  rcases shut_full hI hi with ⟨A, h1, h2⟩ | ⟨g, c, h1, h2, h3, _⟩
  · exact ⟨e1, A, 0, by rw [e2, h1, h2]; rfl, by rw [h2]; simp, by simp, .inl (by rw [h2]; rfl)⟩
  · exact ⟨e1, _, c, by rw [e2, h1], h2, h3, .inr ⟨g, _, _, h1, by rw [Nat.zero_mul], by omega⟩⟩
theorem CallOk.toVw {P : Program} {G : Nat → Option (List AV)} {f : FuncId} {args : List AV} {T : Tab} {p q : AV → Tab → Prop} (hc : CallOk P G f args T p)
    (hk : ∀ r T', p r T' → q r T' ∨ ∃ i k es, r = .own i ∧ T'[i]? = some (some (.arr k es)) ∧ q (.vw i k 0 es.length) T') : CallOk P G f args T q := by
  intro h φ w vals hG hI hA
  have key : ∀ {v w'}, Ret h φ T w p v w' → Ret h φ T w q v w' := fun ⟨r, T', h', φ', e1, e2, e3, e4⟩ => by
    rcases hk r T' e1 with hq | ⟨i, k, es, rfl, hi, hq⟩
    · exact ⟨r, T', h', φ', hq, e2, e3, e4⟩
    · exact ⟨_, T', h', φ', hq, e2, e3, own_vw e3 hi e4⟩
  rcases hc h φ w vals hG hI hA with ⟨a, b⟩ | ⟨v, w', a, b⟩
  · exact .inl ⟨a, b.mono fun e w' ⟨v, e1, e2⟩ => ⟨v, e1, key e2⟩⟩
  · exact .inr ⟨v, w', a, key b⟩
section
variable {G : Nat → Option (List AV)}
set_option maxHeartbeats 4000000
theorem c_withoutV (a b : List Id) (ha : a.length ≤ 1000000) (hb : b.length ≤ 1000000) : CallOk Go.Proofs.Tryz.prog G n_recon_without [ids a, ids b] [] fun r T => ∃ N : List Id, r = .vw 0 3 0 (withoutL a b).length ∧ T = [some (.arr 3 ((withoutL a b ++ N).map Id.A))] := by
  refine (c_withoutK a b ha hb).toVw ?_
  rintro r T (⟨rfl, rfl⟩ | ⟨M, N, n, rfl, rfl, rfl, rfl⟩)
  · exact .inr ⟨0, 3, _, rfl, rfl, [], by rw [List.length_map], by rw [List.append_nil]⟩
  · exact .inl ⟨N, rfl, rfl⟩
theorem c_elemsV (a : List Id) (ha : a.length ≤ 50000) (hok : okI a) : CallOk Go.Proofs.Tryz.prog G n_recon_elems [ids a] [] fun r T => ∃ E : List (List AV), (∀ e ∈ E, ∀ c ∈ e, ∃ x, c = .v x) ∧ (elemsL a).length ≤ E.length ∧ E.take (elemsL a).length = fl (elemsL a) ∧ r = .vw 0 1 0 (elemsL a).length ∧ T = [some (.arr 1 E)] := by
  refine (c_elemsK a ha hok).toVw ?_
  rintro r T ⟨L, n, h1, h2, h3, rfl⟩
  have hn : n = (elemsL a).length := by
    have := congrArg List.length h2
    rw [List.length_take, List.length_map] at this
    omega
  subst hn
  have h5 : (ul L).take (elemsL a).length = fl (elemsL a) := by rw [fl_ul, ← h2]; simp only [ul, List.map_take]
  have h6 : (elemsL a).length ≤ (ul L).length := by simpa [ul] using h1
  have h8 : ∀ e ∈ ul L, ∀ c ∈ e, ∃ x, c = AV.v x := by
    intro e he c hc
    simp only [ul, List.mem_map] at he
    obtain ⟨n, _, rfl⟩ := he
    exact ⟨_, List.mem_singleton.1 hc⟩
  rcases h3 with ⟨rfl, h7⟩ | rfl
  · exact .inr ⟨0, 1, _, rfl, rfl, ul L, h8, h6, h5, by rw [h7]; simp [ul], rfl⟩
  · exact .inl ⟨ul L, h8, h6, h5, rfl, rfl⟩
abbrev rdTV (a b X N Y M : List Id) (p : Nat) (r : Loop) : Tab := [some (.box [.vw 3 3 0 X.length]), some (.box [.vw 4 3 0 Y.length]), some (.box [.v (.int .i64 (p : Int))]), some (.arr 3 (X.map Id.A ++ N.map Id.A)), some (.arr 3 (Y.map Id.A ++ M.map Id.A)), some (.box [.ls 1 (fl (elemsL a))]), some (.box [.ls 1 (fl (elemsL b))]), some (.lp r [(8, .ptr 6 0), (7, .ptr 5 0), (6, .ptr 2 0), (5, .ptr 1 0), (4, .ptr 0 0)])]
theorem lend_ids {T : Tab} {i : Nat} {X N : List Id} (h : getT T i = some (.arr 3 (X.map Id.A ++ N.map Id.A))) : lendL T [.vw i 3 0 X.length] = [ids X] := by
  have h1 : 0 + X.length ≤ (X.map Id.A ++ N.map Id.A).length := by simp
  have h2 : (X.map Id.A ++ N.map Id.A).take X.length = X.map Id.A := List.take_left' (by simp)
  simp only [lendL, lendA, h, h1, and_self, if_true, List.drop_zero, h2]
theorem lend_fl {T : Tab} {i n : Nat} {A B E : List (List AV)} (h : getT T i = some (.arr 1 E)) (h1 : n ≤ E.length) (h2 : E.take n = B) : lendL T [.ls 1 A, .vw i 1 0 n] = [.ls 1 A, .ls 1 B] := by
  have h3 : 0 + n ≤ E.length := by omega
  simp only [lendL, lendA, h, h3, and_self, if_true, List.drop_zero, h2]
theorem c_DiffV (a b : List Id) (ha : a.length ≤ 50000) (hb : b.length ≤ 50000) (oa : okI a) (ob : okI b) : CallOk Go.Proofs.Tryz.prog G n_recon_Diff [ids a, ids b] [] fun r T => ∃ (N M : List Id), r = .tup [.vw 0 3 0 (withoutL a b).length, .vw 1 3 0 (withoutL b a).length, .v (.int .i64 ((ptsL a b : Nat) : Int))] ∧ T = [some (.arr 3 ((withoutL a b).map Id.A ++ N.map Id.A)), some (.arr 3 ((withoutL b a).map Id.A ++ M.map Id.A))] := by
  refine fun_okH h_recon_Diff_ok (by decide) ?_
  unfold h_recon_Diff
  have oa2 := without_ok (a := a) (b := b) oa
  have ob2 := without_ok (a := b) (b := a) ob
  have sa := elems_ss (withoutL a b)
  have sb := elems_ss (withoutL b a)
  simp only [go_sem, ↓reduceIte]
  refine call_post (subL_refl _) rfl (c_withoutV a b (by omega) (by omega)) ?_
  rintro r T' ⟨N, rfl, rfl⟩
  simp only [go_sem, ↓reduceIte]
  refine call_post (subL_refl _) rfl (c_withoutV b a (by omega) (by omega)) ?_
  rintro r T' ⟨M, rfl, rfl⟩
  simp only [go_sem, ↓reduceIte]
  refine call_pure (subL_refl _) rfl (c_elems a ha oa) rfl ?_
  simp only [go_sem, ↓reduceIte]
  refine call_pure (subL_refl _) rfl (c_elems b hb ob) rfl ?_
  simp only [go_sem, ↓reduceIte]
  refine call_pure (subL_refl _) rfl c_tries rfl ?_
  have la := elems_len a
  have lb := elems_len b
  have la2 := elems_len (withoutL a b)
  have lb2 := elems_len (withoutL b a)
  have wa := without_len a b
  have wb := without_len b a
  simp only [go_sem, ↓reduceIte]
  refine rng_i rfl (gobody_ok h_recon_tries_1_ok) fun r k1 k2 hy hyR => ?_
  simp only [go_sem, ↓reduceIte]
  refine call_in [0, 1, 2, 3, 4, 5, 6, 7] (subL_refl _) (by decide) (fun i hi => by simp at hi ⊢; omega) rfl rfl (fun_okH h_recon_tries_1_ok (by decide) ?_)
  unfold h_recon_tries_1
  simp only [go_sem, ↓reduceIte]
  refine loop_i (fun m s => ∃ j : Nat, m = 5 - j ∧ j ≤ 5 ∧ (∀ i, i < j → ¬ FitL a b (4 * 2 ^ i)) ∧ s = ⟨8, [(0, .yl 7), (2, .v (.int .i64 ((4 * 2 ^ j : Nat) : Int)))], rdTV a b (withoutL a b) N (withoutL b a) M (4 * 2 ^ j - 4) r⟩) 5 ⟨0, by omega, by omega, fun i hi => absurd hi (Nat.not_lt_zero _), ?_⟩ ?_
  · simp only [go_sem, ↓reduceIte, rdTV, List.map_append]
    rfl
  rintro m s ⟨j, rfl, hj, hno, rfl⟩
  obtain ⟨n1, n2, n3⟩ := pow_b hj
  by_cases hj5 : j < 5
  · have hn64 := n3.2 hj5
    have hnext : 4 * 2 ^ (j + 1) = 4 * 2 ^ j * 2 := by rw [Nat.pow_succ]; omega
    have hat := fun hf => pts_at (F := FitL a b) hj5 hno hf
    have hno2 : ¬ FitL a b (4 * 2 ^ j) → ∀ i, i < j + 1 → ¬ FitL a b (4 * 2 ^ i) := fun h i hi => by
      rcases Nat.lt_or_ge i j with h1 | h1
      · exact hno i h1
      · obtain rfl : i = j := by omega
        exact h
    generalize hn : 4 * 2 ^ j = n at *
    have t1 : decide (((n : Nat) : Int) ≤ 64) = true := decide_eq_true (by omega)
    have w1 : IntKind.i64.wrap (((n - 4 : Nat) : Int) + (n : Int)) = ((n - 4 + n : Nat) : Int) := by rw [wrap_i64 (by omega) (by omega)]; omega
    have w2 : IntKind.i64.wrap ((n : Int) * 2) = ((n * 2 : Nat) : Int) := by rw [wrap_i64 (by omega) (by omega)]; omega
    simp only [go_sem, ↓reduceIte, t1]
    refine hy _ _ _ _ _ rfl rfl ?_
    simp only [go_sem, ↓reduceIte, w1]
    refine call_pure (subL_refl _) rfl (k_Of (elemsL a) n (by omega) (by omega)) rfl ?_
    simp only [go_sem, ↓reduceIte]
    refine call_pure (subL_refl _) rfl (k_Of (elemsL b) n (by omega) (by omega)) rfl ?_
    simp only [go_sem, ↓reduceIte]
    refine call_post (subL_refl _) rfl (k_Diff n ((elemsL a).length : Int) ((elemsL b).length : Int) (SV (elemsL a) n) (SV (elemsL b) n) n1 hn64 (SV_len _ _) (SV_len _ _) (fun k hk => SV_ne hn64 hk) (by omega) (by omega)) ?_
    rintro r' T' ⟨hD, rfl⟩
    have eqx : FitL a b n → ptsL a b = n - 4 + n := fun hf => hat hf
    have next : ¬ FitL a b n → ∃ m, m < 5 - j ∧ ∃ j, m = 5 - j ∧ j ≤ 5 ∧ (∀ i, i < j → ¬ FitL a b (4 * 2 ^ i)) ∧ (⟨8, [(0, .yl 7), (2, .v (.int .i64 ((n * 2 : Nat) : Int)))], rdTV a b (withoutL a b) N (withoutL b a) M (n - 4 + n) r⟩ : St) = ⟨8, [(0, .yl 7), (2, .v (.int .i64 ((4 * 2 ^ j : Nat) : Int)))], rdTV a b (withoutL a b) N (withoutL b a) M (4 * 2 ^ j - 4) r⟩ := fun h =>
      ⟨5 - (j + 1), by omega, j + 1, rfl, by omega, hno2 h, by rw [hnext, show n * 2 - 4 = n - 4 + n by omega]⟩
    have q1 : 0 + (withoutL a b).length ≤ ((withoutL a b ++ N).map Id.A).length := by simp
    have q2 : 0 + (withoutL b a).length ≤ ((withoutL b a ++ M).map Id.A).length := by simp
    rcases hD with ⟨x, y, hf, sx, sy, rfl⟩ | ⟨hf, rfl⟩
    · have hiff : FitL a b n ↔ x = elemsL (withoutL a b) ∧ y = elemsL (withoutL b a) := ⟨fun h => fit_two hf h hn64 (fun k hk => SV_ne hn64 hk) sx sy sa sb, fun ⟨h1, h2⟩ => by rw [h1, h2] at hf; exact hf⟩
      have lx := hf.len
      simp only [go_sem, ↓reduceIte]
      refine call_lend (subL_refl _) (lend_ids rfl) rfl (c_elemsV (withoutL a b) (by omega) oa2) ?_
      rintro r T' ⟨E, e0, e1, e2, rfl, rfl⟩
      refine ⟨by simp only [flatA], by simp only [List.mem_singleton, flatO, forall_eq]; exact e0, ?_⟩
      simp only [go_sem, ↓reduceIte]
      refine call_lend_pure (subL_refl _) (lend_fl rfl e1 e2) rfl (s_Equal x (elemsL (withoutL a b)) (by omega)) ?_
      simp only [go_sem, ↓reduceIte]
      by_cases hx : x = elemsL (withoutL a b)
      · simp only [go_sem, ↓reduceIte, hx]
        refine call_lend (subL_refl _) (lend_ids rfl) rfl (c_elemsV (withoutL b a) (by omega) ob2) ?_
        rintro r T' ⟨E', g0, g1, g2, rfl, rfl⟩
        refine ⟨by simp only [flatA], by simp only [List.mem_singleton, flatO, forall_eq]; exact g0, ?_⟩
        simp only [go_sem, ↓reduceIte]
        refine call_lend_pure (subL_refl _) (lend_fl rfl g1 g2) rfl (s_Equal y (elemsL (withoutL b a)) (by omega)) ?_
        simp only [go_sem, ↓reduceIte]
        by_cases hyy : y = elemsL (withoutL b a)
        · simp only [go_sem, ↓reduceIte, hyy, k1, k2]
          rw [eqx (hiff.2 ⟨hx, hyy⟩)]
          exact ⟨N, M, rfl, rfl⟩
        · simp only [go_sem, ↓reduceIte, hyy, w2]
          exact next fun h => hyy (hiff.1 h).2
      · simp only [go_sem, ↓reduceIte, hx, w2]
        exact next fun h => hx (hiff.1 h).1
    · simp only [go_sem, ↓reduceIte, w2]
      exact next fun h => hf _ _ h
  · obtain rfl : j = 5 := by omega
    have hp := pts_none hno
    have e128 : 4 * 2 ^ 5 = 128 := rfl
    simp only [go_sem, ↓reduceIte, e128, rdTV, k1, k2, show decide (((128 : Nat) : Int) ≤ 64) = false from rfl]
    rw [ptsL, hp]
    exact ⟨N, M, rfl, rfl⟩
theorem c_l30_ReconOwn (l m : List Int) (hl : inI l) (hm : inI m) : CallOk Go.Proofs.Tryz.prog G n_l30_ReconOwn [ints l, ints m] [] fun r T => r = .v (.bool true) ∧ T = [] := by
  refine fun_okH h_l30_ReconOwn_ok (by decide) ?_
  unfold h_l30_ReconOwn
  have n2 := names_len l 14
  have n3 := names_len m 14
  have oa := names_ok l 14
  have ob := names_ok m 14
  have k2 := c_Names (G := G) l 14 (by decide) hl.1 hl.2
  have k3 := c_Names (G := G) m 14 (by decide) hm.1 hm.2
  generalize namesL l 14 = a at *
  generalize namesL m 14 = b at *
  simp only [go_sem, ↓reduceIte]
  refine call_pure (subL_refl _) rfl k2 rfl ?_
  simp only [go_sem, ↓reduceIte]
  refine call_pure (subL_refl _) rfl k3 rfl ?_
  simp only [go_sem, ↓reduceIte]
  refine call_post (subL_refl _) rfl (c_DiffV a b (by omega) (by omega) oa ob) ?_
  rintro r T' ⟨N, M, rfl, rfl⟩
  have w1 := without_len a b
  have w2 := without_len b a
  simp only [go_sem, ↓reduceIte]
  generalize withoutL a b = X at *
  generalize withoutL b a = Y at *
  refine cut_block (fun s => ∃ L : List Id, s = ⟨0, [(0, ints l), (1, ints m), (5, ids a), (6, ids b), (8, .vw 1 3 0 Y.length)], [some (.arr 3 (L.map Id.A)), some (.arr 3 (Y.map Id.A ++ M.map Id.A))]⟩) ?_ ?_
  · refine loop_i (fun k s => ∃ (i : Nat) (L : List Id), k = X.length - i ∧ i ≤ X.length ∧ X.length ≤ L.length ∧ s = ⟨0, [(0, ints l), (1, ints m), (5, ids a), (6, ids b), (7, .vw 0 3 0 X.length), (8, .vw 1 3 0 Y.length), (10, .v (.int .i64 (i : Int)))], [some (.arr 3 (L.map Id.A)), some (.arr 3 (Y.map Id.A ++ M.map Id.A))]⟩) X.length ⟨0, X ++ N, rfl, Nat.zero_le _, by simp, ?_⟩ ?_
    · simp only [go_sem, ↓reduceIte, List.map_append]
    rintro k s ⟨i, L, rfl, hi, hL, rfl⟩
    by_cases hlt : i < X.length
    · have hiL : i < L.length := by omega
      simp only [go_sem, ↓reduceIte, List.length_map, dlt_t hlt, hlt, hiL, nth_map Id.A L i hiL, Id.A_def, wrap_suc (show i < 9223372036854775807 by omega)]
      exact ⟨X.length - (i + 1), by omega, i + 1, L.set i ⟨77, L[i].b, L[i].c⟩, rfl, by omega, by rw [List.length_set]; exact hL, by rw [List.map_set, Id.A_def]⟩
    · simp only [go_sem, ↓reduceIte, List.length_map, dlt_f hlt]
      exact ⟨L, rfl⟩
  rintro s ⟨L0, rfl⟩
  simp only [go_sem, ↓reduceIte]
  refine cut_block (fun s => ∃ L : List Id, s = ⟨0, [(0, ints l), (1, ints m), (5, ids a), (6, ids b)], [some (.arr 3 (L.map Id.A))]⟩) ?_ ?_
  · refine loop_i (fun k s => ∃ (i : Nat) (L : List Id), k = Y.length - i ∧ i ≤ Y.length ∧ Y.length ≤ L.length ∧ s = ⟨0, [(0, ints l), (1, ints m), (5, ids a), (6, ids b), (8, .vw 0 3 0 Y.length), (11, .v (.int .i64 (i : Int)))], [some (.arr 3 (L.map Id.A))]⟩) Y.length ⟨0, Y ++ M, rfl, Nat.zero_le _, by simp, ?_⟩ ?_
    · simp only [go_sem, ↓reduceIte, List.map_append]
    rintro k s ⟨i, L, rfl, hi, hL, rfl⟩
    by_cases hlt : i < Y.length
    · have hiL : i < L.length := by omega
      simp only [go_sem, ↓reduceIte, List.length_map, dlt_t hlt, hlt, hiL, nth_map Id.A L i hiL, Id.A_def, wrap_suc (show i < 9223372036854775807 by omega)]
      exact ⟨Y.length - (i + 1), by omega, i + 1, L.set i ⟨78, L[i].b, L[i].c⟩, rfl, by omega, by rw [List.length_set]; exact hL, by rw [List.map_set, Id.A_def]⟩
    · simp only [go_sem, ↓reduceIte, List.length_map, dlt_f hlt]
      exact ⟨L, rfl⟩
  rintro s ⟨L1, rfl⟩
  simp only [go_sem, ↓reduceIte]
  refine call_pure (subL_refl _) rfl k2 rfl ?_
  simp only [go_sem, ↓reduceIte]
  refine call_pure (subL_refl _) rfl (c_r11_SameIDs a a (by unfold maxLen; omega)) rfl ?_
  simp only [go_sem, ↓reduceIte]
  refine call_pure (subL_refl _) rfl k3 rfl ?_
  simp only [go_sem, ↓reduceIte]
  refine call_pure (subL_refl _) rfl (c_r11_SameIDs b b (by unfold maxLen; omega)) rfl ?_
  simp only [go_sem, ↓reduceIte]
  refine call_pure (subL_refl _) rfl c_lives rfl ?_
  simp only [go_sem, ↓reduceIte]
end
end Hud
end
section
namespace Go.Proofs.YtialbdgcgiaebaaGreat
open Go Go.RowKit Go.WideShapes Go.ChangeShapes Go.ChangeAt Hud
set_option maxRecDepth 100000 in
theorem own_lifted (os : Os) (started : os.Started) (H : Type) (enc : TypeId × Value → H) :
    ReturnsInHanded {} Tryz.checked os 7 .any (Rows.reconOwnSpec.pre6 enc Tryz.prog Tryz.f7 Rows.reconOwnRow.domain false) (Rows.reconOwnSpec.post enc Tryz.prog Tryz.f7 false true false false) := by
  refine returnsInHanded_of_change (C := Tryz.checked) Tryz.own started (by kernel_rfl) Tryz.func7
    (ChangeSpec.witness6 (enc := enc) (C := Tryz.checked) false ⟨#[], #[.slice none 0 0, .slice none 0 0], []⟩ 8 (by kernel_rfl) (by kernel_rfl) (by kernel_rfl) (by kernel_rfl)) ?_
  intro W base args ds gs before hval0 hW hcnd _
  have hval : ∀ (j : Nat) t v, Tryz.f7.params[j]? = some t → args[j]? = some v → Value.okWide Tryz.prog W .any base t v := hval0
  have hW' := hW
  obtain ⟨p, q, hA0, hV, rfl, hfz, hnd⟩ := hW
  have hA : DataW.TrodAll enc Tryz.prog W 0 (fun _ => true) true Tryz.f7.params.toList args.toList ds p := hA0
  rw [Tryz.params7] at hA hval
  obtain ⟨v0, v1, d0, d1, p0, p1, rfl, rfl, rfl, h0, h1⟩ := trodAll_two hA
  obtain ⟨rfl, rfl⟩ := trodVars_none hV
  obtain ⟨l, il, rl⟩ := ints_in (hval 0 22 v0 rfl rfl) h0
  obtain ⟨m, im, rm⟩ := ints_in (hval 1 22 v1 rfl rfl) h1
  refine law_post (φ := fun _ => undef) (avs := [ints l, ints m]) Tryz.laidOut hW' rfl rfl ?_ (by kernel_rfl) Tryz.underlying4 (enters_of Tryz.func7 (by kernel_rfl) rfl _ _) (c_l30_ReconOwn l m il im) ?_
  · rw [Tryz.params7]
    intro t ht
    simp only [List.mem_cons, List.not_mem_nil, or_false] at ht
    rcases ht with rfl | rfl <;> exact ⟨by kernel_rfl, of_decide_eq_true (by kernel_rfl)⟩
  · simp only [RpL]
    exact ⟨_, _, rfl, rl, _, _, rfl, rm, rfl⟩
theorem own_holds : Rows.ReconOwnSaid :=
  OpenClaim.holds_of_wide 7 Tryz.f7 rfl rfl rfl rfl rfl rfl rfl ⟨rfl, rfl, rfl, rfl, rfl⟩ rfl rfl rfl rfl rfl (by kernel_rfl) Tryz.func7 (by kernel_rfl)
    (of_decide_eq_true (by kernel_rfl)) (by unfold Func.isWrapper; first | (rw [if_pos (by decide +kernel)]; kernel_rfl) | (rw [if_neg (by decide +kernel)]; exact ⟨rfl, rfl⟩))
    (fun os started H enc _ => own_lifted os started H enc)
end Go.Proofs.YtialbdgcgiaebaaGreat
end
