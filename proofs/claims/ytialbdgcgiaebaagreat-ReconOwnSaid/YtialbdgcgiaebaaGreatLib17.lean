import Derived.Test.YtialbdgcgiaebaaGreatLib16
set_option linter.all false
section
namespace Hud
open Go
theorem f_aco (a b : Fq) : a + b = b + a := by grind
theorem pa_comm : ∀ p q : List Fq, pa p q = pa q p
  | [], [] => rfl
  | [], _ :: _ => rfl
  | _ :: _, [] => rfl
  | c :: p, d :: q => by
    simp only [pa, pa_comm p q]
    rw [f_aco c d]
theorem pa_idx : ∀ (a b : List Fq), b.length ≤ a.length → a.mapIdx (fun i x => if i < b.length then x + b.getD i 0 else x) = pa a b
  | [], [], _ => rfl
  | [], _ :: _, h => by simp at h
  | c :: p, [], _ => by
    simp only [pa, List.length_nil, Nat.not_lt_zero, if_false]
    exact mapIdx_id _
  | c :: p, d :: q, h => by
    simp only [pa, List.mapIdx_cons]
    have := pa_idx p q (by simpa using h)
    rw [← this]
    simp
def addL (a b : List Fq) : List Fq := trimL (pa a b)
theorem addL_ev (t : Fq) (a b : List Fq) : ev (addL a b) t = ev a t + ev b t := by rw [addL, trimL_ev, pa_ev]
theorem monL_idx (a : List Fq) (h : a ≠ []) : a.mapIdx (fun _ x => x * inv (lastF a)) = monL a := by
  rw [monL, if_neg h, ps]
  generalize inv (lastF a) = v
  apply List.ext_getElem? fun j => ?_
  simp only [List.getElem?_mapIdx, List.getElem?_map]
  congr 1
  funext x
  exact f_mco _ _
section
variable {G : Nat → Option (List AV)}
theorem f_monic_1 (i : Nat) (x v : Fq) : CallOk Go.Proofs.Tryz.prog G n_poly_monic_1 [.v (.int .i64 ((i : Nat) : Int)), .v (fu x), .ptr 0 0] [some (.box [.v (fu v)])] fun r T' => r = .v (fu (x * v)) ∧ T' = [some (.box [.v (fu v)])] := by
  refine fun_okH h_poly_monic_1_ok (by decide) ?_
  unfold h_poly_monic_1
  simp only [go_sem, ↓reduceIte]
  refine call_pure (subL_refl _) rfl (f_Mul x v) rfl ?_
  simp only [go_sem, ↓reduceIte]
theorem f_monic (l : List Fq) (hl : l.length ≤ 1000000000) : CallOk Go.Proofs.Tryz.prog G n_poly_monic [.ls 1 (fl l)] [] fun r T' => r = .ls 1 (fl (monL l)) ∧ T' = [] := by
  refine CallOk.fin (p := fun r T' => r = .own 0 ∧ T' = [some (.arr 1 (fl (monL l)))]) (fun_okH h_poly_monic_ok (by decide) ?_) [0] ?_
  · unfold h_poly_monic
    cases hn : l with
    | nil => simp only [go_sem, ↓reduceIte, fl, monL]
    | cons c r =>
      rw [← hn]
      have hne : l ≠ [] := by rw [hn]; simp
      have hp : 0 < l.length := List.length_pos_iff.2 hne
      have hd : (((l.length : Nat) : Int) == 0) = false := by simp; omega
      have hw : IntKind.i64.wrap ((l.length : Int) - 1) = ((l.length - 1 : Nat) : Int) := by rw [wrap_i64 (by omega) (by omega)]; omega
      have g1 := fl_get l (l.length - 1) (by omega)
      have hl2 : lastF l = l[l.length - 1] := by rw [lastF, List.getD_eq_getElem?_getD, List.getElem?_eq_getElem (by omega)]; rfl
      simp only [go_sem, ↓reduceIte, List.length_map, hd, hw, g1]
      refine call_pure (subL_refl _) rfl (f_Inv _) rfl ?_
      simp only [go_sem, ↓reduceIte]
      refine call_on (subL_refl _) rfl rfl rfl (f_each1 n_poly_monic_1 (.v (fu (inv l[l.length - 1]))) rfl (fun _ x => x * inv l[l.length - 1]) l hl fun i x _ => f_monic_1 i x _) ?_
      rintro r T' ⟨rfl, rfl⟩
      have := monL_idx l hne
      rw [hl2] at this
      simp only [go_sem, ↓reduceIte, this]
  · rintro r T' ⟨rfl, rfl⟩
    simp only [go_sem, ↓reduceIte]
theorem f_Add_1 (b : List Fq) (hb : b.length ≤ 1000000000) (i : Nat) (x : Fq) : CallOk Go.Proofs.Tryz.prog G n_poly_Add_1 [.v (.int .i64 ((i : Nat) : Int)), .v (fu x), .ptr 0 0] [some (.box [.ls 1 (fl b)])] fun r T' => r = .v (fu (if i < b.length then x + b.getD i 0 else x)) ∧ T' = [some (.box [.ls 1 (fl b)])] := by
  refine fun_okH h_poly_Add_1_ok (by decide) ?_
  unfold h_poly_Add_1
  by_cases hi : i < b.length
  · have g1 := fl_get b i hi
    have g2 : b.getD i 0 = b[i] := by rw [List.getD_eq_getElem?_getD, List.getElem?_eq_getElem hi]; rfl
    simp only [go_sem, ↓reduceIte, List.length_map, dlt_t hi, g1]
    refine call_pure (subL_refl _) rfl (f_Add x b[i]) rfl ?_
    simp only [go_sem, ↓reduceIte, if_pos hi, g2]
  · simp only [go_sem, ↓reduceIte, List.length_map, dlt_f hi]
    refine call_pure (subL_refl _) rfl (f_Num x) rfl ?_
    simp only [go_sem, ↓reduceIte, if_neg hi]
theorem f_Add' (a b : List Fq) (ha : a.length ≤ 1000000000) (hb : b.length ≤ 1000000000) : CallOk Go.Proofs.Tryz.prog G n_poly_Add [.ls 1 (fl a), .ls 1 (fl b)] [] fun r T' => r = vw0 (trimL (pa a b)).length (pa a b).length ∧ T' = [some (.arr 1 (fl (pa a b)))] := by
  refine fun_okH h_poly_Add_ok (by decide) ?_
  unfold h_poly_Add
  by_cases h : a.length < b.length
  · simp only [go_sem, ↓reduceIte, List.length_map, dlt_t h]
    refine call_on (subL_refl _) rfl rfl rfl (f_each1 n_poly_Add_1 (.ls 1 (fl a)) rfl _ b hb fun i x _ => f_Add_1 a ha i x) ?_
    rintro r T' ⟨rfl, rfl⟩
    rw [pa_idx b a (by omega), pa_comm b a]
    simp only [go_sem, ↓reduceIte]
    refine call_at [1] (subL_refl _) (by decide) (by simp) rfl rfl (f_trim (pa a b) (by rw [pa_len]; omega)) ?_
    rintro r T' ⟨rfl, rfl⟩
    simp only [go_sem, ↓reduceIte, vw0]
    split <;> simp only [go_sem, ↓reduceIte]
  · simp only [go_sem, ↓reduceIte, List.length_map, dlt_f h]
    refine call_on (subL_refl _) rfl rfl rfl (f_each1 n_poly_Add_1 (.ls 1 (fl b)) rfl _ a ha fun i x _ => f_Add_1 b hb i x) ?_
    rintro r T' ⟨rfl, rfl⟩
    rw [pa_idx a b (by omega)]
    simp only [go_sem, ↓reduceIte]
    refine call_at [1] (subL_refl _) (by decide) (by simp) rfl rfl (f_trim (pa a b) (by rw [pa_len]; omega)) ?_
    rintro r T' ⟨rfl, rfl⟩
    simp only [go_sem, ↓reduceIte, vw0]
    split <;> simp only [go_sem, ↓reduceIte]
theorem f_PAdd (a b : List Fq) (ha : a.length ≤ 1000000000) (hb : b.length ≤ 1000000000) : CallOk Go.Proofs.Tryz.prog G n_poly_Add [.ls 1 (fl a), .ls 1 (fl b)] [] fun r T' => r = .ls 1 (fl (addL a b)) ∧ T' = [] := fin_vw0 (f_Add' a b ha hb)
end
end Hud
end
section
namespace Hud
open Go
theorem fl_getD (l : List Fq) (i : Nat) (h : i < l.length) : (fl l)[i]? = some [.v (fu (l.getD i 0))] := by
  rw [fl_get l i h, List.getD_eq_getElem?_getD, List.getElem?_eq_getElem h]; rfl
theorem rowSub_snoc (c x : Fq) : ∀ (b : List Fq) (k : Nat) (a : List Fq), rowSub c (b ++ [x]) k a = (rowSub c b k a).set (k + b.length) ((rowSub c b k a).getD (k + b.length) 0 - c * x)
  | [], k, a => rfl
  | y :: b, k, a => by
    simp only [List.cons_append, rowSub, rowSub_snoc c x b, List.length_cons]
    rw [show k + 1 + b.length = k + (b.length + 1) by omega]
theorem rowSub_take (c : Fq) (b : List Fq) (k : Nat) (a : List Fq) (j : Nat) (h : j < b.length) : rowSub c (b.take (j + 1)) k a = (rowSub c (b.take j) k a).set (k + j) ((rowSub c (b.take j) k a).getD (k + j) 0 - c * b.getD j 0) := by
  rw [List.take_succ_eq_append_getElem h, rowSub_snoc, List.length_take, Nat.min_eq_left (by omega)]
  rw [List.getD_eq_getElem?_getD (l := b), List.getElem?_eq_getElem h]; rfl
def mulAt (a b z : List Fq) : Nat → List Fq
  | 0 => z
  | i + 1 => rowSub (0 - a.getD i 0) b i (mulAt a b z i)
theorem mulAt_len (a b z : List Fq) : ∀ i, (mulAt a b z i).length = z.length
  | 0 => rfl
  | i + 1 => by rw [mulAt, rowSub_len, mulAt_len a b z i]
theorem mulAt_ev (a b z : List Fq) (hz : ∀ t, ev z t = 0) (t : Fq) : ∀ i, i ≤ a.length → a.length + b.length ≤ z.length + 1 → ev (mulAt a b z i) t = ev (a.take i) t * ev b t
  | 0, _, _ => by simp only [mulAt, hz, List.take_zero, ev, f_zm]
  | i + 1, h, h2 => by
    have h3 := List.take_succ_eq_append_getElem (l := a) (i := i) (by omega)
    rw [mulAt, rowSub_ev _ _ _ _ _ (by rw [mulAt_len]; omega), mulAt_ev a b z hz t i (by omega) h2, h3, ev_snoc, List.length_take, Nat.min_eq_left (by omega)]
    have h4 : a.getD i 0 = a[i] := by rw [List.getD_eq_getElem?_getD, List.getElem?_eq_getElem (by omega)]; rfl
    rw [h4]
    generalize a[i] = x
    generalize ev (a.take i) t = y
    generalize ev b t = w
    generalize t ^ i = u
    grind
theorem mulAt_pm (a b : List Fq) (ha : a ≠ []) (hb : b ≠ []) (hl : a.length + b.length ≤ PP) : mulAt a b (List.replicate (a.length + b.length - 1) 0) a.length = pm a b := by
  have hz : ∀ t, ev (List.replicate (a.length + b.length - 1) (0 : Fq)) t = 0 := fun t => ev_zp (fun c hc => List.eq_of_mem_replicate hc) t
  have h1 := pm_len_eq b hb a ha
  have hp : 0 < a.length := List.length_pos_iff.2 ha
  have hp2 : 0 < b.length := List.length_pos_iff.2 hb
  refine list_of_ev ?_ ?_ fun t => ?_
  · rw [mulAt_len, List.length_replicate]; omega
  · rw [mulAt_len, List.length_replicate]; omega
  · rw [mulAt_ev a b _ hz t a.length (Nat.le_refl _) (by rw [List.length_replicate]; omega), List.take_length, pm_ev]
section
variable {G : Nat → Option (List AV)}
theorem add_sub (a x y : Fq) : a + x * y = a - (0 - x) * y := by grind
set_option maxHeartbeats 1000000
theorem f_Mul' (a b : List Fq) (ha : a.length ≤ 100000000) (hb : b.length ≤ 100000000) : CallOk Go.Proofs.Tryz.prog G n_poly_Mul [.ls 1 (fl a), .ls 1 (fl b)] [] fun r T' => ∃ s, mulL a b = trimL s ∧ r = vw0 (trimL s).length s.length ∧ T' = [some (.arr 1 (fl s))] := by
  refine fun_okH h_poly_Mul_ok (by decide) ?_
  unfold h_poly_Mul
  have la := trimL_len a
  have lb := trimL_len b
  simp only [go_sem, ↓reduceIte]
  refine call_pure (subL_refl _) rfl (f_TrimS a (by omega)) rfl ?_
  simp only [go_sem, ↓reduceIte]
  refine call_pure (subL_refl _) rfl (f_TrimS b (by omega)) rfl ?_
  by_cases h1 : trimL a = []
  · simp only [go_sem, ↓reduceIte, h1, fl]
    refine ⟨[], ?_, ?_⟩
    · rw [mulL, if_pos (.inl h1)]; rfl
    · simp [vw0, trimL]
  · have e1 : (((trimL a).length : Int) == 0) = false := by have := List.length_pos_iff.2 h1; simp; omega
    by_cases h2 : trimL b = []
    · simp only [go_sem, ↓reduceIte, List.length_map, e1, h2, fl]
      refine ⟨[], ?_, ?_⟩
      · rw [mulL, if_pos (.inr h2)]; rfl
      · simp [vw0, trimL]
    · have e2 : (((trimL b).length : Int) == 0) = false := by have := List.length_pos_iff.2 h2; simp; omega
      have hp1 := List.length_pos_iff.2 h1
      have hp2 := List.length_pos_iff.2 h2
      have hm : mulL a b = trimL (pm (trimL a) (trimL b)) := by rw [mulL, if_neg (by simp [h1, h2])]
      have hpm := mulAt_pm (trimL a) (trimL b) h1 h2 (by have : (200000000 : Nat) ≤ PP := by decide
                                                         omega)
      rw [hm]
      generalize trimL a = a at *
      generalize trimL b = b at *
      have w1 : IntKind.i64.wrap ((a.length : Int) + (b.length : Int)) = ((a.length + b.length : Nat) : Int) := by rw [wrap_i64 (by omega) (by omega)]; omega
      have w2 : IntKind.i64.wrap (((a.length + b.length : Nat) : Int) - 1) = ((a.length + b.length - 1 : Nat) : Int) := by rw [wrap_i64 (by omega) (by omega)]; omega
      simp only [go_sem, ↓reduceIte, List.length_map, e1, e2, w1, w2, fl_rep, Int.le_refl, show ((a.length + b.length - 1 : Nat) : Int) * 8 ≤ 140737488355328 by omega, show ((a.length + b.length - 1 : Nat) : Int) ≤ (maxLen : Int) by unfold maxLen; omega]
      generalize hz : List.replicate (a.length + b.length - 1) (0 : Fq) = z at hpm
      have hzl : z.length = a.length + b.length - 1 := by rw [← hz, List.length_replicate]
      refine loop_up a.length (fun i => ⟨0, [(1, .ls 1 (fl b)), (5, .own 0), (29, .ls 1 (fl a)), (30, .v (.int .i64 a.length)), (31, .v (.int .i64 i))], [some (.arr 1 (fl (mulAt a b z i)))]⟩) (fun _ => True) ?_ trivial ?_ ?_
      · simp only [go_sem, ↓reduceIte, mulAt]
      · intro i hi _
        have g1 := fl_getD a i hi
        simp only [go_sem, ↓reduceIte, List.length_map, dlt_t hi, g1]
        refine loop_up b.length (fun j => ⟨0, [(1, .ls 1 (fl b)), (5, .own 0), (6, .v (.int .i64 i)), (7, .v (fu (a.getD i 0))), (29, .ls 1 (fl a)), (30, .v (.int .i64 a.length)), (31, .v (.int .i64 i)), (36, .ls 1 (fl b)), (37, .v (.int .i64 b.length)), (38, .v (.int .i64 j))],
          [some (.arr 1 (fl (rowSub (0 - a.getD i 0) (b.take j) i (mulAt a b z i))))]⟩) (fun _ => True) ?_ trivial ?_ ?_
        · simp only [go_sem, ↓reduceIte, List.take_zero, rowSub]
        · intro j hj _
          have g2 := fl_getD b j hj
          have hlen : (rowSub (0 - a.getD i 0) (b.take j) i (mulAt a b z i)).length = z.length := by rw [rowSub_len, mulAt_len]
          have hst := rowSub_take (0 - a.getD i 0) b i (mulAt a b z i) j hj
          generalize rowSub (0 - a.getD i 0) (b.take j) i (mulAt a b z i) = o at hlen hst
          have g3 := fl_getD o (i + j) (by omega)
          have w3 : IntKind.i64.wrap ((i : Int) + (j : Int)) = ((i + j : Nat) : Int) := by rw [wrap_i64 (by omega) (by omega)]; omega
          simp only [go_sem, ↓reduceIte, List.length_map, dlt_t hj, g2, w3, hlen, hzl, show i + j < a.length + b.length - 1 by omega, g3]
          refine call_pure (subL_refl _) rfl (f_Mul _ _) rfl ?_
          simp only [go_sem, ↓reduceIte, List.length_map, w3, hlen, hzl, show i + j < a.length + b.length - 1 by omega, g3]
          refine call_pure (subL_refl _) rfl (f_Add _ _) rfl ?_
          simp only [go_sem, ↓reduceIte, List.length_map, w3, hlen, hzl, show i + j < a.length + b.length - 1 by omega, g3, add_sub, wrap_suc (show j < 9223372036854775807 by omega), hst, fl_set]
        · intro _
          simp only [go_sem, ↓reduceIte, List.length_map, dlt_f (Nat.lt_irrefl _), List.take_length, wrap_suc (show i < 9223372036854775807 by omega), mulAt]
      · intro _
        simp only [go_sem, ↓reduceIte, List.length_map, dlt_f (Nat.lt_irrefl _), hpm]
        refine call_at [0] (subL_refl _) (by decide) (by simp) rfl rfl (f_trim (pm a b) (by rw [← hpm, mulAt_len]; omega)) ?_
        rintro r T' ⟨rfl, rfl⟩
        refine (?_ : _)
        by_cases hh : (trimL (pm a b)).length = (pm a b).length
        · simp only [go_sem, ↓reduceIte, vw0, if_pos hh]
          exact ⟨pm a b, rfl, by rw [if_pos hh], rfl⟩
        · simp only [go_sem, ↓reduceIte, vw0, if_neg hh]
          exact ⟨pm a b, rfl, by rw [if_neg hh], rfl⟩
theorem f_PMul (a b : List Fq) (ha : a.length ≤ 100000000) (hb : b.length ≤ 100000000) : CallOk Go.Proofs.Tryz.prog G n_poly_Mul [.ls 1 (fl a), .ls 1 (fl b)] [] fun r T' => r = .ls 1 (fl (mulL a b)) ∧ T' = [] := by
  intro h φ w vals h1 h2 h3
  have hc := f_Mul' (G := G) a b ha hb
  refine (hc.fin [0] (q := fun r T' => r = .ls 1 (fl (mulL a b)) ∧ T' = []) ?_) h φ w vals h1 h2 h3
  rintro r T' ⟨s, e, rfl, rfl⟩
  have h1 := fl_trim s
  have h2 := trimL_len s
  rw [e]
  simp only [vw0]
  split
  · rename_i h
    rw [h, List.take_of_length_le (by simp)] at h1
    simp only [go_sem, ↓reduceIte, h1]
  · simp only [go_sem, ↓reduceIte, Nat.zero_add, List.length_map, h2, h1]
end
end Hud
end
section
namespace Hud
open Go
theorem trimL_app_zeros (l : List Fq) : ∀ k, trimL (l ++ List.replicate k 0) = trimL l
  | 0 => by simp
  | k + 1 => by rw [List.replicate_succ', ← List.append_assoc, trimL_snoc, if_pos rfl, trimL_app_zeros l k]
theorem getD_app (x z : List Fq) (i : Nat) (h : i < x.length) : (x ++ z).getD i 0 = x.getD i 0 := by
  rw [List.getD_eq_getElem?_getD, List.getElem?_append_left h, ← List.getD_eq_getElem?_getD]
theorem rowSub_app (c : Fq) (z : List Fq) : ∀ (b : List Fq) (k : Nat) (x : List Fq), k + b.length ≤ x.length → rowSub c b k (x ++ z) = rowSub c b k x ++ z
  | [], _, _, _ => rfl
  | y :: b, k, x, h => by
    simp only [List.length_cons] at h
    rw [rowSub, rowSub, getD_app x z k (by omega), List.set_append_left _ _ (by omega), rowSub_app c z b (k + 1) _ (by rw [List.length_set]; omega)]
def vwI (i n N : Nat) : AV := if n = N then .own i else .vw i 1 0 n
def DmPost (a b : List Fq) (r : AV) (T' : Tab) : Prop := ∃ Q R : List Fq, (dm a b).1 = trimL Q ∧ (dm a b).2 = trimL R ∧ r = .tup [vwI 0 (trimL Q).length Q.length, vwI 1 (trimL R).length R.length] ∧ T' = [some (.arr 1 (fl Q)), some (.arr 1 (fl R))]
section
variable {G : Nat → Option (List AV)}
set_option maxHeartbeats 2000000
theorem f_DivMod' (a b : List Fq) (ha : a.length ≤ 100000000) (hb : b.length ≤ 100000000) : CallOk Go.Proofs.Tryz.prog G n_poly_DivMod [.ls 1 (fl a), .ls 1 (fl b)] [] (DmPost a b) := by
  refine fun_okH h_poly_DivMod_ok (by decide) ?_
  unfold h_poly_DivMod
  have la := trimL_len a
  have lb := trimL_len b
  obtain ⟨z, hz, hzr⟩ : ∃ z, a = trimL a ++ z ∧ ∃ k, z = List.replicate k 0 := by obtain ⟨k, hk⟩ := trimL_prefix a; exact ⟨_, hk, k, rfl⟩
  simp only [go_sem, ↓reduceIte]
  refine call_new (subL_refl _) rfl (f_Trim a (by omega)) ?_
  have hV : (vw0 (trimL a).length a.length = .own 0 ∧ z = []) ∨ (vw0 (trimL a).length a.length = .vw 0 1 0 (trimL a).length ∧ (trimL a).length ≠ a.length) := by
    unfold vw0
    split
    · rename_i h
      refine .inl ⟨rfl, ?_⟩
      have := congrArg List.length hz
      rw [List.length_append] at this
      exact List.eq_nil_of_length_eq_zero (by omega)
    · rename_i h; exact .inr ⟨rfl, h⟩
  rcases hV with ⟨hv, rfl⟩ | ⟨hv, hne⟩
  · rw [hv]
    simp only [go_sem, ↓reduceIte]
    refine call_pure (subL_refl _) rfl (f_TrimS b (by omega)) rfl ?_
    by_cases h1 : trimL b = []
    · simp only [go_sem, ↓reduceIte, h1, fl]
      refine ⟨[], [], ?_, ?_, by simp [vwI, trimL], rfl⟩ <;> (rw [dm, if_pos h1]; rfl)
    · have hp1 := List.length_pos_iff.2 h1
      have e1 : (((trimL b).length : Int) == 0) = false := by simp; omega
      by_cases h2 : (trimL a).length < (trimL b).length
      · simp only [go_sem, ↓reduceIte, List.length_map, e1, show a.length = (trimL a).length by rw [List.append_nil] at hz; rw [← hz], dlt_t h2]
        refine ⟨[], a, ?_, ?_, ?_, rfl⟩
        · rw [dm, if_neg h1, if_pos h2]; rfl
        · rw [dm, if_neg h1, if_pos h2]
        · simp only [vwI, trimL_nil, List.length_nil, if_true, if_pos (show (trimL a).length = a.length by rw [List.append_nil] at hz; rw [← hz])]
      · have hdm : dm a b = (let s := dmLoop (trimL b) (inv ((trimL b).getD ((trimL b).length - 1) 0)) ((trimL a).length - (trimL b).length + 1) (List.replicate ((trimL a).length - (trimL b).length + 1) 0, trimL a); (trimL s.1, trimL s.2)) := by rw [dm, if_neg h1, if_neg h2]
        have hza : (fl a) = fl (trimL a ++ []) := by rw [← hz]
        simp only [go_sem, ↓reduceIte, List.length_map, e1, show a.length = (trimL a).length by rw [List.append_nil] at hz; rw [← hz], dlt_f h2]
        rw [hza]
        have hNz : (trimL a).length + ([] : List Fq).length = a.length := by rw [← List.length_append, ← hz]
        clear hza
        revert hdm
        skip
        generalize trimL b = tb at *
        generalize hta : trimL a = ta at *
        generalize hF : dmLoop tb (inv (tb.getD (tb.length - 1) 0)) (ta.length - tb.length + 1) (List.replicate (ta.length - tb.length + 1) 0, ta) = F
        intro hdm
        have w1 : IntKind.i64.wrap ((ta.length : Int) - (tb.length : Int)) = ((ta.length - tb.length : Nat) : Int) := by rw [wrap_i64 (by omega) (by omega)]; omega
        have w2 : IntKind.i64.wrap (((ta.length - tb.length : Nat) : Int) + 1) = ((ta.length - tb.length + 1 : Nat) : Int) := wrap_suc (by omega)
        generalize hK : ta.length - tb.length + 1 = K at *
        have w3 : IntKind.i64.wrap ((tb.length : Int) - 1) = ((tb.length - 1 : Nat) : Int) := by rw [wrap_i64 (by omega) (by omega)]; omega
        have w4 : IntKind.i64.wrap ((K : Int) - 1) = (K : Int) - 1 := wrap_i64 (by omega) (by omega)
        have g1 := fl_getD tb (tb.length - 1) (by omega)
        simp only [go_sem, ↓reduceIte, List.length_map, w1, w2, w3, g1, fl_rep, Int.le_refl, show ((K : Nat) : Int) * 8 ≤ 140737488355328 by omega, show ((K : Nat) : Int) ≤ (maxLen : Int) by unfold maxLen; omega]
        refine call_pure (subL_refl _) rfl (f_Inv _) rfl ?_
        generalize inv (tb.getD (tb.length - 1) 0) = v at *
        simp only [go_sem, ↓reduceIte, List.length_map, List.length_replicate, w4]
        refine loop_i (fun k s => ∃ q x y : List Fq, y = x ++ [] ∧ dmLoop tb v k (q, x) = F ∧ q.length = K ∧ x.length = ta.length ∧ k ≤ K ∧ s = ⟨0, [(0, .own 0), (1, .ls 1 (fl tb)), (4, .own 1), (6, .v (fu v)), (7, .v (.int .i64 ((k : Int) - 1)))], [some (.arr 1 (fl y)), some (.arr 1 (fl q))]⟩) K ⟨_, _, _, rfl, hF, by simp, rfl, Nat.le_refl _, ?_⟩ ?_
        · simp only [go_sem, ↓reduceIte]
        rintro k s ⟨q, x, y, hy, hd, hq, hx, hk, rfl⟩
        cases k with
        | zero =>
          simp only [go_sem, ↓reduceIte, show decide (((0 : Nat) : Int) - 1 ≥ 0) = false by decide, show decide ((-1 : Int) ≥ 0) = false by decide]
          refine call_at [1] (subL_refl _) (by decide) (by simp) rfl rfl (f_trim q (by omega)) ?_
          rintro r T' ⟨rfl, rfl⟩
          have hyl : y.length = a.length := by rw [hy, List.length_append, hx]; exact hNz
          have hyt : y.take ta.length = x := by rw [hy, List.take_left' hx]
          have hv2 : (.own 0 : AV) = vw0 ta.length y.length := by rw [hyl, hv]
          have hft := f_trimV (G := G) y ta.length (by rw [hyl]; omega) (by omega)
          rw [hyt, ← hv2] at hft
          have hfin : (dm a b).1 = trimL q ∧ (dm a b).2 = trimL y := by
            have hF2 : (q, x) = F := hd
            rw [hdm, ← hF2]
            refine ⟨rfl, ?_⟩
            obtain ⟨kz, hzr⟩ := hzr
            rw [hy, hzr, trimL_app_zeros]
          have hxy : trimL x = trimL y := by
            obtain ⟨kz, hzr⟩ := hzr
            rw [hy, hzr, trimL_app_zeros]
          rw [hxy] at hft
          by_cases hh : (trimL q).length = q.length
          · simp only [go_sem, ↓reduceIte, vw0, if_pos hh]
            refine call_at [0] (subL_refl _) (by decide) (by simp) rfl rfl hft ?_
            rintro r T' ⟨rfl, rfl⟩
            by_cases hh2 : (trimL y).length = y.length
            · simp only [go_sem, ↓reduceIte, vw0, if_pos hh2]
              exact ⟨q, y, hfin.1, hfin.2, by simp only [vwI, if_pos hh, if_pos hh2], rfl⟩
            · simp only [go_sem, ↓reduceIte, vw0, if_neg hh2]
              exact ⟨q, y, hfin.1, hfin.2, by simp only [vwI, if_pos hh, if_neg hh2], rfl⟩
          · simp only [go_sem, ↓reduceIte, vw0, if_neg hh]
            refine call_at [0] (subL_refl _) (by decide) (by simp) rfl rfl hft ?_
            rintro r T' ⟨rfl, rfl⟩
            by_cases hh2 : (trimL y).length = y.length
            · simp only [go_sem, ↓reduceIte, vw0, if_pos hh2]
              exact ⟨q, y, hfin.1, hfin.2, by simp only [vwI, if_neg hh, if_pos hh2], rfl⟩
            · simp only [go_sem, ↓reduceIte, vw0, if_neg hh2]
              exact ⟨q, y, hfin.1, hfin.2, by simp only [vwI, if_neg hh, if_neg hh2], rfl⟩
        | succ k =>
          have hk1 : ((k + 1 : Nat) : Int) - 1 = (k : Int) := by omega
          have w5 : IntKind.i64.wrap ((k : Int) + (tb.length : Int)) = ((k + tb.length : Nat) : Int) := by rw [wrap_i64 (by omega) (by omega)]; omega
          have w6 : IntKind.i64.wrap (((k + tb.length : Nat) : Int) - 1) = ((k + tb.length - 1 : Nat) : Int) := by rw [wrap_i64 (by omega) (by omega)]; omega
          have hlt : k + tb.length - 1 < ta.length := by omega
          have hyl : y.length = a.length := by rw [hy, List.length_append, hx]; exact hNz
          have g2 : (fl y)[k + tb.length - 1]? = some [.v (fu (x.getD (k + tb.length - 1) 0))] := by
            rw [hy, fl_getD _ _ (by rw [List.length_append]; omega), getD_app x [] _ (by omega)]
          have g3 := fl_getD q k (by omega)
          simp only [go_sem, ↓reduceIte, hk1, show decide ((k : Int) ≥ 0) = true by simp, List.length_map, w5, w6, hx, hyl, hlt, show k + tb.length - 1 < a.length by omega, g2]
          refine call_pure (subL_refl _) rfl (f_Mul _ _) rfl ?_
          simp only [go_sem, ↓reduceIte, List.length_map, hq, show k < K by omega, g3, fl_set]
          have hd2 : dmLoop tb v k (q.set k (x.getD (k + tb.length - 1) 0 * v), rowSub (x.getD (k + tb.length - 1) 0 * v) tb k x) = F := hd
          generalize x.getD (k + tb.length - 1) 0 * v = c at hd2
          have hq2 : (q.set k c).length = K := by rw [List.length_set, hq]
          have g4 : (fl (q.set k c))[k]? = some [.v (fu c)] := by
            rw [fl_get _ _ (by omega), List.getElem_set_self]
          generalize q.set k c = q2 at *
          refine loop_up tb.length (fun i => ⟨0, [(0, .own 0), (1, .ls 1 (fl tb)), (4, .own 1), (6, .v (fu v)), (7, .v (.int .i64 (k : Int))), (57, .ls 1 (fl tb)), (58, .v (.int .i64 tb.length)), (59, .v (.int .i64 i))],
            [some (.arr 1 (fl (rowSub c (tb.take i) k y))), some (.arr 1 (fl q2))]⟩) (fun _ => True) ?_ trivial ?_ ?_
          · simp only [go_sem, ↓reduceIte, List.take_zero, rowSub]
          · intro i hi _
            have g5 := fl_getD tb i hi
            have hlen : (rowSub c (tb.take i) k y).length = y.length := rowSub_len _ _ _ _
            have hst := rowSub_take c tb k y i hi
            generalize rowSub c (tb.take i) k y = o at hlen hst
            have g6 := fl_getD o (k + i) (by omega)
            have w7 : IntKind.i64.wrap ((k : Int) + (i : Int)) = ((k + i : Nat) : Int) := by rw [wrap_i64 (by omega) (by omega)]; omega
            have hl1 : k + i < a.length := by omega
            have hl2 : k + i < ta.length := by omega
            simp only [go_sem, ↓reduceIte, List.length_map, dlt_t hi, g4, g5, w7, hlen, hyl, hl1, hl2, g6, hq2, show k < K by omega]
            refine call_pure (subL_refl _) rfl (f_Mul _ _) rfl ?_
            simp only [go_sem, ↓reduceIte, List.length_map, w7, hlen, hyl, hl1, hl2, g6]
            refine call_pure (subL_refl _) rfl (f_Sub _ _) rfl ?_
            simp only [go_sem, ↓reduceIte, List.length_map, w7, hlen, hyl, hl1, hl2, g6, wrap_suc (show i < 9223372036854775807 by omega), hst, fl_set]
          · intro _
            have w8 : IntKind.i64.wrap ((k : Int) - 1) = (k : Int) - 1 := wrap_i64 (by omega) (by omega)
            simp only [go_sem, ↓reduceIte, List.length_map, dlt_f (Nat.lt_irrefl _), List.take_length, w8]
            refine ⟨k, by omega, q2, rowSub c tb k x, rowSub c tb k y, ?_, hd2, hq2, by rw [rowSub_len, hx], by omega, rfl⟩
            rw [hy, rowSub_app c [] tb k x (by omega)]
            try rw [List.append_nil]
            try rw [List.append_nil]
  · rw [hv]
    simp only [go_sem, ↓reduceIte]
    refine call_pure (subL_refl _) rfl (f_TrimS b (by omega)) rfl ?_
    by_cases h1 : trimL b = []
    · simp only [go_sem, ↓reduceIte, h1, fl]
      refine ⟨[], [], ?_, ?_, by simp [vwI, trimL], rfl⟩ <;> (rw [dm, if_pos h1]; rfl)
    · have hp1 := List.length_pos_iff.2 h1
      have e1 : (((trimL b).length : Int) == 0) = false := by simp; omega
      by_cases h2 : (trimL a).length < (trimL b).length
      · simp only [go_sem, ↓reduceIte, List.length_map, e1,  dlt_t h2]
        refine ⟨[], a, ?_, ?_, ?_, rfl⟩
        · rw [dm, if_neg h1, if_pos h2]; rfl
        · rw [dm, if_neg h1, if_pos h2]
        · simp only [vwI, trimL_nil, List.length_nil, if_true, if_neg hne]
      · have hdm : dm a b = (let s := dmLoop (trimL b) (inv ((trimL b).getD ((trimL b).length - 1) 0)) ((trimL a).length - (trimL b).length + 1) (List.replicate ((trimL a).length - (trimL b).length + 1) 0, trimL a); (trimL s.1, trimL s.2)) := by rw [dm, if_neg h1, if_neg h2]
        have hza : (fl a) = fl (trimL a ++ z) := by rw [← hz]
        simp only [go_sem, ↓reduceIte, List.length_map, e1,  dlt_f h2]
        rw [hza]
        have hNz : (trimL a).length + (z : List Fq).length = a.length := by rw [← List.length_append, ← hz]
        clear hza
        revert hdm
        skip
        generalize trimL b = tb at *
        generalize hta : trimL a = ta at *
        generalize hF : dmLoop tb (inv (tb.getD (tb.length - 1) 0)) (ta.length - tb.length + 1) (List.replicate (ta.length - tb.length + 1) 0, ta) = F
        intro hdm
        have w1 : IntKind.i64.wrap ((ta.length : Int) - (tb.length : Int)) = ((ta.length - tb.length : Nat) : Int) := by rw [wrap_i64 (by omega) (by omega)]; omega
        have w2 : IntKind.i64.wrap (((ta.length - tb.length : Nat) : Int) + 1) = ((ta.length - tb.length + 1 : Nat) : Int) := wrap_suc (by omega)
        generalize hK : ta.length - tb.length + 1 = K at *
        have w3 : IntKind.i64.wrap ((tb.length : Int) - 1) = ((tb.length - 1 : Nat) : Int) := by rw [wrap_i64 (by omega) (by omega)]; omega
        have w4 : IntKind.i64.wrap ((K : Int) - 1) = (K : Int) - 1 := wrap_i64 (by omega) (by omega)
        have g1 := fl_getD tb (tb.length - 1) (by omega)
        simp only [go_sem, ↓reduceIte, List.length_map, w1, w2, w3, g1, fl_rep, Int.le_refl, show ((K : Nat) : Int) * 8 ≤ 140737488355328 by omega, show ((K : Nat) : Int) ≤ (maxLen : Int) by unfold maxLen; omega]
        refine call_pure (subL_refl _) rfl (f_Inv _) rfl ?_
        generalize inv (tb.getD (tb.length - 1) 0) = v at *
        simp only [go_sem, ↓reduceIte, List.length_map, List.length_replicate, w4]
        refine loop_i (fun k s => ∃ q x y : List Fq, y = x ++ z ∧ dmLoop tb v k (q, x) = F ∧ q.length = K ∧ x.length = ta.length ∧ k ≤ K ∧ s = ⟨0, [(0, .vw 0 1 0 ta.length), (1, .ls 1 (fl tb)), (4, .own 1), (6, .v (fu v)), (7, .v (.int .i64 ((k : Int) - 1)))], [some (.arr 1 (fl y)), some (.arr 1 (fl q))]⟩) K ⟨_, _, _, rfl, hF, by simp, rfl, Nat.le_refl _, ?_⟩ ?_
        · simp only [go_sem, ↓reduceIte]
        rintro k s ⟨q, x, y, hy, hd, hq, hx, hk, rfl⟩
        cases k with
        | zero =>
          simp only [go_sem, ↓reduceIte, show decide (((0 : Nat) : Int) - 1 ≥ 0) = false by decide, show decide ((-1 : Int) ≥ 0) = false by decide]
          refine call_at [1] (subL_refl _) (by decide) (by simp) rfl rfl (f_trim q (by omega)) ?_
          rintro r T' ⟨rfl, rfl⟩
          have hyl : y.length = a.length := by rw [hy, List.length_append, hx]; exact hNz
          have hyt : y.take ta.length = x := by rw [hy, List.take_left' hx]
          have hv2 : (.vw 0 1 0 ta.length : AV) = vw0 ta.length y.length := by rw [hyl, hv]
          have hft := f_trimV (G := G) y ta.length (by rw [hyl]; omega) (by omega)
          rw [hyt, ← hv2] at hft
          have hfin : (dm a b).1 = trimL q ∧ (dm a b).2 = trimL y := by
            have hF2 : (q, x) = F := hd
            rw [hdm, ← hF2]
            refine ⟨rfl, ?_⟩
            obtain ⟨kz, hzr⟩ := hzr
            rw [hy, hzr, trimL_app_zeros]
          have hxy : trimL x = trimL y := by
            obtain ⟨kz, hzr⟩ := hzr
            rw [hy, hzr, trimL_app_zeros]
          rw [hxy] at hft
          by_cases hh : (trimL q).length = q.length
          · simp only [go_sem, ↓reduceIte, vw0, if_pos hh]
            refine call_at [0] (subL_refl _) (by decide) (by simp) rfl rfl hft ?_
            rintro r T' ⟨rfl, rfl⟩
            by_cases hh2 : (trimL y).length = y.length
            · simp only [go_sem, ↓reduceIte, vw0, if_pos hh2]
              exact ⟨q, y, hfin.1, hfin.2, by simp only [vwI, if_pos hh, if_pos hh2], rfl⟩
            · simp only [go_sem, ↓reduceIte, vw0, if_neg hh2]
              exact ⟨q, y, hfin.1, hfin.2, by simp only [vwI, if_pos hh, if_neg hh2], rfl⟩
          · simp only [go_sem, ↓reduceIte, vw0, if_neg hh]
            refine call_at [0] (subL_refl _) (by decide) (by simp) rfl rfl hft ?_
            rintro r T' ⟨rfl, rfl⟩
            by_cases hh2 : (trimL y).length = y.length
            · simp only [go_sem, ↓reduceIte, vw0, if_pos hh2]
              exact ⟨q, y, hfin.1, hfin.2, by simp only [vwI, if_neg hh, if_pos hh2], rfl⟩
            · simp only [go_sem, ↓reduceIte, vw0, if_neg hh2]
              exact ⟨q, y, hfin.1, hfin.2, by simp only [vwI, if_neg hh, if_neg hh2], rfl⟩
        | succ k =>
          have hk1 : ((k + 1 : Nat) : Int) - 1 = (k : Int) := by omega
          have w5 : IntKind.i64.wrap ((k : Int) + (tb.length : Int)) = ((k + tb.length : Nat) : Int) := by rw [wrap_i64 (by omega) (by omega)]; omega
          have w6 : IntKind.i64.wrap (((k + tb.length : Nat) : Int) - 1) = ((k + tb.length - 1 : Nat) : Int) := by rw [wrap_i64 (by omega) (by omega)]; omega
          have hlt : k + tb.length - 1 < ta.length := by omega
          have hyl : y.length = a.length := by rw [hy, List.length_append, hx]; exact hNz
          have g2 : (fl y)[k + tb.length - 1]? = some [.v (fu (x.getD (k + tb.length - 1) 0))] := by
            rw [hy, fl_getD _ _ (by rw [List.length_append]; omega), getD_app x z _ (by omega)]
          have g3 := fl_getD q k (by omega)
          simp only [go_sem, ↓reduceIte, hk1, show decide ((k : Int) ≥ 0) = true by simp, List.length_map, w5, w6, hx, hyl, hlt, show k + tb.length - 1 < a.length by omega, g2]
          refine call_pure (subL_refl _) rfl (f_Mul _ _) rfl ?_
          simp only [go_sem, ↓reduceIte, List.length_map, hq, show k < K by omega, g3, fl_set]
          have hd2 : dmLoop tb v k (q.set k (x.getD (k + tb.length - 1) 0 * v), rowSub (x.getD (k + tb.length - 1) 0 * v) tb k x) = F := hd
          generalize x.getD (k + tb.length - 1) 0 * v = c at hd2
          have hq2 : (q.set k c).length = K := by rw [List.length_set, hq]
          have g4 : (fl (q.set k c))[k]? = some [.v (fu c)] := by
            rw [fl_get _ _ (by omega), List.getElem_set_self]
          generalize q.set k c = q2 at *
          refine loop_up tb.length (fun i => ⟨0, [(0, .vw 0 1 0 ta.length), (1, .ls 1 (fl tb)), (4, .own 1), (6, .v (fu v)), (7, .v (.int .i64 (k : Int))), (57, .ls 1 (fl tb)), (58, .v (.int .i64 tb.length)), (59, .v (.int .i64 i))],
            [some (.arr 1 (fl (rowSub c (tb.take i) k y))), some (.arr 1 (fl q2))]⟩) (fun _ => True) ?_ trivial ?_ ?_
          · simp only [go_sem, ↓reduceIte, List.take_zero, rowSub]
          · intro i hi _
            have g5 := fl_getD tb i hi
            have hlen : (rowSub c (tb.take i) k y).length = y.length := rowSub_len _ _ _ _
            have hst := rowSub_take c tb k y i hi
            generalize rowSub c (tb.take i) k y = o at hlen hst
            have g6 := fl_getD o (k + i) (by omega)
            have w7 : IntKind.i64.wrap ((k : Int) + (i : Int)) = ((k + i : Nat) : Int) := by rw [wrap_i64 (by omega) (by omega)]; omega
            have hl1 : k + i < a.length := by omega
            have hl2 : k + i < ta.length := by omega
            simp only [go_sem, ↓reduceIte, List.length_map, dlt_t hi, g4, g5, w7, hlen, hyl, hl1, hl2, g6, hq2, show k < K by omega]
            refine call_pure (subL_refl _) rfl (f_Mul _ _) rfl ?_
            simp only [go_sem, ↓reduceIte, List.length_map, w7, hlen, hyl, hl1, hl2, g6]
            refine call_pure (subL_refl _) rfl (f_Sub _ _) rfl ?_
            simp only [go_sem, ↓reduceIte, List.length_map, w7, hlen, hyl, hl1, hl2, g6, wrap_suc (show i < 9223372036854775807 by omega), hst, fl_set]
          · intro _
            have w8 : IntKind.i64.wrap ((k : Int) - 1) = (k : Int) - 1 := wrap_i64 (by omega) (by omega)
            simp only [go_sem, ↓reduceIte, List.length_map, dlt_f (Nat.lt_irrefl _), List.take_length, w8]
            refine ⟨k, by omega, q2, rowSub c tb k x, rowSub c tb k y, ?_, hd2, hq2, by rw [rowSub_len, hx], by omega, rfl⟩
            rw [hy, rowSub_app c z tb k x (by omega)]
            try rw [List.append_nil]
            try rw [List.append_nil]
end
end Hud
end
section
namespace Hud
open Go
theorem dm_len2 (a b : List Fq) : (dm a b).2.length ≤ a.length := by
  unfold dm
  have la := trimL_len a
  split
  · simp
  · split
    · simpa using la
    · refine Nat.le_trans (trimL_len _) ?_
      have key : ∀ (b : List Fq) (v : Fq) (k : Nat) (q a : List Fq), (dmLoop b v k (q, a)).2.length = a.length := by
        intro b v k
        induction k with
        | zero => intro q a; rfl
        | succ k ih => intro q a; rw [dmLoop, ih, rowSub_len]
      rw [key]
      exact la
theorem dm_tr (a b : List Fq) : tr (dm a b).1 ∧ tr (dm a b).2 := by
  unfold dm
  split
  · exact ⟨.inl rfl, .inl rfl⟩
  · split
    · exact ⟨.inl rfl, trimL_tr _⟩
    · exact ⟨trimL_tr _, trimL_tr _⟩
theorem dm_lt {a b : List Fq} (h : trimL b ≠ []) : (dm a b).2.length < (trimL b).length := (dm_ok (fun hz => h (trimL_nil_iff.2 hz))).2.1
section
variable {G : Nat → Option (List AV)}
set_option maxHeartbeats 1000000
theorem f_DivMod (a b : List Fq) (ha : a.length ≤ 100000000) (hb : b.length ≤ 100000000) : CallOk Go.Proofs.Tryz.prog G n_poly_DivMod [.ls 1 (fl a), .ls 1 (fl b)] [] fun r T' => r = .tup [.ls 1 (fl (dm a b).1), .ls 1 (fl (dm a b).2)] ∧ T' = [] := by
  refine (f_DivMod' a b ha hb).fin [0, 1] ?_
  rintro r T' ⟨Q, R, e1, e2, rfl, rfl⟩
  have q1 := fl_trim Q
  have q2 := trimL_len Q
  have r1 := fl_trim R
  have r2 := trimL_len R
  rw [e1, e2]
  by_cases h1 : (trimL Q).length = Q.length
  · rw [h1, List.take_of_length_le (by simp)] at q1
    by_cases h2 : (trimL R).length = R.length
    · rw [h2, List.take_of_length_le (by simp)] at r1
      simp only [go_sem, ↓reduceIte, vwI, if_pos h1, if_pos h2, q1, r1]
    · simp only [go_sem, ↓reduceIte, vwI, if_pos h1, if_neg h2, q1, Nat.zero_add, List.length_map, r2, r1]
  · by_cases h2 : (trimL R).length = R.length
    · rw [h2, List.take_of_length_le (by simp)] at r1
      simp only [go_sem, ↓reduceIte, vwI, if_neg h1, if_pos h2, r1, Nat.zero_add, List.length_map, q2, q1]
    · simp only [go_sem, ↓reduceIte, vwI, if_neg h1, if_neg h2, Nat.zero_add, List.length_map, q2, q1, r2, r1]
theorem f_Gcd (a b : List Fq) (ha : a.length ≤ 100000000) (hb : b.length ≤ 100000000) : CallOk Go.Proofs.Tryz.prog G n_poly_Gcd [.ls 1 (fl a), .ls 1 (fl b)] [] fun r T' => r = .ls 1 (fl (gcdL a b)) ∧ T' = [] := by
  refine fun_okH h_poly_Gcd_ok (by decide) ?_
  unfold h_poly_Gcd
  have la := trimL_len a
  have lb := trimL_len b
  simp only [go_sem, ↓reduceIte]
  refine call_pure (subL_refl _) rfl (f_TrimS a (by omega)) rfl ?_
  simp only [go_sem, ↓reduceIte]
  refine call_pure (subL_refl _) rfl (f_TrimS b (by omega)) rfl ?_
  simp only [go_sem, ↓reduceIte]
  refine loop_i (fun n s => ∃ x y : List Fq, tr x ∧ tr y ∧ y.length < n ∧ gcdLoop n x y = gcdLoop ((trimL b).length + 1) (trimL a) (trimL b) ∧ x.length ≤ 100000000 ∧ y.length ≤ 100000000 ∧ s = ⟨0, [(0, .ls 1 (fl x)), (1, .ls 1 (fl y))], []⟩) ((trimL b).length + 1)
    ⟨trimL a, trimL b, trimL_tr a, trimL_tr b, Nat.lt_succ_self _, rfl, by omega, by omega, by simp only [go_sem, ↓reduceIte]⟩ ?_
  rintro n s ⟨x, y, tx, ty, hn, hg, lx, ly, rfl⟩
  cases n with
  | zero => omega
  | succ n =>
    by_cases h0 : y = []
    · subst h0
      simp only [go_sem, ↓reduceIte, fl]
      have : gcdLoop (n + 1) x [] = x := by rw [gcdLoop, if_pos rfl]
      refine call_pure (subL_refl _) rfl (f_monic x (by omega)) rfl ?_
      simp only [go_sem, ↓reduceIte, gcdL, ← hg, this]
    · have hp := List.length_pos_iff.2 h0
      simp only [go_sem, ↓reduceIte, List.length_map, show decide ((y.length : Int) > 0) = true by simpa using hp]
      refine call_pure (subL_refl _) rfl (f_DivMod x y lx ly) rfl ?_
      simp only [go_sem, ↓reduceIte]
      have hlt : (dm x y).2.length < y.length := by
        have := dm_lt (a := x) (b := y) (by rw [trimL_id ty]; exact h0)
        rwa [trimL_id ty] at this
      refine ⟨n, Nat.lt_succ_self n, y, (dm x y).2, ty, (dm_tr x y).2, by omega, ?_, ly, by omega, rfl⟩
      rw [← hg, gcdLoop, if_neg h0]
theorem powL_0 (md : List Fq) (f : Nat) (out a : List Fq) : powL md f 0 out a = out := by cases f <;> simp [powL]
theorem mulL_le (a b : List Fq) : (mulL a b).length ≤ a.length + b.length := by
  rcases mulL_len a b with h | h
  · rw [h]; simp
  · omega
theorem f_power (a md : List Fq) (n : Nat) (hn : n < 2 ^ 61) (ha : a.length ≤ 1000000) (hm : md.length ≤ 1000000) : CallOk Go.Proofs.Tryz.prog G n_poly_power [.ls 1 (fl a), .v (.int .u64 (n : Int)), .ls 1 (fl md)] [] fun r T' => r = .ls 1 (fl (powL md 61 n [1] a)) ∧ T' = [] := by
  refine fun_okH h_poly_power_ok (by decide) ?_
  unfold h_poly_power
  simp only [go_sem, ↓reduceIte]
  refine loop_i (fun f s => ∃ (m : Nat) (out x : List Fq), m < 2 ^ f ∧ m < 18446744073709551616 ∧ powL md f m out x = powL md 61 n [1] a ∧ out.length ≤ 2000000 ∧ x.length ≤ 2000000 ∧ s = ⟨0, [(0, .ls 1 (fl x)), (1, .v (.int .u64 (m : Int))), (2, .ls 1 (fl md)), (7, .ls 1 (fl out))], []⟩) 61
    ⟨n, [1], a, hn, by omega, rfl, by simp, by omega, by simp only [go_sem, ↓reduceIte, fl]; rfl⟩ ?_
  rintro f s ⟨m, out, x, hf, hm2, hp, lo, lx, rfl⟩
  rcases Nat.eq_zero_or_pos m with rfl | hpos
  · simp only [go_sem, ↓reduceIte, show decide (((0 : Nat) : Int) > 0) = false by decide]
    rw [powL_0] at hp
    simp only [hp, and_self]
  · cases f with
    | zero => simp at hf; omega
    | succ f =>
      have a1 := pbin_and1 m hm2
      have hmx := mulL_le x x
      have hd1 := dm_len2 (mulL x x) md
      have hmo := mulL_le out x
      have hd2 := dm_len2 (mulL out x) md
      rw [powL, if_neg (by omega)] at hp
      have key : ∀ y md : List Fq, y.length ≤ 4000000 → md.length ≤ 1000000 → (dm y md).2.length ≤ 1000000 := by
        intro y md h1 h2
        by_cases hz : trimL md = []
        · have : (dm y md).2 = [] := by rw [dm, if_pos hz]
          rw [this]; simp
        · have := dm_lt (a := y) hz
          have := trimL_len md
          omega
      simp only [go_sem, ↓reduceIte, show decide ((m : Int) > 0) = true by simpa using hpos, ↓a1]
      refine condW_i (fun hb => ?_) (fun hb => ?_)
      · have h3 : m % 2 = 1 := by simp at hb; omega
        rw [if_pos h3] at hp
        simp only [go_sem, ↓reduceIte]
        refine call_pure (subL_refl _) rfl (f_PMul out x (by omega) (by omega)) rfl ?_
        simp only [go_sem, ↓reduceIte]
        refine call_pure (subL_refl _) rfl (f_DivMod (mulL out x) md (by omega) (by omega)) rfl ?_
        simp only [go_sem, ↓reduceIte]
        refine call_pure (subL_refl _) rfl (f_PMul x x (by omega) (by omega)) rfl ?_
        simp only [go_sem, ↓reduceIte]
        refine call_pure (subL_refl _) rfl (f_DivMod (mulL x x) md (by omega) (by omega)) rfl ?_
        simp only [go_sem, ↓reduceIte, ↓pbin_shr1]
        exact ⟨f, Nat.lt_succ_self f, m / 2, _, _, by omega, by omega, hp, Nat.le_trans (key _ _ (by omega) hm) (by omega), Nat.le_trans (key _ _ (by omega) hm) (by omega), rfl⟩
      · have h3 : m % 2 = 0 := by simp at hb; omega
        rw [if_neg (by omega)] at hp
        simp only [go_sem, ↓reduceIte]
        refine call_pure (subL_refl _) rfl (f_PMul x x (by omega) (by omega)) rfl ?_
        simp only [go_sem, ↓reduceIte]
        refine call_pure (subL_refl _) rfl (f_DivMod (mulL x x) md (by omega) (by omega)) rfl ?_
        simp only [go_sem, ↓reduceIte, ↓pbin_shr1]
        exact ⟨f, Nat.lt_succ_self f, m / 2, _, _, by omega, by omega, hp, lo, Nat.le_trans (key _ _ (by omega) hm) (by omega), rfl⟩
end
end Hud
end
