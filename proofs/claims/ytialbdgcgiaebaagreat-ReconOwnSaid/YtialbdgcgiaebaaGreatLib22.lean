import Derived.Test.YtialbdgcgiaebaaGreatLib21
import Derived.ProofKit
import Derived.Deep.Slices
set_option linter.all false
section
namespace Hud
open Go
section
variable {G : Nat → Option (List AV)}
set_option maxHeartbeats 4000000
theorem nodup_app {x y : List Fq} : (x ++ y).Nodup ↔ x.Nodup ∧ y.Nodup ∧ ∀ z ∈ x, z ∉ y := by
  rw [List.nodup_append]
  exact ⟨fun ⟨a, b, c⟩ => ⟨a, b, fun z h1 h2 => c z h1 z h2 rfl⟩, fun ⟨a, b, c⟩ => ⟨a, b, fun z h1 w h2 e => c z h1 (e ▸ h2)⟩⟩
end
end Hud
end
section
namespace Hud
open Go
theorem setF_perm {l m : List Fq} (h : ∀ z, z ∈ l ↔ z ∈ m) : setF l = setF m := ss_ext (setF_ss _) (setF_ss _) fun z => by rw [setF_mem, setF_mem, h]
theorem elems_same {a b : List Id} (h : ∀ x, x ∈ a ↔ x ∈ b) : elemsL a = elemsL b := setF_perm fun z => by
  simp only [List.mem_map]
  exact ⟨fun ⟨x, hx, e⟩ => ⟨x, (h x).1 hx, e⟩, fun ⟨x, hx, e⟩ => ⟨x, (h x).2 hx, e⟩⟩
theorem elems_mem (a : List Id) (z : Fq) : z ∈ elemsL a ↔ ∃ x ∈ a, EF x = z := by rw [elemsL, setF_mem, List.mem_map]
theorem elems_nil : elemsL [] = [] := rfl
theorem fit_unlike {a b : List Id} (hi : ∀ x, (x ∈ a ∨ x ∈ b) → ∀ y, (y ∈ a ∨ y ∈ b) → EF x = EF y → x = y) {n : Nat} (hn : n ≤ 64) : FitL a b n ↔ (elemsL (withoutL a b)).length + (elemsL (withoutL b a)).length + 2 ≤ n := by
  refine ⟨fun h => h.len, fun hlen => ?_⟩
  have pa : (elemsL a).Perm (elemsL (withoutL a b) ++ elemsL (a.filter fun x => decide (x ∈ b))) := by
    refine (List.perm_ext_iff_of_nodup (ss_nodup (elems_ss _)) (nodup_app.2 ⟨ss_nodup (elems_ss _), ss_nodup (elems_ss _), fun z h1 h2 => ?_⟩)).2 fun z => ?_
    · obtain ⟨x, hx, rfl⟩ := (elems_mem _ _).1 h1
      obtain ⟨y, hy, e⟩ := (elems_mem _ _).1 h2
      rw [without_mem] at hx
      obtain ⟨y1, y2⟩ := List.mem_filter.1 hy
      have := hi x (.inl hx.1) y (.inl y1) e.symm
      subst this
      exact hx.2 (by simpa using y2)
    · rw [List.mem_append, elems_mem, elems_mem, elems_mem]
      constructor
      · rintro ⟨x, hx, e⟩
        by_cases hb : x ∈ b
        · exact .inr ⟨x, List.mem_filter.2 ⟨hx, by simpa using hb⟩, e⟩
        · exact .inl ⟨x, (without_mem a b x).2 ⟨hx, hb⟩, e⟩
      · rintro (⟨x, hx, e⟩ | ⟨x, hx, e⟩)
        · exact ⟨x, ((without_mem a b x).1 hx).1, e⟩
        · exact ⟨x, (List.mem_filter.1 hx).1, e⟩
  have pb : (elemsL b).Perm (elemsL (withoutL b a) ++ elemsL (a.filter fun x => decide (x ∈ b))) := by
    refine (List.perm_ext_iff_of_nodup (ss_nodup (elems_ss _)) (nodup_app.2 ⟨ss_nodup (elems_ss _), ss_nodup (elems_ss _), fun z h1 h2 => ?_⟩)).2 fun z => ?_
    · obtain ⟨x, hx, rfl⟩ := (elems_mem _ _).1 h1
      obtain ⟨y, hy, e⟩ := (elems_mem _ _).1 h2
      rw [without_mem] at hx
      obtain ⟨y1, y2⟩ := List.mem_filter.1 hy
      have := hi x (.inr hx.1) y (.inl y1) e.symm
      subst this
      exact hx.2 y1
    · rw [List.mem_append, elems_mem, elems_mem, elems_mem]
      constructor
      · rintro ⟨x, hx, e⟩
        by_cases ha : x ∈ a
        · exact .inr ⟨x, List.mem_filter.2 ⟨ha, by simpa using hx⟩, e⟩
        · exact .inl ⟨x, (without_mem b a x).2 ⟨hx, ha⟩, e⟩
      · rintro (⟨x, hx, e⟩ | ⟨x, hx, e⟩)
        · exact ⟨x, ((without_mem b a x).1 hx).1, e⟩
        · exact ⟨x, by simpa using (List.mem_filter.1 hx).2, e⟩
  have la := pa.length_eq
  have lb := pb.length_eq
  rw [List.length_append] at la lb
  refine ⟨ss_nodup (elems_ss _), ss_nodup (elems_ss _), fun z h1 h2 => ?_, elems_in _, elems_in _, hlen, by omega, fun k hk => ?_⟩
  · obtain ⟨x, hx, rfl⟩ := (elems_mem _ _).1 h1
    obtain ⟨y, hy, e⟩ := (elems_mem _ _).1 h2
    rw [without_mem] at hx hy
    have := hi x (.inl hx.1) y (.inr hy.1) e.symm
    subst this
    exact hx.2 hy.1
  · simp only [SV_getD _ _ _ hk]
    rw [vl_perm (zk k) pa, vl_perm (zk k) pb, vl_app, vl_app]
    generalize vl (elemsL (withoutL a b)) (zk k) = p
    generalize vl (elemsL (withoutL b a)) (zk k) = q
    generalize vl (elemsL (a.filter fun x => decide (x ∈ b))) (zk k) = c
    grind
theorem fit_same {a b : List Id} (h : ∀ x, x ∈ a ↔ x ∈ b) {n : Nat} (hn : 2 ≤ n) : FitL a b n := by
  have e := elems_same h
  have w1 : withoutL a b = [] := List.eq_nil_iff_forall_not_mem.2 fun x hx => by rw [without_mem, h] at hx; exact hx.2 hx.1
  have w2 : withoutL b a = [] := List.eq_nil_iff_forall_not_mem.2 fun x hx => by rw [without_mem, h] at hx; exact hx.2 hx.1
  unfold FitL
  rw [e, w1, w2, elems_nil]
  exact ⟨.nil, .nil, by simp, by simp, by simp, by simpa using hn, by simp, fun k hk => rfl⟩
theorem without_nil {a b : List Id} (h : ∀ x ∈ a, x ∈ b) : withoutL a b = [] := List.eq_nil_iff_forall_not_mem.2 fun x hx => by rw [without_mem] at hx; exact hx.2 (h x hx.1)
theorem pts4 {a b : List Id} (h : FitL a b 4) : ptsL a b = 4 := by
  have := pts_at (F := FitL a b) (j := 0) (by decide) (fun i hi => absurd hi (Nat.not_lt_zero _)) h
  exact this
abbrev ivA : Id := ⟨1, 1, 5⟩
abbrev ivB : Id := ⟨2, 1, 6⟩
theorem iv_ne : EF ivA ≠ EF ivB := by decide +kernel
theorem iv_inj : ∀ x, (x ∈ [ivA, ivB] ∨ x ∈ [ivB]) → ∀ y, (y ∈ [ivA, ivB] ∨ y ∈ [ivB]) → EF x = EF y → x = y := by
  intro x hx y hy e
  have h1 : x = ivA ∨ x = ivB := by simpa using hx
  have h2 : y = ivA ∨ y = ivB := by simpa using hy
  rcases h1 with rfl | rfl <;> rcases h2 with rfl | rfl
  · rfl
  · exact absurd e iv_ne
  · exact absurd e.symm iv_ne
  · rfl
theorem iv_w1 : withoutL [ivA, ivB] [ivB] = [ivA] := by decide +kernel
theorem iv_w2 : withoutL [ivB] [ivA, ivB] = [] := without_nil (by simp)
theorem iv_pts : ptsL [ivA, ivB] [ivB] = 4 := pts4 ((fit_unlike iv_inj (by decide)).2 (by
  rw [iv_w1, iv_w2]
  have h1 := elems_len [ivA]
  have h2 : (elemsL []).length = 0 := rfl
  have h3 : [ivA].length = 1 := rfl
  omega))
theorem iv_okAB : okI [ivA, ivB] := by intro x hx; simp at hx; rcases hx with rfl | rfl <;> decide
theorem iv_okBA : okI [ivB, ivA] := by intro x hx; simp at hx; rcases hx with rfl | rfl <;> decide
theorem iv_okB : okI [ivB] := by intro x hx; simp at hx; rcases hx with rfl; decide
section
variable {G : Nat → Option (List AV)}
set_option maxHeartbeats 4000000
theorem c_lives : CallOk Go.Proofs.Tryz.prog G n_l30_lives [] [] fun r T => r = .v (.bool true) ∧ T = [] := by
  refine fun_okH h_l30_lives_ok (by decide) ?_
  unfold h_l30_lives
  have d1 := c_Diff (G := G) [ivA, ivB] [ivB, ivA] (by simp) (by simp) iv_okAB iv_okBA
  have e1 : ∀ x, x ∈ [ivA, ivB] ↔ x ∈ [ivB, ivA] := fun x => by simp [or_comm]
  rw [without_nil fun x hx => (e1 x).1 hx, without_nil fun x hx => (e1 x).2 hx, pts4 (fit_same e1 (by decide))] at d1
  have d2 := c_Diff (G := G) [ivA, ivB] [ivB] (by simp) (by simp) iv_okAB iv_okB
  rw [iv_w1, iv_w2, iv_pts] at d2
  simp only [go_sem, ↓reduceIte]
  refine call_sh [2, 3] [0, 1] (subL_refl _) (args3 := [ids [ivA, ivB], ids [ivB, ivA]]) (by decide) (by simp) rfl rfl (by simp only [go_sem, ↓reduceIte]; rfl) rfl (by simp only [go_sem, ↓reduceIte]) d1 (by simp only [go_sem, ↓reduceIte]) ?_
  simp only [go_sem, ↓reduceIte]
  refine call_sh [4, 5] [0, 1] (subL_refl _) (args3 := [ids [ivA, ivB], ids [ivB]]) (by decide) (by simp) rfl rfl (by simp only [go_sem, ↓reduceIte]; rfl) rfl (by simp only [go_sem, ↓reduceIte]) d2 (by simp only [go_sem, ↓reduceIte]) ?_
  simp only [go_sem, ↓reduceIte]
  refine call_lend_pure (subL_refl _) (args2 := [ids [ivA], ids [ivA]]) (by simp only [go_sem, ↓reduceIte]; rfl) rfl (c_r11_SameIDs [ivA] [ivA] (by simp [maxLen])) ?_
  simp only [go_sem, ↓reduceIte]
end
end Hud
end
section
namespace Hud
open Go
section
variable {G : Nat → Option (List AV)}
set_option maxHeartbeats 4000000
theorem c_Names (l : List Int) (most : Nat) (hm : most ≤ 1000) (ho : ∀ n ∈ l, -9223372036854775808 ≤ n ∧ n ≤ 9223372036854775807) (hlen : l.length ≤ maxLen) : CallOk Go.Proofs.Tryz.prog G n_r30_Names [ints l, .v (.int .i64 (most : Int))] [] fun r T => r = ids (namesL l most) ∧ T = [] := by
  have key : CallOk Go.Proofs.Tryz.prog G n_r30_Names [ints l, .v (.int .i64 (most : Int))] [] fun r T => r = .own 0 ∧ T = [some (.arr 3 ((namesL l most).map Id.A))] := by
    refine fun_okH h_r30_Names_ok (by decide) ?_
    unfold h_r30_Names
    unfold maxLen at hlen
    simp only [go_sem, ↓reduceIte, List.length_map]
    refine loop_up (min l.length most) (fun i => ⟨0, [(0, ints l), (1, .v (.int .i64 (most : Int))), (5, .own 0), (6, .v (.int .i64 i))], [some (.arr 3 ((namesL (l.take i) 1000000).map Id.A))]⟩) (fun _ => True) ?_ trivial ?_ ?_
    · simp only [go_sem, ↓reduceIte]
      rfl
    · intro i hi _
      have h1 : i < l.length := by omega
      have h2 : i < most := by omega
      have hn := ho l[i] (List.getElem_mem h1)
      obtain ⟨w1, w2⟩ := around_in l[i]
      have hstep : namesL (l.take (i + 1)) 1000000 = putL (namesL (l.take i) 1000000) (mkId (around l[i] 1000)) := by
        have t1 : (l.take (i + 1)).take 1000000 = l.take (i + 1) := List.take_of_length_le (by rw [List.length_take]; omega)
        have t2 : (l.take i).take 1000000 = l.take i := List.take_of_length_le (by rw [List.length_take]; omega)
        unfold namesL
        rw [t1, t2]
        exact namesL_step l i h1
      have hol : (namesL (l.take i) 1000000).length ≤ 1000 := by
        unfold namesL
        have := foldP_len ((l.take i).take 1000000) []
        rw [List.length_take, List.length_take] at this
        simp at this
        omega
      rw [hstep]
      generalize namesL (l.take i) 1000000 = out at hol
      have g0 : (l.map I1)[i]? = some [.v (.int .i64 l[i])] := by rw [nth_map I1 l i h1]; rfl
      simp only [go_sem, ↓reduceIte, List.length_map, dlt_t h1, dlt_t h2, g0]
      refine call_pure (subL_refl _) rfl (c_r01_Around l[i] 1000 hn.1 hn.2 (by decide) (by decide)) rfl ?_
      generalize around l[i] 1000 = w at w1 w2
      have q1 : w.tmod 4 = w % 4 := Int.tmod_eq_emod_of_nonneg w1
      have q2 : w.tdiv 4 = w / 4 := Int.tdiv_eq_ediv_of_nonneg w1
      have q3 : w.tdiv 36 = w / 36 := Int.tdiv_eq_ediv_of_nonneg w1
      have q4 : (w / 4).tmod 9 = w / 4 % 9 := Int.tmod_eq_emod_of_nonneg (by omega)
      have q5 : (w / 36).tmod 3 = w / 36 % 3 := Int.tmod_eq_emod_of_nonneg (by omega)
      have v1 : IntKind.i64.wrap (1 + w % 4) = 1 + w % 4 := wrap_i64 (by omega) (by omega)
      have v2 : IntKind.i64.wrap (w / 4) = w / 4 := wrap_i64 (by omega) (by omega)
      have v3 : IntKind.i64.wrap (1 + w / 4 % 9) = 1 + w / 4 % 9 := wrap_i64 (by omega) (by omega)
      have v4 : IntKind.i64.wrap (w / 36) = w / 36 := wrap_i64 (by omega) (by omega)
      have v5 : IntKind.u64.wrap (w / 36 % 3) = w / 36 % 3 := wrap_u64 (by omega) (by omega)
      have eA : [AV.v (.int .i64 (1 + w % 4)), AV.v (.int .i64 (1 + w / 4 % 9)), AV.v (.int .u64 (w / 36 % 3))] = (mkId w).A := rfl
      simp only [go_sem, ↓reduceIte, q1, q2, q3, v1, v2, q4, v3, v4, q5, v5]
      refine call_lend_pure (subL_refl _) rfl rfl (c_r11_HasID out (mkId w) (by unfold maxLen; omega)) ?_
      have b1 : (out.length + 1) * 24 ≤ 140737488355328 := by omega
      have b2 : out.length + 1 ≤ maxLen := by unfold maxLen; omega
      by_cases hin : mkId w ∈ out
      · simp only [go_sem, ↓reduceIte, hin, putL, wrap_suc (show i < 9223372036854775807 by omega)]
      · simp only [go_sem, ↓reduceIte, hin, putL, List.length_map, b1, b2, wrap_suc (show i < 9223372036854775807 by omega)]
        rfl
    · intro _
      have hfin : namesL (l.take (min l.length most)) 1000000 = namesL l most := by
        unfold namesL
        rw [List.take_of_length_le (by rw [List.length_take]; omega)]
        congr 1
        rcases Nat.le_total l.length most with h | h
        · rw [Nat.min_eq_left h, List.take_length, List.take_of_length_le h]
        · rw [Nat.min_eq_right h]
      rw [hfin]
      generalize namesL l most = N
      by_cases h1 : min l.length most < l.length
      · have h2 : ¬ min l.length most < most := by omega
        simp only [go_sem, ↓reduceIte, List.length_map, dlt_t h1, dlt_f h2]
      · simp only [go_sem, ↓reduceIte, List.length_map, dlt_f h1]
  refine key.fin [0] ?_
  rintro r T' ⟨rfl, rfl⟩
  simp only [go_sem, ↓reduceIte]
def inI (l : List Int) : Prop := (∀ n ∈ l, -9223372036854775808 ≤ n ∧ n ≤ 9223372036854775807) ∧ l.length ≤ maxLen
end
end Hud
end
section
namespace Hud
open Go Go.RowKit Go.WideShapes Go.ChangeShapes Go.Deep
def okLeaf : LK → Value → Prop
  | .int k, v => ∃ n, v = .int k n ∧ (Lit.int k n).wf = true
  | .bool, v => ∃ b, v = .bool b
  | .str, v => ∃ s, v = .string s ∧ s.size ≤ maxLen
def okCells : List LK → List Value → Prop
  | [], vs => vs = []
  | k :: ks, vs => ∃ v r, vs = v :: r ∧ okLeaf k v ∧ okCells ks r
theorem okCells_app {a b : List LK} {u v : List Value} (h : okCells a u) (k : okCells b v) : okCells (a ++ b) (u ++ v) := by
  induction a generalizing u with
  | nil => simp only [okCells] at h; subst h; simpa using k
  | cons x a ih =>
    simp only [okCells] at h
    obtain ⟨w, r, rfl, h1, h2⟩ := h
    simp only [List.cons_append, okCells]
    exact ⟨w, r ++ v, rfl, h1, ih h2⟩
mutual
def shapeT (P : Program) : Nat → TypeId → Option (List LK)
  | 0, _ => none
  | n + 1, t => match P.underlying t with
    | some .bool => some [.bool]
    | some (.int k) => some [.int k]
    | some .string => some [.str]
    | some (.struct fs) => shapeF P n fs.toList 0
    | _ => none
def shapeF (P : Program) : Nat → List Field → Nat → Option (List LK)
  | 0, _, _ => none
  | _ + 1, [], _ => some []
  | n + 1, f :: fs, off => match shapeT P n f.type, shapeF P n fs (off + P.cellsOf f.type) with
    | some a, some b => if f.offset = off ∧ a.length = P.cellsOf f.type then some (a ++ b) else none
    | _, _ => none
end
section
variable {H : Type} {enc : TypeId × Value → H} {P : Program} {w : World} {base : Nat} {spare : Nat → Bool} {held : Bool}
mutual
theorem shapeT_ok : ∀ {n : Nat} {t : TypeId} {ks : List LK}, shapeT P n t = some ks → ks.length = P.cellsOf t → ∀ {fuel : Nat} {cs : List Value} {x : DataW H × List MemPlace}, DataW.trod enc P w base spare held fuel t cs = some x → okCells ks cs
  | 0, _, _, h, _, _, _, _, _ => by simp [shapeT] at h
  | n + 1, t, ks, h, hl, fuel, cs, x, e => by
    simp only [shapeT] at h
    split at h
    · rename_i ht
      injection h with h; subst h
      obtain ⟨b, hc, _⟩ := DataW.trod_bool ht e
      subst hc
      simp [okCells, okLeaf]
    · rename_i k ht
      injection h with h; subst h
      obtain ⟨m, hc, _, hw⟩ := DataW.trod_int ht e
      subst hc
      simp [okCells, okLeaf, hw]
    · rename_i ht
      injection h with h; subst h
      obtain ⟨s, hc, _, hw⟩ := DataW.trod_string ht e
      subst hc
      simp [okCells, okLeaf, hw]
    · rename_i fs ht
      obtain ⟨xs, m, _, _, hcl, hlen, hf⟩ := DataW.trod_struct ht e
      have := shapeF_ok h (cs := cs) (fun i f hi => by
        have h1 := hf i f (by simpa using hi)
        have h2 : i < xs.length := by
          rw [hlen]
          rcases Nat.lt_or_ge i fs.size with hh | hh
          · exact hh
          · rw [List.getElem?_eq_none (by simpa using hh)] at hi; simp at hi
        exact ⟨m, _, h1.trans (List.getElem?_eq_getElem h2)⟩) (by rw [hcl, ← hl, Nat.zero_add])
      simpa using this
    · simp at h
theorem shapeF_ok : ∀ {n : Nat} {fs : List Field} {off : Nat} {ks : List LK}, shapeF P n fs off = some ks → ∀ {cs : List Value}, (∀ (i : Nat) (f : Field), fs[i]? = some f → ∃ fuel x, DataW.trod enc P w base spare held fuel f.type ((cs.drop f.offset).take (P.cellsOf f.type)) = some x) →
    cs.length = off + ks.length → okCells ks (cs.drop off)
  | 0, _, _, _, h, _, _, _ => by simp [shapeF] at h
  | n + 1, [], off, ks, h, cs, hf, hl => by
    simp only [shapeF, Option.some.injEq] at h
    subst h
    simp only [okCells]
    exact List.drop_of_length_le (by simp at hl; omega)
  | n + 1, f :: fs, off, ks, h, cs, hf, hl => by
    simp only [shapeF] at h
    split at h
    · rename_i a b h1 h2
      split at h
      · rename_i hc
        injection h with h; subst h
        obtain ⟨hc1, hc2⟩ := hc
        obtain ⟨fuel, x, e⟩ := hf 0 f rfl
        have ih1 := shapeT_ok h1 hc2 e
        rw [List.length_append] at hl
        have ih2 := shapeF_ok h2 (cs := cs) (fun i g hi => hf (i + 1) g (by simpa using hi)) (by rw [← hc2]; omega)
        rw [hc1] at ih1
        have : cs.drop off = (cs.drop off).take (P.cellsOf f.type) ++ cs.drop (off + P.cellsOf f.type) := by
          rw [← List.drop_drop, List.take_append_drop]
        rw [this]
        exact okCells_app ih1 ih2
      · simp at h
    · simp at h
end
end
def allG (w : World) : GH := fun b => match w.heap[b]? with | some (.cells cs _ _) => some cs | _ => none
theorem allG_inv (w : World) (φ : Nat → Value) : Inv (allG w) φ w [] where
  gh := fun b cs e => by
    unfold allG at e
    split at e
    · rename_i c E fr h
      injection e with e; subst e
      exact ⟨E, fr, h⟩
    · simp at e
  obj := fun i o e => by simp at e
  dis := fun i j oi oj b e => by simp at e
theorem allG_cell {w : World} {b o : Nat} {v : Value} (h : w.cell? ⟨b, o, none⟩ = some v) : cellG (allG w) b o = some v := by
  unfold World.cell? at h
  unfold cellG allG
  split at h
  · rename_i c E fr h1
    simp only at h1
    rw [h1]
    simpa using h
  · simp at h
theorem leaf_closed {k : LK} {v : Value} (h : okLeaf k v) : closedA (.v v) = true := by
  cases k with
  | int k => obtain ⟨n, rfl, _⟩ := h; rfl
  | bool => obtain ⟨b, rfl⟩ := h; rfl
  | str => obtain ⟨s, rfl, _⟩ := h; rfl
theorem okCells_get {ks : List LK} {vs : List Value} (h : okCells ks vs) : ∀ {i : Nat} {v : Value}, vs[i]? = some v → ∃ k, okLeaf k v := by
  induction ks generalizing vs with
  | nil => simp only [okCells] at h; subst h; simp
  | cons k ks ih =>
    simp only [okCells] at h
    obtain ⟨u, r, rfl, h1, h2⟩ := h
    intro i v hi
    cases i with
    | zero => simp only [List.getElem?_cons_zero, Option.some.injEq] at hi; subst hi; exact ⟨k, h1⟩
    | succ i => exact ih h2 (by simpa using hi)
section
variable {H : Type} {enc : TypeId × Value → H} {P : Program} {W : World} {base : Nat} {spare : Nat → Bool} {held : Bool} {h : GH} {φ : Nat → Value}
theorem slice_in {t e : TypeId} {ks : List LK} {n : Nat} (ht : P.underlying t = some (.slice e)) (hs : shapeT P n e = some ks) (hk : ks.length = P.cellsOf e) (hk0 : 0 < ks.length) {A : Option Addr} {l0 c0 : Nat} {d : DataW H} {ps : List MemPlace}
    (hd : DataW.Trod enc P W base spare held t (.slice A l0 c0) d ps) :
    ∃ es : List (List Value), (∀ x ∈ es, okCells ks x) ∧ es.length ≤ maxLen ∧ Rp (allG W) φ 0 (.ls ks.length (es.map fun x => x.map .v)) (.slice A l0 c0) := by
  obtain ⟨fuel, hd⟩ := hd
  rcases open_slice ht hd with ⟨h1, _⟩ | ⟨a, len, cap, m, n', D, Pl, h1, _, h3, h4, hm, _, hel⟩
  · obtain ⟨rfl, rfl, rfl⟩ : A = none ∧ l0 = 0 ∧ c0 = 0 := by simpa [Value.cells] using h1
    refine ⟨[], by simp, by simp, ?_⟩
    simp only [Rp, RpD, List.map_nil, List.length_nil]
    exact ⟨none, 0, rfl, Nat.le_refl _, Nat.zero_le _, by simp⟩
  · obtain ⟨rfl, rfl, rfl⟩ : A = some a ∧ l0 = len ∧ c0 = cap := by simpa [Value.cells] using h1
    have hlm : l0 ≤ m := by rw [hm]; split <;> omega
    have hex : ∀ i, ∃ c' : List Value, i < l0 → (W.cells? base (a.add (i * P.cellsOf e)) (P.cellsOf e) = some c' ∧ okCells ks c') := by
      intro i
      by_cases hi : i < l0
      · obtain ⟨c', hc1, hc2⟩ := hel i (by omega)
        exact ⟨c', fun _ => ⟨hc1, shapeT_ok hs hk hc2⟩⟩
      · exact ⟨[], fun hh => absurd hh hi⟩
    refine ⟨(List.range l0).map fun i => (hex i).choose, ?_, by simpa using Nat.le_trans h3 h4, ?_⟩
    · intro x hx
      obtain ⟨i, hi, rfl⟩ := List.mem_map.1 hx
      exact ((hex i).choose_spec (List.mem_range.1 hi)).2
    · simp only [Rp, RpD, List.length_map, List.length_range]
      refine ⟨some a, c0, rfl, h3, h4, ?_⟩
      rcases Nat.eq_zero_or_pos l0 with h0 | h0
      · exact .inl (by subst h0; rfl)
      · refine .inr ?_
        have hsp : a.spot = none := by
          obtain ⟨c', c1, _⟩ := hel 0 (by omega)
          obtain ⟨_, e2, e3⟩ := World.cells?_some c1
          have e4 := e3 0 (by omega)
          rw [List.getElem?_eq_getElem (by rw [e2]; omega), Nat.zero_mul] at e4
          have : (a.add 0).add 0 = a := by simp [Addr.add]
          rw [this] at e4
          unfold World.cell? at e4
          split at e4
          · split at e4
            · simp at e4
            · rename_i hs; simpa using hs
          · simp at e4
        obtain ⟨b, o, sp⟩ := a
        simp only at hsp
        subst hsp
        refine ⟨b, o, rfl, RpDE.mk fun j e' hj => ?_⟩
        rw [List.getElem?_map, List.getElem?_map] at hj
        rcases Nat.lt_or_ge j l0 with hjl | hjl
        · rw [List.getElem?_range hjl] at hj
          simp only [Option.map_some, Option.some.injEq] at hj
          subst hj
          obtain ⟨c1, c2⟩ := (hex j).choose_spec hjl
          obtain ⟨_, e2, e3⟩ := World.cells?_some c1
          refine ⟨by rw [List.length_map, e2, hk], RpDC.mk fun i c hc => ?_⟩
          rw [List.getElem?_map] at hc
          cases hv : (hex j).choose[i]? with
          | none => rw [hv] at hc; simp at hc
          | some u =>
            rw [hv] at hc
            simp only [Option.map_some, Option.some.injEq] at hc
            subst hc
            obtain ⟨k, hk'⟩ := okCells_get c2 hv
            have hi : i < P.cellsOf e := by
              rw [← e2]
              rcases Nat.lt_or_ge i (hex j).choose.length with hh | hh
              · exact hh
              · rw [List.getElem?_eq_none hh] at hv; simp at hv
            have e4 := e3 i hi
            rw [hv] at e4
            refine ⟨u, leaf_closed hk', ?_, by simp [RpD]⟩
            have : ((Addr.mk b o none).add (j * P.cellsOf e)).add i = ⟨b, o + j * ks.length + i, none⟩ := by
              rw [hk]
              by_cases h1 : j * P.cellsOf e = 0 <;> by_cases h2 : i = 0 <;> simp [Addr.add, h1, h2, Nat.add_assoc]
            rw [this] at e4
            exact allG_cell e4
        · rw [List.getElem?_eq_none (by simpa using hjl)] at hj; simp at hj
theorem wf_i64 {n : Int} (hw : (Lit.int .i64 n).wf = true) : -9223372036854775808 ≤ n ∧ n ≤ 9223372036854775807 := by
  simp only [Lit.wf, Bool.and_eq_true, decide_eq_true_eq] at hw
  exact hw
theorem ints_of : ∀ {es : List (List Value)}, (∀ x ∈ es, okCells [.int .i64] x) → ∃ l : List Int, es.map (fun x => x.map AV.v) = l.map (fun n => [AV.v (.int .i64 n)]) ∧ ∀ n ∈ l, -9223372036854775808 ≤ n ∧ n ≤ 9223372036854775807
  | [], _ => ⟨[], rfl, by simp⟩
  | e :: es, he => by
    obtain ⟨l, h1, h2⟩ := ints_of (es := es) fun x hx => he x (by simp [hx])
    have := he e (by simp)
    simp only [okCells, okLeaf] at this
    obtain ⟨v, r, rfl, ⟨n, rfl, hw⟩, rfl⟩ := this
    refine ⟨n :: l, by simp [h1], ?_⟩
    intro m hm
    rcases List.mem_cons.1 hm with rfl | hm
    · exact wf_i64 hw
    · exact h2 m hm
theorem all_stays {W' : World} (hl : laidOutB P = true) (hb : Below W.heap.size W W') {sp : Nat → Bool} : ∀ {ts : List TypeId} {vs : List Value} {ds : List (DataW H)} {ps : List MemPlace}, (∀ t ∈ ts, P.readableRec t = true ∧ t < P.types.size) →
    DataW.TrodAll enc P W 0 (fun _ => true) true ts vs ds ps → (∀ x ∈ ps, x.block < W.heap.size) → (∀ x ∈ ps, sp x.block = true) → DataW.TrodAll enc P W' 0 sp true ts vs ds ps
  | [], [], [], ps, _, h, _, _ => by simpa [DataW.TrodAll] using h
  | t :: ts, v :: vs, d :: ds, ps, ht, h, hlt, hs => by
    simp only [DataW.TrodAll] at h ⊢
    obtain ⟨p, q, h1, h2, rfl⟩ := h
    obtain ⟨r1, r2⟩ := ht t (by simp)
    exact ⟨p, q, WideElems.Trod_stays hl r1 r2 h1 (fun x hx => hb.same (hlt x (by simp [hx]))) (fun x hx => hs x (by simp [hx])),
      all_stays hl hb (fun t ht' => ht t (by simp [ht'])) h2 (fun x hx => hlt x (by simp [hx])) (fun x hx => hs x (by simp [hx])), rfl⟩
  | [], _ :: _, _, _, _, h, _, _ => by simp [DataW.TrodAll] at h
  | [], [], _ :: _, _, _, h, _, _ => by simp [DataW.TrodAll] at h
  | _ :: _, [], _, _, _, h, _, _ => by simp [DataW.TrodAll] at h
  | _ :: _, _ :: _, [], _, _, h, _, _ => by simp [DataW.TrodAll] at h
theorem evo_below {h' : GH} {φ' : Nat → Value} {T' : Tab} {W' : World} (hE : Evo h φ [] W h' φ' T' W') : Go.RowKit.Below W.heap.size W W' :=
  ⟨hE.os, hE.tape, hE.output, hE.size, fun k hk => hE.frame k hk fun i o e => by simp at e⟩
theorem law_post {f : FuncId} {fn : Func} {s : ChangeSpec} {apart fresh handsOn : Bool} {args : Array Value} {avs : List AV} {ds gs : List (DataW H)} {before : List MemPlace} {tb : TypeId}
    (hl : laidOutB P = true) (hW : DataW.Whole enc P fn.params.toList s.vars apart W args.toList ds gs before) (hv : s.vars = []) (hsp : s.fn H ds = { results := [.lit (.bool true)], args := ds })
    (hread : ∀ t ∈ fn.params.toList, P.readableRec t = true ∧ t < P.types.size) (hr : fn.resultTypes = #[tb]) (hb : P.underlying tb = some .bool)
    (ent : (callFunc f args).run P W = .ok (.enter f args) W) (hc : CallOk P (fun _ => none) f avs [] fun r T => r = .v (.bool true) ∧ T = []) (ha : RpL (allG W) φ 0 avs args.toList) :
    Calls P f args W fun e W' => ∃ v, e = .returned v ∧ s.post enc P fn apart fresh handsOn false W args v W' := by
  rcases hc (allG W) φ W args (fun g cs e => by simp at e) (allG_inv W φ) ha with ⟨_, hc⟩ | ⟨v, w', hc, _⟩
  · refine hc.mono ?_
    rintro e W' ⟨v, rfl, r, T', h', φ', ⟨rfl, rfl⟩, hE, _, hrv⟩
    simp only [Rp] at hrv
    subst hrv
    refine ⟨_, rfl, ?_⟩
    have hbe := evo_below hE
    have hW0 := hW
    obtain ⟨p, q, hA, hV, rfl, hz, hn⟩ := hW
    rw [hv] at hV
    obtain ⟨rfl, rfl⟩ := trodVars_none hV
    rw [List.append_nil] at hz hn
    have hlt : ∀ x ∈ p, x.block < W.heap.size := fun x hx => hW0.lt x (by simp [hx])
    have hres : ∀ (b : Nat) (sp : Nat → Bool) (hd : Bool), DataW.TrodAll enc P W' b sp hd fn.resultTypes.toList ((Value.bool true).resultList fn.resultTypes.size) [.lit (.bool true)] [] := by
      intro b sp hd
      rw [hr]
      exact trodAll_mk1 (shut_bool hb true)
    have hfn : s.fn H (ds ++ []) = { results := [.lit (.bool true)], args := ds } := by rw [List.append_nil]; exact hsp
    refine ⟨ds, [], p ++ [], [], p, [], hW0, ?_, ?_, ?_, ?_, fun _ => ?_⟩
    · rw [hfn]; exact hres _ _ _
    · rw [hfn]; exact all_stays hl hbe hread hA hlt fun x hx => by simpa using hlt x hx
    · rw [hfn]; simpa [hv, DataW.TrodVars] using hV
    · exact World.keptBut_mono (fun x hx => hx.elim) (hbe.frame fun _ => False)
    · rename_i hh; simp at hh
  · rw [ent] at hc; simp at hc
end
end Hud
end
