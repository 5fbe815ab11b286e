import Derived.Test.YtialbdgcgiaebaaGreatLib09
set_option linter.all false
section
namespace Hud
theorem all_fq (n : Nat) : ∃ l : List (Fin n), l.Nodup ∧ l.length = n ∧ ∀ x, x ∈ l := ⟨List.finRange n, List.nodup_finRange n, List.length_finRange, fun x => List.mem_finRange x⟩
theorem zp_of_all {l : List Fq} (hl : l.length ≤ PP) (h : ∀ t, ev l t = 0) : zp l := by
  obtain ⟨R, h1, h2, _⟩ := all_fq PP
  exact zp_of_roots (by omega) h1 fun z _ => h z
theorem list_of_ev {p q : List Fq} (hl : p.length = q.length) (hp : p.length ≤ PP) (h : ∀ t, ev p t = ev q t) : p = q := by
  have hz : ∀ (p q : List Fq), p.length = q.length → zp (pa p (ps (-1) q)) → p = q := by
    intro p
    induction p with
    | nil => intro q hl _; exact (List.eq_nil_of_length_eq_zero hl.symm).symm
    | cons c p ih =>
      intro q hl hz
      cases q with
      | nil => simp at hl
      | cons d q =>
        have h1 := hz (c + -1 * d) (by simp [ps, pa])
        have h2 := ih q (by simpa using hl) fun x hx => hz x (by simp only [ps, List.map_cons, pa]; exact List.mem_cons_of_mem _ hx)
        have : c = d := by grind
        rw [this, h2]
  refine hz p q hl (zp_of_all (by rw [pa_len]; simp only [ps, List.length_map]; omega) fun t => ?_)
  rw [pa_ev, ps_ev, h t]
  grind
def trimL (l : List Fq) : List Fq := (l.reverse.dropWhile (· == 0)).reverse
theorem trimL_snoc (l : List Fq) (c : Fq) : trimL (l ++ [c]) = if c = 0 then trimL l else l ++ [c] := by
  unfold trimL
  rw [List.reverse_append, List.reverse_singleton, List.singleton_append, List.dropWhile_cons]
  by_cases h : c = 0
  · simp [h]
  · simp [h]
theorem trimL_nil : trimL [] = [] := rfl
theorem ev_snoc (t c : Fq) : ∀ l : List Fq, ev (l ++ [c]) t = ev l t + c * t ^ l.length
  | [] => by
    have : t ^ 0 = 1 := by grind
    simp only [List.nil_append, ev, List.length_nil, this, f_mz, f_az, f_za]
    grind
  | d :: l => by
    have := ev_snoc t c l
    simp only [List.cons_append, ev, this, List.length_cons]
    generalize l.length = n
    generalize ev l t = e
    grind
theorem snoc_ind {p : List Fq → Prop} (h0 : p []) (hs : ∀ l c, p l → p (l ++ [c])) : ∀ l, p l := by
  intro l
  rw [← List.reverse_reverse l]
  induction l.reverse with
  | nil => exact h0
  | cons c r ih => rw [List.reverse_cons]; exact hs _ _ ih
theorem trimL_ev (t : Fq) : ∀ l, ev (trimL l) t = ev l t := by
  refine snoc_ind rfl fun l c ih => ?_
  rw [trimL_snoc]
  split
  · rename_i h
    subst h
    rw [ih, ev_snoc, f_zm, f_az]
  · rfl
theorem trimL_len : ∀ l, (trimL l).length ≤ l.length := by
  refine snoc_ind (Nat.le_refl _) fun l c ih => ?_
  rw [trimL_snoc]
  split
  · simp; omega
  · exact Nat.le_refl _
def tr (l : List Fq) : Prop := l = [] ∨ ∃ f c, l = f ++ [c] ∧ c ≠ 0
theorem trimL_tr : ∀ l, tr (trimL l) := by
  refine snoc_ind (.inl rfl) fun l c ih => ?_
  rw [trimL_snoc]
  split
  · exact ih
  · rename_i h; exact .inr ⟨l, c, rfl, h⟩
theorem trimL_id {l : List Fq} (h : tr l) : trimL l = l := by
  rcases h with rfl | ⟨f, c, rfl, hc⟩
  · rfl
  · rw [trimL_snoc, if_neg hc]
theorem trimL_prefix : ∀ l, ∃ k, l = trimL l ++ List.replicate k 0 := by
  refine snoc_ind ⟨0, rfl⟩ fun l c ih => ?_
  rw [trimL_snoc]
  split
  · rename_i h
    subst h
    obtain ⟨k, hk⟩ := ih
    exact ⟨k + 1, by rw [List.replicate_succ', ← List.append_assoc, ← hk]⟩
  · exact ⟨0, by simp⟩
theorem trimL_nil_iff {l : List Fq} : trimL l = [] ↔ zp l := by
  constructor
  · intro h c hc
    obtain ⟨k, hk⟩ := trimL_prefix l
    rw [h, List.nil_append] at hk
    rw [hk] at hc
    exact List.eq_of_mem_replicate hc
  · intro h
    rcases trimL_tr l with h1 | ⟨f, c, h1, hc⟩
    · exact h1
    · obtain ⟨k, hk⟩ := trimL_prefix l
      exact absurd (h c (by rw [hk, h1]; simp)) hc
theorem mon_tr {d : Nat} {l : List Fq} (h : mon d l) : tr l := by
  obtain ⟨f, rfl, _⟩ := h
  exact .inr ⟨f, 1, rfl, fq10⟩
theorem short_zero {m : Nat} {g k R : List Fq} (hg : mon m g) (hR : R.length ≤ m) (hk : k.length + m + 1 ≤ PP) (h : ∀ t, ev R t = ev k t * ev g t) : zp k ∧ zp R := by
  have hzk : zp k := by
    refine Classical.byContradiction fun hz => ?_
    have h1 : trimL k ≠ [] := fun e => hz (trimL_nil_iff.1 e)
    rcases trimL_tr k with h2 | ⟨f, c, h2, hc⟩
    · exact h1 h2
    · obtain ⟨v, hv⟩ : ∃ v, c * v = 1 := ⟨inv c, inv_mul hc⟩
      have hm : mon f.length (ps v (trimL k)) := by
        refine ⟨ps v f, ?_, by simp [ps]⟩
        rw [h2]
        simp only [ps, List.map_append, List.map_cons, List.map_nil]
        have : v * c = 1 := by rw [← hv]; grind
        rw [this]
      have hp := pm_mon hg hm
      have hq := pa_mon (q := ps (-v) R) hp (by simp only [ps, List.length_map]; omega)
      have hfl : f.length + 1 ≤ k.length := by
        have := trimL_len k
        rw [h2] at this
        simpa using this
      refine mon_nz hq (zp_of_all (by rw [mon_len hq]; omega) fun t => ?_)
      rw [pa_ev, pm_ev, ps_ev, ps_ev, trimL_ev, h t]
      generalize ev k t = x
      generalize ev g t = y
      grind
  refine ⟨hzk, zp_of_all (by have := mon_len hg; omega) fun t => ?_⟩
  rw [h t, ev_zp hzk, f_zm]
theorem getD_set (l : List Fq) (i j : Nat) (v : Fq) (h : i < l.length) : (l.set i v).getD j 0 = if i = j then v else l.getD j 0 := by
  rw [List.getD_eq_getElem?_getD, List.getElem?_set]
  by_cases hij : i = j
  · subst hij; simp [h]
  · simp [hij]
theorem ev_set (t v : Fq) : ∀ (l : List Fq) (i : Nat), i < l.length → ev (l.set i v) t = ev l t + (v - l.getD i 0) * t ^ i
  | [], i, h => by simp at h
  | c :: l, 0, _ => by
    have : t ^ 0 = 1 := by grind
    simp only [List.set_cons_zero, ev, List.getD_cons_zero, this]
    generalize ev l t = e
    grind
  | c :: l, i + 1, h => by
    have := ev_set t v l i (by simpa using h)
    simp only [List.set_cons_succ, ev, List.getD_cons_succ, this]
    generalize ev l t = e
    generalize l.getD i 0 = x
    grind
def rowSub (c : Fq) : List Fq → Nat → List Fq → List Fq
  | [], _, a => a
  | x :: b, k, a => rowSub c b (k + 1) (a.set k (a.getD k 0 - c * x))
theorem rowSub_len (c : Fq) : ∀ (b : List Fq) (k : Nat) (a : List Fq), (rowSub c b k a).length = a.length
  | [], _, _ => rfl
  | x :: b, k, a => by rw [rowSub, rowSub_len c b, List.length_set]
theorem rowSub_ev (c t : Fq) : ∀ (b : List Fq) (k : Nat) (a : List Fq), k + b.length ≤ a.length → ev (rowSub c b k a) t = ev a t - c * t ^ k * ev b t
  | [], k, a, _ => by
    simp only [rowSub, ev, f_mz]
    generalize ev a t = x
    grind
  | x :: b, k, a, h => by
    have hk : k < a.length := by simp only [List.length_cons] at h; omega
    rw [rowSub, rowSub_ev c t b (k + 1) _ (by rw [List.length_set]; simp only [List.length_cons] at h; omega), ev_set t _ a k hk]
    simp only [ev]
    generalize ev a t = y
    generalize ev b t = z
    generalize a.getD k 0 = w
    grind
theorem rowSub_get (c : Fq) : ∀ (b : List Fq) (k : Nat) (a : List Fq) (j : Nat), k + b.length ≤ a.length → (rowSub c b k a).getD j 0 = if k ≤ j ∧ j < k + b.length then a.getD j 0 - c * b.getD (j - k) 0 else a.getD j 0
  | [], k, a, j, _ => by
    rw [rowSub, if_neg (by simp only [List.length_nil]; omega)]
  | x :: b, k, a, j, h => by
    have hk : k < a.length := by simp only [List.length_cons] at h; omega
    rw [rowSub, rowSub_get c b (k + 1) _ j (by rw [List.length_set]; simp only [List.length_cons] at h; omega), getD_set _ _ _ _ hk]
    simp only [List.length_cons]
    by_cases h1 : k = j
    · subst h1
      rw [if_neg (by omega), if_pos rfl, if_pos (by omega)]
      simp
    · rw [if_neg h1]
      by_cases h2 : k + 1 ≤ j ∧ j < k + 1 + b.length
      · rw [if_pos h2, if_pos (by omega)]
        rw [show j - k = (j - (k + 1)) + 1 by omega, List.getD_cons_succ]
      · rw [if_neg h2, if_neg (by omega)]
def dmLoop (b : List Fq) (v : Fq) : Nat → List Fq × List Fq → List Fq × List Fq
  | 0, s => s
  | k + 1, (q, a) => dmLoop b v k (q.set k (a.getD (k + b.length - 1) 0 * v), rowSub (a.getD (k + b.length - 1) 0 * v) b k a)
theorem dmLoop_ok {b f : List Fq} {c : Fq} (hb : b = f ++ [c]) {v : Fq} (hv : c * v = 1) : ∀ (k : Nat) (q a : List Fq), k ≤ q.length → q.length + b.length ≤ a.length + 1 → (∀ j, k + b.length - 1 ≤ j → a.getD j 0 = 0) → (∀ j, j < k → q.getD j 0 = 0) →
    (dmLoop b v k (q, a)).1.length = q.length ∧ (dmLoop b v k (q, a)).2.length = a.length ∧ (∀ j, b.length - 1 ≤ j → (dmLoop b v k (q, a)).2.getD j 0 = 0) ∧
    (∀ t, ev (dmLoop b v k (q, a)).1 t * ev b t + ev (dmLoop b v k (q, a)).2 t = ev q t * ev b t + ev a t) ∧ (∀ j, k ≤ j → (dmLoop b v k (q, a)).1.getD j 0 = q.getD j 0)
  | 0, q, a, _, _, ha, _ => ⟨rfl, rfl, fun j hj => ha j (by omega), fun t => rfl, fun j _ => rfl⟩
  | k + 1, q, a, hk, hl, ha, hq => by
    have hbl : b.length = f.length + 1 := by rw [hb]; simp
    have hblast : b.getD (b.length - 1) 0 = c := by rw [hb]; simp
    simp only [dmLoop]
    generalize hd : a.getD (k + b.length - 1) 0 * v = d
    have hrow := rowSub_get d b k a
    obtain ⟨h1, h2, h3, h4, h5⟩ := dmLoop_ok hb hv k (q.set k d) (rowSub d b k a) (by rw [List.length_set]; omega) (by rw [List.length_set, rowSub_len]; exact hl) (fun j hj => by
      rw [hrow j (by omega)]
      by_cases hjk : j = k + b.length - 1
      · rw [if_pos (by omega), show j - k = b.length - 1 by omega, hblast, ← hd, hjk]
        generalize a.getD (k + b.length - 1) 0 = x
        grind
      · rw [if_neg (by omega)]
        exact ha j (by omega)) (fun j hj => by rw [getD_set _ _ _ _ (by omega), if_neg (by omega)]; exact hq j (by omega))
    refine ⟨by rw [h1, List.length_set], by rw [h2, rowSub_len], h3, fun t => ?_, fun j hj => ?_⟩
    · rw [h4 t, ev_set t d q k (by omega), rowSub_ev d t b k a (by omega), hq k (by omega)]
      generalize ev q t = x
      generalize ev b t = y
      generalize ev a t = z
      grind
    · rw [h5 j (by omega), getD_set _ _ _ _ (by omega), if_neg (by omega)]
def dm (a b : List Fq) : List Fq × List Fq :=
  if trimL b = [] then ([], []) else if (trimL a).length < (trimL b).length then ([], trimL a) else
    let s := dmLoop (trimL b) (inv ((trimL b).getD ((trimL b).length - 1) 0)) ((trimL a).length - (trimL b).length + 1) (List.replicate ((trimL a).length - (trimL b).length + 1) 0, trimL a)
    (trimL s.1, trimL s.2)
theorem trimL_short {l : List Fq} {m : Nat} (h : ∀ j, m ≤ j → l.getD j 0 = 0) : (trimL l).length ≤ m := by
  rcases trimL_tr l with h1 | ⟨f, c, h1, hc⟩
  · rw [h1]; simp
  · obtain ⟨k, hk⟩ := trimL_prefix l
    rcases Nat.lt_or_ge m (trimL l).length with h2 | h2
    · have := h ((trimL l).length - 1) (by omega)
      rw [h1] at this h2 hk
      rw [hk] at this
      simp at this
      exact absurd this hc
    · exact h2
theorem dm_ok {a b : List Fq} (hb : ¬ zp b) : (∀ t, ev a t = ev (dm a b).1 t * ev b t + ev (dm a b).2 t) ∧ (dm a b).2.length < (trimL b).length ∧ tr (dm a b).1 ∧ tr (dm a b).2 ∧
    ((dm a b).1 = [] ∨ (dm a b).1.length + (trimL b).length ≤ (trimL a).length + 1) ∧ (dm a b).2.length ≤ (trimL a).length := by
  have h0 : trimL b ≠ [] := fun h => hb (trimL_nil_iff.1 h)
  have hpos : 0 < (trimL b).length := List.length_pos_iff.2 h0
  unfold dm
  rw [if_neg h0]
  by_cases h1 : (trimL a).length < (trimL b).length
  · rw [if_pos h1]
    refine ⟨fun t => ?_, h1, .inl rfl, trimL_tr a, .inl rfl, Nat.le_refl _⟩
    simp only [ev, trimL_ev, f_zm, f_za]
  · rw [if_neg h1]
    simp only
    rcases trimL_tr b with h2 | ⟨f, c, h2, hc⟩
    · exact absurd h2 h0
    · have hlast : (trimL b).getD ((trimL b).length - 1) 0 = c := by rw [h2]; simp
      rw [hlast]
      have hv := inv_mul hc
      revert hv
      generalize inv c = v
      intro hv
      have hz : ∀ j, (List.replicate ((trimL a).length - (trimL b).length + 1) (0 : Fq)).getD j 0 = 0 := fun j => by simp [List.getD_eq_getElem?_getD, List.getElem?_replicate]; split <;> rfl
      have hk := dmLoop_ok h2 hv ((trimL a).length - (trimL b).length + 1) (List.replicate ((trimL a).length - (trimL b).length + 1) 0) (trimL a) (by simp) (by simp; omega)
        (fun j hj => by rw [List.getD_eq_getElem?_getD, List.getElem?_eq_none (by omega)]; rfl) (fun j _ => hz j)
      revert hk
      generalize dmLoop (trimL b) v ((trimL a).length - (trimL b).length + 1) (List.replicate ((trimL a).length - (trimL b).length + 1) 0, trimL a) = s
      rintro ⟨k1, k2, k3, k4, _⟩
      rw [List.length_replicate] at k1
      have t1 := trimL_len s.1
      have t2 := trimL_len s.2
      refine ⟨fun t => ?_, ?_, trimL_tr _, trimL_tr _, .inr (by omega), by omega⟩
      · have := k4 t
        rw [ev_zp (l := List.replicate _ 0) (fun c hc => List.eq_of_mem_replicate hc), f_zm, f_za, trimL_ev, trimL_ev] at this
        rw [trimL_ev, trimL_ev, this]
      · have := trimL_short k3
        omega
end Hud
end
section
namespace Hud
theorem ev_zeros (t : Fq) (l : List Fq) : ∀ k, ev (l ++ List.replicate k 0) t = ev l t
  | 0 => by simp
  | k + 1 => by
    rw [List.replicate_succ', ← List.append_assoc, ev_snoc, ev_zeros t l k, f_zm, f_az]
theorem trimL_zeros {l : List Fq} (h : tr l) : ∀ k, trimL (l ++ List.replicate k 0) = l
  | 0 => by simpa using trimL_id h
  | k + 1 => by
    rw [List.replicate_succ', ← List.append_assoc, trimL_snoc, if_pos rfl, trimL_zeros h k]
theorem tr_ext {p q : List Fq} (hp : tr p) (hq : tr q) (h1 : p.length ≤ PP) (h2 : q.length ≤ PP) (h : ∀ t, ev p t = ev q t) : p = q := by
  have := list_of_ev (p := p ++ List.replicate (max p.length q.length - p.length) 0) (q := q ++ List.replicate (max p.length q.length - q.length) 0) (by simp; omega) (by simp; omega) fun t => by rw [ev_zeros, ev_zeros, h t]
  rw [← trimL_zeros hp (max p.length q.length - p.length), this, trimL_zeros hq]
theorem tr_zp {l : List Fq} (h : tr l) (hz : zp l) : l = [] := by
  rw [← trimL_id h]; exact trimL_nil_iff.2 hz
theorem dm_exact {m : Nat} {a g h : List Fq} (hg : mon m g) (ha : ¬ zp a) (hl : h.length + a.length + m + 2 ≤ PP) (hh : ∀ t, ev a t = ev h t * ev g t) :
    (dm a g).2 = [] ∧ (∀ t, ev a t = ev (dm a g).1 t * ev g t) ∧ (dm a g).1.length + m = (trimL a).length ∧ (∀ n, mon n a → mon (n - m) (dm a g).1 ∧ m ≤ n) := by
  obtain ⟨d1, d2, d3, d4, d5, d6⟩ := dm_ok (a := a) (b := g) (mon_nz hg)
  rw [trimL_id (mon_tr hg), mon_len hg] at d2 d5
  have tl := trimL_len a
  revert d1 d2 d3 d4 d5
  generalize (dm a g).1 = Q
  generalize (dm a g).2 = R
  intro d1 d2 d3 d4 d5
  have hQl : Q.length ≤ a.length + 1 := by
    rcases d5 with rfl | h
    · simp
    · omega
  have hz := short_zero (k := pa h (ps (-1) Q)) (R := R) hg (by omega) (by rw [pa_len]; simp only [ps, List.length_map]; omega) fun t => by
    have h1 := d1 t
    rw [hh t] at h1
    rw [pa_ev, ps_ev]
    generalize ev h t = x at *
    generalize ev g t = y at *
    generalize ev Q t = z at *
    generalize ev R t = w at *
    grind
  have hR := tr_zp d4 hz.2
  subst hR
  have d1' : ∀ t, ev a t = ev Q t * ev g t := fun t => by have := d1 t; simp only [ev, f_az] at this; exact this
  refine ⟨rfl, d1', ?_⟩
  rcases d3 with rfl | ⟨f, c, rfl, hc⟩
  · exact absurd (zp_of_all (by omega) fun t => by rw [d1' t]; simp only [ev, f_zm]) ha
  · obtain ⟨v, hv⟩ : ∃ v, c * v = 1 := ⟨inv c, inv_mul hc⟩
    have hm : mon f.length (ps v (f ++ [c])) := by
      refine ⟨ps v f, ?_, by simp [ps]⟩
      simp only [ps, List.map_append, List.map_cons, List.map_nil]
      have : v * c = 1 := by rw [← hv]; grind
      rw [this]
    obtain ⟨F, hF, hFl⟩ := pm_mon hg hm
    have he : trimL a = ps c F ++ [c] := by
      refine tr_ext (trimL_tr a) (.inr ⟨_, _, rfl, hc⟩) (by omega) (by simp [ps, hFl]; simp at hQl; omega) fun t => ?_
      have : ps c F ++ [c] = ps c (F ++ [1]) := by
        simp only [ps, List.map_append, List.map_cons, List.map_nil]
        have : c * 1 = c := by grind
        rw [this]
      rw [this, ← hF, ps_ev, pm_ev, ps_ev, trimL_ev, d1' t]
      generalize ev (f ++ [c]) t = x
      generalize ev g t = y
      grind
    refine ⟨by rw [he]; simp [ps, hFl]; omega, fun n hn => ?_⟩
    have hal := mon_len hn
    rw [trimL_id (mon_tr hn)] at he
    obtain ⟨fa, hfa, hfl⟩ := hn
    rw [hfa] at he
    have hc1 := (List.append_inj' he rfl).2
    have hlen := congrArg List.length he
    simp [ps, hFl, hfl] at hlen
    simp only [List.cons.injEq, and_true] at hc1
    subst hc1
    exact ⟨⟨f, rfl, by omega⟩, by omega⟩
def gcdLoop : Nat → List Fq → List Fq → List Fq
  | 0, a, _ => a
  | n + 1, a, b => if b = [] then a else gcdLoop n b (dm a b).2
def lastF (a : List Fq) : Fq := a.getD (a.length - 1) 0
def monL (a : List Fq) : List Fq := if a = [] then [] else ps (inv (lastF a)) a
def gcdL (a b : List Fq) : List Fq := monL (gcdLoop ((trimL b).length + 1) (trimL a) (trimL b))
theorem gcdLoop_ok (L : Nat) : ∀ (n : Nat) (a b : List Fq), tr a → tr b → a.length ≤ L → b.length ≤ L → b.length < n →
    tr (gcdLoop n a b) ∧ (gcdLoop n a b).length ≤ L ∧ (gcdLoop n a b = [] → a = [] ∧ b = []) ∧
    (∃ u v, u.length ≤ n * (L + 1) + 1 ∧ v.length ≤ n * (L + 1) + 1 ∧ ∀ t, ev (gcdLoop n a b) t = ev u t * ev a t + ev v t * ev b t) ∧
    (∃ h, h.length ≤ n * (L + 1) + 1 ∧ ∀ t, ev a t = ev h t * ev (gcdLoop n a b) t) ∧ (∃ h, h.length ≤ n * (L + 1) + 1 ∧ ∀ t, ev b t = ev h t * ev (gcdLoop n a b) t)
  | 0, a, b, _, _, _, _, h => by omega
  | n + 1, a, b, ha, hb, hla, hlb, hn => by
    have one : ∀ t : Fq, ev [1] t = 1 := fun t => by simp only [ev, f_mz, f_az]
    simp only [gcdLoop]
    by_cases h0 : b = []
    · subst h0
      rw [if_pos rfl]
      refine ⟨ha, hla, fun h => ⟨h, rfl⟩, ⟨[1], [], by simp, by simp, fun t => ?_⟩, ⟨[1], by simp, fun t => ?_⟩, ⟨[], by simp, fun t => ?_⟩⟩
      · rw [one]; simp only [ev]; generalize ev a t = x; grind
      · rw [one]; generalize ev a t = x; grind
      · simp only [ev, f_zm]
    · rw [if_neg h0]
      have hz : ¬ zp b := fun h => h0 (tr_zp hb h)
      obtain ⟨d1, d2, d3, d4, d5, d6⟩ := dm_ok (a := a) (b := b) hz
      rw [trimL_id hb] at d2 d5
      rw [trimL_id ha] at d5 d6
      revert d1 d2 d3 d4 d5 d6
      generalize (dm a b).1 = Q
      generalize (dm a b).2 = R
      intro d1 d2 d3 d4 d5 d6
      have hQ : Q.length ≤ L + 1 := by
        rcases d5 with rfl | h
        · simp
        · omega
      obtain ⟨g1, g2, g3, ⟨u, v, g4, g5, g6⟩, ⟨x, g7, g8⟩, ⟨y, g9, g10⟩⟩ := gcdLoop_ok L n b R hb d4 hlb (by omega) (by omega)
      revert g1 g2 g3 g6 g8 g10
      generalize gcdLoop n b R = g
      intro g1 g2 g3 g6 g8 g10
      rw [Nat.succ_mul]
      refine ⟨g1, g2, fun h => absurd (g3 h).1 h0, ⟨v, pa u (ps (-1) (pm v Q)), by omega, ?_, fun t => ?_⟩, ⟨pa (pm Q x) y, ?_, fun t => ?_⟩, ⟨x, by omega, g8⟩⟩
      · have := pm_len Q v
        rw [pa_len]; simp only [ps, List.length_map]; omega
      · rw [g6 t, pa_ev, ps_ev, pm_ev]
        have := d1 t
        generalize ev a t = p0 at *
        generalize ev b t = p1 at *
        generalize ev u t = p2 at *
        generalize ev v t = p3 at *
        generalize ev Q t = p4 at *
        generalize ev R t = p5 at *
        grind
      · have := pm_len x Q
        rw [pa_len]; omega
      · rw [pa_ev, pm_ev, d1 t]
        have e1 := g8 t
        have e2 := g10 t
        generalize ev b t = p1 at *
        generalize ev x t = p2 at *
        generalize ev y t = p3 at *
        generalize ev Q t = p4 at *
        generalize ev R t = p5 at *
        generalize ev g t = p6 at *
        grind
theorem gcd_ok {L : Nat} {a b : List Fq} (ha : a.length ≤ L) (hb : b.length ≤ L) (hz : ¬ (zp a ∧ zp b)) :
    ∃ m, mon m (gcdL a b) ∧ m + 1 ≤ L ∧ (∃ u v, u.length ≤ (L + 1) * (L + 1) + 1 ∧ v.length ≤ (L + 1) * (L + 1) + 1 ∧ ∀ t, ev (gcdL a b) t = ev u t * ev a t + ev v t * ev b t) ∧
    (∃ h, h.length ≤ (L + 1) * (L + 1) + 1 ∧ ∀ t, ev a t = ev h t * ev (gcdL a b) t) ∧ (∃ h, h.length ≤ (L + 1) * (L + 1) + 1 ∧ ∀ t, ev b t = ev h t * ev (gcdL a b) t) := by
  have ta := trimL_len a
  have tb := trimL_len b
  obtain ⟨g1, g2, g3, ⟨u, v, g4, g5, g6⟩, ⟨x, g7, g8⟩, ⟨y, g9, g10⟩⟩ := gcdLoop_ok L ((trimL b).length + 1) (trimL a) (trimL b) (trimL_tr a) (trimL_tr b) (by omega) (by omega) (by omega)
  have hB : ((trimL b).length + 1) * (L + 1) + 1 ≤ (L + 1) * (L + 1) + 1 := by
    have := Nat.mul_le_mul_right (L + 1) (show (trimL b).length + 1 ≤ L + 1 by omega)
    omega
  unfold gcdL
  revert g1 g2 g3 g6 g8 g10
  generalize gcdLoop ((trimL b).length + 1) (trimL a) (trimL b) = g
  intro g1 g2 g3 g6 g8 g10
  rcases g1 with rfl | ⟨f, c, rfl, hc⟩
  · obtain ⟨h1, h2⟩ := g3 rfl
    exact absurd ⟨trimL_nil_iff.1 h1, trimL_nil_iff.1 h2⟩ hz
  · unfold monL
    rw [if_neg (by simp)]
    have hl : lastF (f ++ [c]) = c := by simp [lastF]
    rw [hl]
    have hv := inv_mul hc
    revert hv
    generalize inv c = w
    intro hv
    refine ⟨f.length, ⟨ps w f, ?_, by simp [ps]⟩, by simpa using g2, ⟨ps w u, ps w v, by simp only [ps, List.length_map]; omega, by simp only [ps, List.length_map]; omega, fun t => ?_⟩, ⟨ps c x, by simp only [ps, List.length_map]; omega, fun t => ?_⟩, ⟨ps c y, by simp only [ps, List.length_map]; omega, fun t => ?_⟩⟩
    · simp only [ps, List.map_append, List.map_cons, List.map_nil]
      have : w * c = 1 := by rw [← hv]; grind
      rw [this]
    · rw [ps_ev, ps_ev, ps_ev, g6 t, trimL_ev, trimL_ev]
      generalize ev a t = p0
      generalize ev b t = p1
      generalize ev u t = p2
      generalize ev v t = p3
      grind
    · have := g8 t
      rw [trimL_ev] at this
      rw [ps_ev, ps_ev, this]
      generalize ev x t = p0
      generalize ev (f ++ [c]) t = p1
      grind
    · have := g10 t
      rw [trimL_ev] at this
      rw [ps_ev, ps_ev, this]
      generalize ev y t = p0
      generalize ev (f ++ [c]) t = p1
      grind
def Sp (a R : List Fq) : Prop := mon R.length a ∧ R.Nodup ∧ ∀ z, ev a z = 0 ↔ z ∈ R
theorem roots_le {a R : List Fq} {n : Nat} (ha : mon n a) (hn : R.Nodup) (hr : ∀ z ∈ R, ev a z = 0) : R.length ≤ n := by
  have := roots_lt (n + 1) (l := a) (R := R) (by rw [mon_len ha]; exact Nat.le_refl _) (mon_nz ha) hn hr
  omega
theorem sp_of {a R : List Fq} {n : Nat} (ha : mon n a) (hn : R.Nodup) (hl : R.length = n) (hr : ∀ z ∈ R, ev a z = 0) : Sp a R := by
  subst hl
  refine ⟨ha, hn, fun z => ⟨fun h => ?_, hr z⟩⟩
  refine Classical.byContradiction fun hz => ?_
  have := roots_le (R := z :: R) ha (List.nodup_cons.2 ⟨hz, hn⟩) fun y hy => by
    rcases List.mem_cons.1 hy with rfl | hy
    · exact h
    · exact hr y hy
  simp at this
  omega
theorem sp_div {a R g h : List Fq} {m : Nat} (ha : Sp a R) (hg : mon m g) (hh : mon (R.length - m) h) (hm : m ≤ R.length) (he : ∀ t, ev a t = ev h t * ev g t) :
    Sp g (R.filter fun z => ev g z = 0) ∧ Sp h (R.filter fun z => ¬ ev g z = 0) := by
  have h1 := roots_le (R := R.filter fun z => ev g z = 0) hg (ha.2.1.filter _) fun z hz => by simpa using (List.mem_filter.1 hz).2
  have hr2 : ∀ z ∈ R.filter (fun z => ¬ ev g z = 0), ev h z = 0 := fun z hz => by
    obtain ⟨h2, h3⟩ := List.mem_filter.1 hz
    have := he z
    rw [(ha.2.2 z).2 h2] at this
    rcases fq_zero this.symm with h4 | h4
    · exact h4
    · simp [h4] at h3
  have h2 := roots_le (R := R.filter fun z => ¬ ev g z = 0) hh (ha.2.1.filter _) hr2
  have hsum : (R.filter fun z => ev g z = 0).length + (R.filter fun z => ¬ ev g z = 0).length = R.length := by
    generalize R = l
    induction l with
    | nil => rfl
    | cons z l ih =>
      by_cases hz : ev g z = 0
      · simp only [List.filter_cons, hz, decide_true, if_true, not_true_eq_false, decide_false, List.length_cons, Bool.false_eq_true, if_false] at ih ⊢
        omega
      · simp only [List.filter_cons, hz, decide_true, if_true, not_false_eq_true, decide_false, List.length_cons, Bool.false_eq_true, if_false] at ih ⊢
        omega
  exact ⟨sp_of hg (ha.2.1.filter _) (by omega) fun z hz => by simpa using (List.mem_filter.1 hz).2, sp_of hh (ha.2.1.filter _) (by omega) hr2⟩
end Hud
end
section
namespace Hud
theorem pm_len_eq (q : List Fq) (hq : q ≠ []) : ∀ p, p ≠ [] → (pm p q).length + 1 = p.length + q.length
  | [], h => absurd rfl h
  | [c], _ => by
    have : 0 < q.length := List.length_pos_iff.2 hq
    simp only [pm, pa_len, ps, List.length_map, List.length_cons, List.length_nil]
    omega
  | c :: d :: p, _ => by
    have := pm_len_eq q hq (d :: p) (by simp)
    have : 0 < q.length := List.length_pos_iff.2 hq
    rw [pm, pa_len]
    simp only [ps, List.length_map, List.length_cons] at *
    omega
def mulL (a b : List Fq) : List Fq := if trimL a = [] ∨ trimL b = [] then [] else trimL (pm (trimL a) (trimL b))
theorem mulL_ev (t : Fq) (a b : List Fq) : ev (mulL a b) t = ev a t * ev b t := by
  unfold mulL
  split
  · rename_i h
    rcases h with h | h
    · rw [← trimL_ev t a, h]; simp only [ev, f_zm]
    · rw [← trimL_ev t b, h]; simp only [ev, f_mz]
  · rw [trimL_ev, pm_ev, trimL_ev, trimL_ev]
theorem mulL_len (a b : List Fq) : mulL a b = [] ∨ (mulL a b).length + 1 ≤ a.length + b.length := by
  unfold mulL
  split
  · exact .inl rfl
  · rename_i h
    simp only [not_or] at h
    have h1 := pm_len_eq (trimL b) h.2 (trimL a) h.1
    have h2 := trimL_len (pm (trimL a) (trimL b))
    have h3 := trimL_len a
    have h4 := trimL_len b
    exact .inr (by omega)
theorem mulL_tr (a b : List Fq) : tr (mulL a b) := by
  unfold mulL
  split
  · exact .inl rfl
  · exact trimL_tr _
theorem mulL_mon {d e : Nat} {a b : List Fq} (ha : mon d a) (hb : mon e b) : mon (d + e) (mulL a b) := by
  have h1 := mon_len ha
  have h2 := mon_len hb
  unfold mulL
  rw [trimL_id (mon_tr ha), trimL_id (mon_tr hb), if_neg (fun h => by rcases h with h | h <;> simp [h] at h1 h2), trimL_id (mon_tr (pm_mon hb ha))]
  exact pm_mon hb ha
theorem dm_mon {n m : Nat} {a b : List Fq} (ha : mon n a) (hb : mon m b) (hmn : m ≤ n) (hl : n + 1 ≤ PP) : mon (n - m) (dm a b).1 ∧ (dm a b).2.length ≤ m := by
  obtain ⟨d1, d2, d3, d4, d5, d6⟩ := dm_ok (a := a) (b := b) (mon_nz hb)
  rw [trimL_id (mon_tr hb), mon_len hb] at d2 d5
  rw [trimL_id (mon_tr ha), mon_len ha] at d5
  revert d1 d2 d3 d4 d5
  generalize (dm a b).1 = Q
  generalize (dm a b).2 = R
  intro d1 d2 d3 d4 d5
  refine ⟨?_, by omega⟩
  rcases d3 with rfl | ⟨f, c, rfl, hc⟩
  · have : a = R := tr_ext (mon_tr ha) d4 (by rw [mon_len ha]; exact hl) (by omega) fun t => by rw [d1 t]; simp only [ev, f_zm, f_za]
    have := mon_len ha
    subst_vars
    omega
  · obtain ⟨v, hv⟩ : ∃ v, c * v = 1 := ⟨inv c, inv_mul hc⟩
    have hvc : v * c = 1 := by rw [← hv]; grind
    have hm : mon f.length (ps v (f ++ [c])) := by
      refine ⟨ps v f, ?_, by simp [ps]⟩
      simp only [ps, List.map_append, List.map_cons, List.map_nil, hvc]
    have hfl : f.length + m ≤ n := by
      rcases d5 with h | h
      · simp at h
      · simp at h; omega
    have hp := pa_mon (q := ps v R) (pm_mon hb hm) (by simp only [ps, List.length_map]; omega)
    obtain ⟨F, hF, hFl⟩ := hp
    have he : a = ps c F ++ [c] := by
      refine tr_ext (mon_tr ha) (.inr ⟨_, _, rfl, hc⟩) (by rw [mon_len ha]; exact hl) (by simp [ps, hFl]; omega) fun t => ?_
      have : ps c F ++ [c] = ps c (F ++ [1]) := by
        simp only [ps, List.map_append, List.map_cons, List.map_nil]
        have : c * 1 = c := by grind
        rw [this]
      rw [this, ← hF, ps_ev, pa_ev, pm_ev, ps_ev, ps_ev, d1 t]
      generalize ev (f ++ [c]) t = x
      generalize ev b t = y
      generalize ev R t = z
      grind
    obtain ⟨fa, hfa, hfal⟩ := ha
    rw [hfa] at he
    have hc1 := (List.append_inj' he rfl).2
    have hlen := congrArg List.length he
    simp [ps, hFl, hfal] at hlen
    simp only [List.cons.injEq, and_true] at hc1
    subst hc1
    exact ⟨f, rfl, by omega⟩
def powL (md : List Fq) : Nat → Nat → List Fq → List Fq → List Fq
  | 0, _, out, _ => out
  | f + 1, n, out, a => if n = 0 then out else powL md f (n / 2) (if n % 2 = 1 then (dm (mulL out a) md).2 else out) (dm (mulL a a) md).2
theorem dm_root {md : List Fq} {z : Fq} (hmd : ¬ zp md) (hz : ev md z = 0) (x : List Fq) : ev (dm x md).2 z = ev x z := by
  rw [(dm_ok (a := x) hmd).1 z, hz, f_mz, f_za]
theorem pw_half (x : Fq) (n : Nat) : x ^ n = (x * x) ^ (n / 2) * x ^ (n % 2) := by
  have key : ∀ m k : Nat, x ^ (2 * m + k) = (x * x) ^ m * x ^ k := by
    intro m
    induction m with
    | zero =>
      intro k
      rw [Nat.mul_zero, Nat.zero_add]
      generalize x ^ k = y
      grind
    | succ m ih =>
      intro k
      have e1 : ∀ (x : Fq) (k : Nat), x ^ (k + 1) = x ^ k * x := fun x k => by grind
      rw [show 2 * (m + 1) + k = 2 * m + (k + 2) by omega, ih, e1 (x * x), e1 x (k + 1), e1 x k]
      generalize (x * x) ^ m = y
      generalize x ^ k = z
      grind
  rw [← key, Nat.div_add_mod]
theorem pw0 (x : Fq) : x ^ 0 = 1 := by grind
theorem pw1 (x : Fq) : x ^ 1 = x := by grind
theorem powL_root {md : List Fq} {z : Fq} (hmd : ¬ zp md) (hz : ev md z = 0) : ∀ (f n : Nat) (out a : List Fq), n < 2 ^ f → ev (powL md f n out a) z = ev out z * (ev a z) ^ n
  | 0, n, out, a, h => by
    have : n = 0 := by simp at h; omega
    subst this
    rw [powL, pw0]
    generalize ev out z = x
    grind
  | f + 1, n, out, a, h => by
    rw [powL]
    split
    · rename_i h0
      subst h0
      rw [pw0]
      generalize ev out z = x
      grind
    · rw [powL_root hmd hz f (n / 2) _ _ (by rw [Nat.pow_succ] at h; omega), dm_root hmd hz, mulL_ev, pw_half (ev a z) n]
      rcases Nat.mod_two_eq_zero_or_one n with h2 | h2
      · rw [h2, if_neg (by omega), pw0]
        generalize (ev a z * ev a z) ^ (n / 2) = y
        grind
      · rw [h2, if_pos rfl, dm_root hmd hz, mulL_ev, pw1]
        generalize (ev a z * ev a z) ^ (n / 2) = y
        grind
def Fm (md w : List Fq) (m n : Nat) (r : List Fq) : Prop := ∃ k, (∀ t, (ev w t) ^ n = ev md t * ev k t + ev r t) ∧ ((k = [] ∧ mon n r ∧ n ≤ m) ∨ (mon (n - m) k ∧ m ≤ n ∧ r.length ≤ m))
theorem pw_add (x : Fq) (a b : Nat) : x ^ (a + b) = x ^ a * x ^ b := by
  induction b with
  | zero => rw [Nat.add_zero, pw0]; generalize x ^ a = y; grind
  | succ b ih =>
    have e1 : ∀ k : Nat, x ^ (k + 1) = x ^ k * x := fun k => by grind
    rw [← Nat.add_assoc, e1, e1, ih]
    generalize x ^ a = y
    generalize x ^ b = z
    grind
theorem fm_mul {md w : List Fq} {m : Nat} (hmd : mon m md) (hm0 : 1 ≤ m) (hm : 2 * m + 1 ≤ PP) {n1 n2 : Nat} {r1 r2 : List Fq} (h1 : Fm md w m n1 r1) (h2 : Fm md w m n2 r2) : Fm md w m (n1 + n2) (dm (mulL r1 r2) md).2 := by
  obtain ⟨k1, a1, h1⟩ := h1
  obtain ⟨k2, a2, h2⟩ := h2
  obtain ⟨d1, d2, d3, d4, d5, d6⟩ := dm_ok (a := mulL r1 r2) (b := md) (mon_nz hmd)
  rw [trimL_id (mon_tr hmd), mon_len hmd] at d2 d5
  rw [trimL_id (mulL_tr r1 r2)] at d5
  have hmul := mulL_len r1 r2
  have hval : ∀ t, ev r1 t * ev r2 t = ev (dm (mulL r1 r2) md).1 t * ev md t + ev (dm (mulL r1 r2) md).2 t := fun t => by rw [← d1 t, mulL_ev]
  have hQ : ∀ x, r1.length + r2.length ≤ x + m + 1 → (dm (mulL r1 r2) md).1.length ≤ x := by
    intro x hx
    rcases d5 with h | h
    · rw [h]; simp
    · rcases hmul with h' | h'
      · have : (mulL r1 r2).length = 0 := by rw [h']; rfl
        omega
      · omega
  rcases h1 with ⟨rfl, b1, c1⟩ | ⟨b1, c1, e1⟩ <;> rcases h2 with ⟨rfl, b2, c2⟩ | ⟨b2, c2, e2⟩
  · have hs := mulL_mon b1 b2
    by_cases hlt : n1 + n2 < m
    · have hdm : dm (mulL r1 r2) md = ([], mulL r1 r2) := by
        unfold dm
        rw [trimL_id (mon_tr hmd), trimL_id (mon_tr hs), if_neg (fun h => by have := mon_len hmd; rw [h] at this; simp at this), if_pos (by rw [mon_len hs, mon_len hmd]; omega)]
      rw [hdm]
      refine ⟨[], fun t => ?_, .inl ⟨rfl, hs, by omega⟩⟩
      rw [pw_add, a1 t, a2 t, mulL_ev]
      simp only [ev, f_mz, f_za]
    · obtain ⟨q1, q2⟩ := dm_mon hs hmd (by omega) (by omega)
      refine ⟨(dm (mulL r1 r2) md).1, fun t => ?_, .inr ⟨q1, by omega, q2⟩⟩
      rw [pw_add, a1 t, a2 t]
      have := hval t
      simp only [ev, f_mz, f_za]
      generalize ev r1 t = x at *
      generalize ev r2 t = y at *
      generalize ev (dm (mulL r1 r2) md).1 t = z at *
      generalize ev (dm (mulL r1 r2) md).2 t = u at *
      generalize ev md t = v at *
      grind
  · have l1 := mon_len b1
    refine ⟨pa (pm r1 k2) (dm (mulL r1 r2) md).1, fun t => ?_, .inr ⟨?_, by omega, by omega⟩⟩
    · rw [pw_add, a1 t, a2 t, pa_ev, pm_ev]
      have := hval t
      simp only [ev, f_mz, f_za]
      generalize ev r1 t = x at *
      generalize ev r2 t = y at *
      generalize ev (dm (mulL r1 r2) md).1 t = z at *
      generalize ev (dm (mulL r1 r2) md).2 t = u at *
      generalize ev md t = v at *
      generalize ev k2 t = v2 at *
      grind
    · have := pm_mon b2 b1
      rw [show n1 + n2 - m = n1 + (n2 - m) by omega]
      exact pa_mon this (by have := hQ n1 (by omega); omega)
  · have l2 := mon_len b2
    refine ⟨pa (pm k1 r2) (dm (mulL r1 r2) md).1, fun t => ?_, .inr ⟨?_, by omega, by omega⟩⟩
    · rw [pw_add, a1 t, a2 t, pa_ev, pm_ev]
      have := hval t
      simp only [ev, f_mz, f_za]
      generalize ev r1 t = x at *
      generalize ev r2 t = y at *
      generalize ev (dm (mulL r1 r2) md).1 t = z at *
      generalize ev (dm (mulL r1 r2) md).2 t = u at *
      generalize ev md t = v at *
      generalize ev k1 t = v2 at *
      grind
    · have := pm_mon b2 b1
      rw [show n1 + n2 - m = (n1 - m) + n2 by omega]
      exact pa_mon this (by have := hQ n2 (by omega); omega)
  · have l1 := mon_len b1
    have l2 := mon_len b2
    refine ⟨pa (pa (pa (pm md (pm k1 k2)) (pm k1 r2)) (pm k2 r1)) (dm (mulL r1 r2) md).1, fun t => ?_, .inr ⟨?_, by omega, by omega⟩⟩
    · rw [pw_add, a1 t, a2 t, pa_ev, pa_ev, pa_ev, pm_ev, pm_ev, pm_ev, pm_ev]
      have := hval t
      generalize ev r1 t = x at *
      generalize ev r2 t = y at *
      generalize ev (dm (mulL r1 r2) md).1 t = z at *
      generalize ev (dm (mulL r1 r2) md).2 t = u at *
      generalize ev md t = v at *
      generalize ev k1 t = v1 at *
      generalize ev k2 t = v2 at *
      grind
    · have h3 := pm_mon (pm_mon b2 b1) hmd
      rw [show n1 + n2 - m = m + (n1 - m + (n2 - m)) by omega]
      have pl : ∀ (p q : List Fq) (x : Nat), p ≠ [] → p.length + q.length ≤ x + 1 → p.length ≤ x → (pm p q).length ≤ x := by
        intro p q x hp hx hpx
        by_cases hq : q = []
        · subst hq
          have : ∀ p : List Fq, (pm p []).length ≤ p.length := by
            intro p
            induction p with
            | nil => simp [pm]
            | cons c p ih => simp only [pm, pa_len, ps, List.map_nil, List.length_nil, List.length_cons]; omega
          have h1 := this p
          omega
        · have := pm_len_eq q hq p hp
          omega
      refine pa_mon (pa_mon (pa_mon h3 (pl _ _ _ (fun h => by rw [h] at l1; simp at l1) (by omega) (by omega))) (pl _ _ _ (fun h => by rw [h] at l2; simp at l2) (by omega) (by omega))) (by have := hQ (m - 1 + 1) (by omega); omega)
theorem powL_fm {md w : List Fq} {m : Nat} (hmd : mon m md) (hm0 : 1 ≤ m) (hm : 2 * m + 1 ≤ PP) : ∀ (f n i e : Nat) (out a : List Fq), n < 2 ^ f → Fm md w m i out → Fm md w m e a → Fm md w m (i + e * n) (powL md f n out a)
  | 0, n, i, e, out, a, h, ho, _ => by
    have : n = 0 := by simp at h; omega
    subst this
    exact ho
  | f + 1, n, i, e, out, a, h, ho, ha => by
    rw [powL]
    split
    · rename_i h0
      subst h0
      exact ho
    · have ha2 := fm_mul hmd hm0 hm ha ha
      have hd := Nat.div_add_mod n 2
      rcases Nat.mod_two_eq_zero_or_one n with h2 | h2
      · rw [if_neg (by omega)]
        have := powL_fm hmd hm0 hm f (n / 2) i (e + e) out _ (by rw [Nat.pow_succ] at h; omega) ho ha2
        have e1 : e * n = (e + e) * (n / 2) := by
          rw [← Nat.two_mul, Nat.mul_comm 2 e, Nat.mul_assoc]
          congr 1; omega
        rw [e1]; exact this
      · rw [if_pos h2]
        have := powL_fm hmd hm0 hm f (n / 2) (i + e) (e + e) _ _ (by rw [Nat.pow_succ] at h; omega) (fm_mul hmd hm0 hm ho ha) ha2
        have e1 : i + e * n = i + e + (e + e) * (n / 2) := by
          have : e * n = e * (2 * (n / 2) + 1) := by congr 1; omega
          rw [this, Nat.mul_add, Nat.mul_one, ← Nat.mul_assoc, Nat.mul_comm e 2, Nat.two_mul]
          omega
        rw [e1]; exact this
theorem powL_len {md : List Fq} {m : Nat} (hmd : mon m md) (hm0 : 1 ≤ m) : ∀ (f n : Nat) (out a : List Fq), out.length ≤ m → (powL md f n out a).length ≤ m
  | 0, n, out, a, h => h
  | f + 1, n, out, a, h => by
    rw [powL]
    split
    · exact h
    · refine powL_len hmd hm0 f _ _ _ ?_
      split
      · have := (dm_ok (a := mulL out a) (b := md) (mon_nz hmd)).2.1
        rw [trimL_id (mon_tr hmd), mon_len hmd] at this
        omega
      · exact h
theorem frob_split {md c : List Fq} {m : Nat} (hmd : mon m md) (hm0 : 1 ≤ m) (hm : m ≤ 1000) (hc : ∀ t, ev c t = ev (powL md 61 PP [1] [0, 1]) t - t) (hcl : c.length ≤ m + 1) :
    ∃ R, Sp (gcdL md c) R ∧ R.length ≤ m ∧ ∀ z, z ∈ R ↔ ev md z = 0 := by
  have hx : ∀ t : Fq, ev [0, 1] t = t := fun t => by simp only [ev, f_mz, f_az, f_za]; grind
  have hPP : PP = 2305843009213693951 := rfl
  obtain ⟨k, hk, hk2⟩ := powL_fm (md := md) (w := [0, 1]) hmd hm0 (by omega) 61 PP 0 1 [1] [0, 1] (by decide) ⟨[], fun t => by rw [pw0]; simp only [ev, f_mz, f_az, f_za], .inl ⟨rfl, ⟨[], rfl, rfl⟩, by omega⟩⟩
    ⟨[], fun t => by rw [pw1]; simp only [ev, f_mz, f_za], .inl ⟨rfl, ⟨[0], rfl, rfl⟩, hm0⟩⟩
  rw [Nat.zero_add, Nat.one_mul] at hk hk2
  have hkm : mon (PP - m) k := by
    rcases hk2 with ⟨_, _, h⟩ | ⟨h, _⟩
    · omega
    · exact h
  obtain ⟨d, g1, g2, ⟨u, v, g3, g4, g5⟩, ⟨x, g6, g7⟩, ⟨y, g8, g9⟩⟩ := gcd_ok (L := m + 1) (a := md) (b := c) (by rw [mon_len hmd]; exact Nat.le_refl _) hcl (fun h => mon_nz hmd h.1)
  have hB : (m + 1 + 1) * (m + 1 + 1) + 1 ≤ 1002 * 1002 + 1 := by
    have := Nat.mul_le_mul (show m + 1 + 1 ≤ 1002 by omega) (show m + 1 + 1 ≤ 1002 by omega)
    omega
  have hml := mon_len hmd
  obtain ⟨x1, x2, x3, x4⟩ := dm_exact g1 (mon_nz hmd) (h := x) (by omega) g7
  obtain ⟨x5, x6⟩ := x4 m hmd
  revert x2 x5
  generalize (dm md (gcdL md c)).1 = Q
  intro x2 x5
  revert g1 g5 g7 g9 x2
  generalize gcdL md c = g
  intro g1 g5 g7 g9 x2
  have hH : mon (m - d + (PP - m)) (pa (pm Q k) y) := pa_mon (pm_mon hkm x5) (by omega)
  have hprod : ∀ t, ev g t * ev (pa (pm Q k) y) t = 0 := fun t => by
    have h1 := hk t
    rw [hx, fq_frob] at h1
    have h2 := hc t
    have h3 := g9 t
    have h4 := x2 t
    rw [pa_ev, pm_ev]
    generalize ev (powL md 61 PP [1] [0, 1]) t = a0 at *
    generalize ev g t = a1 at *
    generalize ev c t = a2 at *
    generalize ev md t = a3 at *
    generalize ev Q t = a4 at *
    generalize ev k t = a5 at *
    generalize ev y t = a6 at *
    grind
  obtain ⟨A, A1, A2, A3⟩ := all_fq PP
  have l1 := roots_le (R := A.filter fun z => ev g z = 0) g1 (A1.filter _) fun z hz => by simpa using (List.mem_filter.1 hz).2
  have l2 := roots_le (R := A.filter fun z => ¬ ev g z = 0) hH (A1.filter _) fun z hz => by
    have h2 := (List.mem_filter.1 hz).2
    rcases fq_zero (hprod z) with h3 | h3
    · simp [h3] at h2
    · exact h3
  have hsum : (A.filter fun z => ev g z = 0).length + (A.filter fun z => ¬ ev g z = 0).length = A.length := by
    clear l1 l2 A1 A2 A3
    induction A with
    | nil => rfl
    | cons z l ih =>
      by_cases hz : ev g z = 0
      · simp only [List.filter_cons, hz, decide_true, if_true, not_true_eq_false, decide_false, List.length_cons, Bool.false_eq_true, if_false] at ih ⊢
        omega
      · simp only [List.filter_cons, hz, decide_true, if_true, not_false_eq_true, decide_false, List.length_cons, Bool.false_eq_true, if_false] at ih ⊢
        omega
  have hl : (A.filter fun z => ev g z = 0).length = d := by omega
  refine ⟨A.filter fun z => ev g z = 0, sp_of g1 (A1.filter _) hl (fun z hz => by simpa using (List.mem_filter.1 hz).2), by omega, fun z => ?_⟩
  rw [List.mem_filter]
  constructor
  · rintro ⟨_, h⟩
    have h : ev g z = 0 := by simpa using h
    rw [g7 z, h, f_mz]
  · intro h
    refine ⟨A3 z, ?_⟩
    have h1 := hk z
    rw [hx, fq_frob, h, f_zm, f_za] at h1
    have h2 := hc z
    rw [← h1] at h2
    have h3 := g5 z
    rw [h, h2] at h3
    have : ev g z = 0 := by
      rw [h3]
      generalize ev u z = a1
      generalize ev v z = a2
      grind
    simpa using this
theorem split_step {a c R : List Fq} {s : Fq} (ha : Sp a R) (hm0 : 1 ≤ R.length) (hm : R.length ≤ 1000) (hc : ∀ t, ev c t = ev (powL a 61 (NN / 2) [1] [s, 1]) t - 1) (hcl : c.length ≤ R.length + 1) :
    Sp (gcdL a c) (R.filter fun z => (z + s) ^ (NN / 2) = 1) ∧ Sp (dm a (gcdL a c)).1 (R.filter fun z => ¬ (z + s) ^ (NN / 2) = 1) := by
  have hPP : PP = 2305843009213693951 := rfl
  have hal := mon_len ha.1
  have hroot : ∀ z, z ∈ R → (ev c z = 0 ↔ (z + s) ^ (NN / 2) = 1) := fun z hz => by
    have h1 := powL_root (mon_nz ha.1) ((ha.2.2 z).2 hz) 61 (NN / 2) [1] [s, 1] (by decide)
    have e1 : ev [1] z = 1 := by simp only [ev, f_mz, f_az]
    have e2 : ev [s, 1] z = z + s := by simp only [ev, f_mz, f_az]; grind
    rw [e1, e2] at h1
    rw [hc z, h1]
    generalize (z + s) ^ (NN / 2) = w
    constructor <;> intro h <;> grind
  obtain ⟨d, g1, g2, ⟨u, v, g3, g4, g5⟩, ⟨x, g6, g7⟩, ⟨y, g8, g9⟩⟩ := gcd_ok (L := R.length + 1) (a := a) (b := c) (by omega) hcl (fun h => mon_nz ha.1 h.1)
  have hB : (R.length + 1 + 1) * (R.length + 1 + 1) + 1 ≤ 1002 * 1002 + 1 := by
    have := Nat.mul_le_mul (show R.length + 1 + 1 ≤ 1002 by omega) (show R.length + 1 + 1 ≤ 1002 by omega)
    omega
  obtain ⟨x1, x2, x3, x4⟩ := dm_exact g1 (mon_nz ha.1) (h := x) (by omega) g7
  obtain ⟨x5, x6⟩ := x4 _ ha.1
  have hd := sp_div ha g1 x5 x6 x2
  have hiff : ∀ z ∈ R, (ev (gcdL a c) z = 0 ↔ (z + s) ^ (NN / 2) = 1) := fun z hz => by
    rw [← hroot z hz]
    constructor
    · intro h; rw [g9 z, h, f_mz]
    · intro h
      rw [g5 z, h, (ha.2.2 z).2 hz, f_mz, f_mz, f_az]
  have f1 : (R.filter fun z => ev (gcdL a c) z = 0) = R.filter fun z => (z + s) ^ (NN / 2) = 1 := List.filter_congr fun z hz => by simp [hiff z hz]
  have f2 : (R.filter fun z => ¬ ev (gcdL a c) z = 0) = R.filter fun z => ¬ (z + s) ^ (NN / 2) = 1 := List.filter_congr fun z hz => by simp [hiff z hz]
  rw [f1, f2] at hd
  exact hd
theorem apart_ex {x y : Fq} (h : x ≠ y) : ∃ s : Fq, ((x + s) ^ (NN / 2) = 1) ≠ ((y + s) ^ (NN / 2) = 1) := by
  obtain ⟨i, hi⟩ : ∃ i : Fq, 2 * i = 1 := ⟨inv 2, inv_mul (by decide)⟩
  have hd : (x - y) * i ≠ 0 := fun h0 => by
    rcases fq_zero h0 with h1 | h1
    · exact h (by grind)
    · rw [h1, f_mz] at hi; exact fq10 hi.symm
  refine ⟨-(x + y) * i, ?_⟩
  have e1 : x + -(x + y) * i = (x - y) * i := by
    have : x = x * (2 * i) := by rw [hi]; grind
    grind
  have e2 : y + -(x + y) * i = -1 * ((x - y) * i) := by
    have : y = y * (2 * i) := by rw [hi]; grind
    grind
  rw [e1, e2]
  generalize (x - y) * i = d at hd
  have hsq : d ^ (NN / 2) * d ^ (NN / 2) = 1 := by
    rw [← pw_add]
    exact fq_fermat hd
  have hneg : (-1 * d) ^ (NN / 2) = - d ^ (NN / 2) := by
    have key : ∀ n : Nat, (-1 * d) ^ (2 * n + 1) = - d ^ (2 * n + 1) := by
      intro n
      have e3 : ∀ (x : Fq) (k : Nat), x ^ (k + 1) = x ^ k * x := fun x k => by grind
      induction n with
      | zero => rw [Nat.mul_zero, Nat.zero_add, pw1, pw1]; grind
      | succ n ih =>
        rw [show 2 * (n + 1) + 1 = 2 * n + 1 + 1 + 1 by omega, e3, e3, ih, e3 d (2 * n + 1 + 1), e3 d (2 * n + 1)]
        generalize d ^ (2 * n + 1) = w
        grind
    exact key 576460752303423487
  rw [hneg]
  generalize d ^ (NN / 2) = w at hsq
  have hw : w = 1 ∨ w = -1 := by
    have : (w - 1) * (w + 1) = 0 := by grind
    rcases fq_zero this with h | h
    · left; grind
    · right; grind
  have hne : (-1 : Fq) ≠ 1 := by decide
  intro hh
  rcases hw with rfl | rfl
  · have : (-1 : Fq) = 1 := hh ▸ rfl
    exact hne this
  · have h1 : (- -1 : Fq) = 1 := by grind
    have : (-1 : Fq) = 1 := hh ▸ h1
    exact hne this
end Hud
end
section
namespace Hud
open Go
theorem wrap_i64 {n : Int} (h1 : -9223372036854775808 ≤ n) (h2 : n ≤ 9223372036854775807) : IntKind.i64.wrap n = n := by
  simp [IntKind.wrap, IntKind.bits, IntKind.signed]; omega
theorem wrap_u64 {n : Int} (h1 : 0 ≤ n) (h2 : n ≤ 18446744073709551615) : IntKind.u64.wrap n = n := by
  simp [IntKind.wrap, IntKind.bits, IntKind.signed]; omega
theorem wrap_nat {n : Nat} (h : n ≤ 9223372036854775807) : IntKind.i64.wrap (n : Int) = n := wrap_i64 (by omega) (by omega)
theorem wrap_suc {n : Nat} (h : n < 9223372036854775807) : IntKind.i64.wrap ((n : Int) + 1) = ((n + 1 : Nat) : Int) := by rw [wrap_i64 (by omega) (by omega)]; rfl
theorem wrap_pred {n : Nat} (h : n < 9223372036854775807) : IntKind.i64.wrap (((n + 1 : Nat) : Int) - 1) = n := by rw [wrap_i64 (by omega) (by omega)]; omega
@[go_sem] theorem dgt_suc (n : Nat) : decide (((n + 1 : Nat) : Int) > 0) = true := decide_eq_true (by omega)
@[go_sem] theorem dgt00 : decide ((0 : Int) > 0) = false := Eq.trans rfl rfl
@[go_sem] theorem dgt_zero : decide (((0 : Nat) : Int) > 0) = false := Eq.trans rfl rfl
@[go_sem] theorem take_drop_map {α β : Type} (f : α → β) (l : List α) (p : Nat) : ((l.map f).drop p).take (l.length - p) = (l.map f).drop p := List.take_of_length_le (by simp)
@[go_sem] theorem take_drop_self {α : Type} (l : List α) (p : Nat) : (l.drop p).take (l.length - p) = l.drop p := List.take_of_length_le (by simp)
@[go_sem] theorem take_len_map {α β : Type} (f : α → β) (l : List α) : (l.map f).take l.length = l.map f := List.take_of_length_le (by simp)
theorem dlt_t {a b : Nat} (h : a < b) : decide ((a : Int) < (b : Int)) = true := by simpa using h
theorem dlt_f {a b : Nat} (h : ¬ a < b) : decide ((a : Int) < (b : Int)) = false := by simpa using h
theorem len_ne {a b : Nat} (h : ((a : Int) != (b : Int)) = true) : a ≠ b := by simp at h; omega
theorem len_eq {a b : Nat} (h : ((a : Int) != (b : Int)) = false) : a = b := by simp at h; omega
theorem nth_map {α β : Type} (f : α → β) (l : List α) (i : Nat) (h : i < l.length) : (l.map f)[i]? = some (f l[i]) := by simp [h]
mutual
theorem rn_no {L : List Nat} : ∀ {x : AV}, idsA x = [] → rnA L x = x
  | .own _, h => by simp [idsA] at h
  | .ptr _ _, h => by simp [idsA] at h
  | .elt _ _ _ _, h => by simp [idsA] at h
  | .vw _ _ _ _, h => by simp [idsA] at h
  | .mp _, h => by simp [idsA] at h
  | .yl _, h => by simp [idsA] at h
  | .ag cs, h => by simp only [idsA] at h; simp only [rnA]; rw [rnL_no h]
  | .cl f cs, h => by simp only [idsA] at h; simp only [rnA]; rw [rnL_no h]
  | .bm f kk cs, h => by simp only [idsA] at h; simp only [rnA]; rw [rnL_no h]
  | .tup cs, h => by simp only [idsA] at h; simp only [rnA]; rw [rnL_no h]
  | .v _, _ => rfl
  | .ls _ _, _ => rfl
  | .rp _, _ => rfl
  | .any, _ => rfl
theorem rnL_no {L : List Nat} : ∀ {x : List AV}, idsL x = [] → rnL L x = x
  | [], _ => rfl
  | c :: cs, h => by simp only [idsL, List.append_eq_nil_iff] at h; simp only [rnL]; rw [rn_no h.1, rnL_no h.2]
end
mutual
theorem bk_no {L : List Nat} {n : Nat} : ∀ {x : AV}, idsA x = [] → bkA L n x = x
  | .own _, h => by simp [idsA] at h
  | .ptr _ _, h => by simp [idsA] at h
  | .elt _ _ _ _, h => by simp [idsA] at h
  | .vw _ _ _ _, h => by simp [idsA] at h
  | .mp _, h => by simp [idsA] at h
  | .yl _, h => by simp [idsA] at h
  | .ag cs, h => by simp only [idsA] at h; simp only [bkA]; rw [bkL_no h]
  | .cl f cs, h => by simp only [idsA] at h; simp only [bkA]; rw [bkL_no h]
  | .bm f kk cs, h => by simp only [idsA] at h; simp only [bkA]; rw [bkL_no h]
  | .tup cs, h => by simp only [idsA] at h; simp only [bkA]; rw [bkL_no h]
  | .v _, _ => rfl
  | .ls _ _, _ => rfl
  | .rp _, _ => rfl
  | .any, _ => rfl
theorem bkL_no {L : List Nat} {n : Nat} : ∀ {x : List AV}, idsL x = [] → bkL L n x = x
  | [], _ => rfl
  | c :: cs, h => by simp only [idsL, List.append_eq_nil_iff] at h; simp only [bkL]; rw [bk_no h.1, bkL_no h.2]
end
mutual
theorem subA_refl : ∀ x : AV, subA x x
  | .ag cs => by simp only [subA]; exact .inl trivial
  | .v _ => by simp only [subA]; exact .inl trivial
  | .own _ => by simp only [subA]
  | .ptr _ _ => by simp only [subA]
  | .elt _ _ _ _ => by simp only [subA]
  | .vw _ _ _ _ => by simp only [subA]
  | .mp _ => by simp only [subA]
  | .yl _ => by simp only [subA]
  | .cl _ _ => by simp only [subA]
  | .bm _ _ _ => by simp only [subA]
  | .tup _ => by simp only [subA]
  | .ls _ _ => by simp only [subA]
  | .rp _ => by simp only [subA]
  | .any => by simp only [subA]
theorem subL_refl : ∀ x : List AV, subL x x
  | [] => by simp only [subL]
  | c :: cs => by simp only [subL]; exact ⟨c, cs, rfl, subA_refl c, subL_refl cs⟩
end
section
variable {P : Program} {G : Nat → Option (List AV)} {f : FuncId} {args args' : List AV} {T : Tab} {K : AV → Tab → Prop}
theorem call_post (hs : subL args args') (hi : idsL args' = []) {post : AV → Tab → Prop} (hc : CallOk P G f args' [] post) (hk : ∀ r T', post r T' → K (bkA [] T.length r) (T ++ T'.map (bkO [] T.length))) : @callC P G f args T ⟨K⟩ := by
  refine ⟨args', hs, .inl ⟨[], by simp, by simp, ?_⟩⟩
  show CallOk P G f (rnL [] args') (rnT [] T) _
  rw [rnL_no hi]
  refine hc.mono fun r T' hp => ?_
  have : bkT [] T.length T [] T' = T ++ T'.map (bkO [] T.length) := by cases T' <;> simp [bkT]
  rw [this]
  exact hk r T' hp
theorem call_pure {R : AV} (hs : subL args args') (hi : idsL args' = []) (hc : CallOk P G f args' [] fun r T' => r = R ∧ T' = []) (hR : idsA R = []) (hk : K R T) : @callC P G f args T ⟨K⟩ :=
  call_post hs hi hc fun r T' ⟨h1, h2⟩ => by subst h1; subst h2; rw [bk_no hR]; simpa using hk
theorem call_new {R : AV} {T2 : Tab} (hs : subL args args') (hi : idsL args' = []) (hc : CallOk P G f args' [] fun r T' => r = R ∧ T' = T2) (hk : K (bkA [] T.length R) (T ++ T2.map (bkO [] T.length))) : @callC P G f args T ⟨K⟩ :=
  call_post hs hi hc fun r T' ⟨h1, h2⟩ => by subst h1; subst h2; exact hk
theorem call_lend {args2 : List AV} (hs : subL args args') (hl : lendL T args' = args2) (hi : idsL args2 = []) {post : AV → Tab → Prop} (hc : CallOk P G f args2 [] post)
    (hk : ∀ r T', post r T' → flatA r ∧ (∀ o ∈ T', flatO o) ∧ K (bkA [] T.length r) (T ++ T'.map (bkO [] T.length))) : @callC P G f args T ⟨K⟩ :=
  ⟨args', hs, .inr ⟨by rw [hl]; exact hi, by rw [hl]; exact hc.mono hk⟩⟩
theorem call_lend_pure {args2 : List AV} {x : Value} (hs : subL args args') (hl : lendL T args' = args2) (hi : idsL args2 = []) (hc : CallOk P G f args2 [] fun r T' => r = .v x ∧ T' = []) (hk : K (.v x) T) : @callC P G f args T ⟨K⟩ :=
  call_lend hs hl hi hc fun r T' ⟨h1, h2⟩ => by subst h1; subst h2; exact ⟨by simp [flatA], by simp, by simpa [bkA] using hk⟩
theorem call_on {L : List Nat} {args2 : List AV} {T2 : Tab} {post : AV → Tab → Prop} (hs : subL args args') (hL : (reach T (idsL args')).filter (· < T.length) = L) (ha : rnL L args' = args2) (hT : rnT L T = T2) (hc : CallOk P G f args2 T2 post)
    (hk : ∀ r T', post r T' → K (bkA L T.length r) (bkT L T.length T L T')) : @callC P G f args T ⟨K⟩ :=
  ⟨args', hs, .inl ⟨L, by subst hL; exact List.Pairwise.filter _ (reach_nodup _ _), fun i hi => by subst hL; simpa using (List.mem_filter.1 hi).2, by subst ha; subst hT; exact hc.mono hk⟩⟩
theorem call_at (L : List Nat) {args2 : List AV} {T2 : Tab} {post : AV → Tab → Prop} (hs : subL args args') (hn : L.Nodup) (hL : ∀ i ∈ L, i < T.length) (ha : rnL L args' = args2) (hT : rnT L T = T2) (hc : CallOk P G f args2 T2 post)
    (hk : ∀ r T', post r T' → K (bkA L T.length r) (bkT L T.length T L T')) : @callC P G f args T ⟨K⟩ :=
  ⟨args', hs, .inl ⟨L, hn, hL, by subst ha; subst hT; exact hc.mono hk⟩⟩
theorem call_in (L : List Nat) {args2 : List AV} {T2 : Tab} (hs : subL args args') (hn : L.Nodup) (hL : ∀ i ∈ L, i < T.length) (ha : rnL L args' = args2) (hT : rnT L T = T2) (hc : CallOk P G f args2 T2 fun r T' => K (bkA L T.length r) (bkT L T.length T L T')) : @callC P G f args T ⟨K⟩ :=
  ⟨args', hs, .inl ⟨L, hn, hL, by subst ha; subst hT; exact hc⟩⟩
end
theorem idsL_map {α : Type} {f : α → AV} {l : List α} (h : ∀ x, idsA (f x) = []) : idsL (l.map f) = [] := by
  induction l with
  | nil => rfl
  | cons x l ih => simp [idsL, h, ih]
@[go_sem] theorem idsL_app (a b : List AV) : idsL (a ++ b) = idsL a ++ idsL b := by
  induction a with
  | nil => rfl
  | cons c a ih => simp [idsL, ih]
@[go_sem] theorem idsL_mapv {α : Type} (f : α → Value) (l : List α) : idsL (l.map fun x => .v (f x)) = [] := idsL_map fun _ => rfl
@[go_sem] theorem rnL_app (L : List Nat) (a b : List AV) : rnL L (a ++ b) = rnL L a ++ rnL L b := by
  induction a with
  | nil => rfl
  | cons c a ih => simp [rnL, ih]
@[go_sem] theorem rnL_mapv {α : Type} (L : List Nat) (f : α → Value) (l : List α) : rnL L (l.map fun x => .v (f x)) = l.map fun x => .v (f x) := rnL_no (idsL_map fun _ => rfl)
@[go_sem] theorem bkL_app (L : List Nat) (n : Nat) (a b : List AV) : bkL L n (a ++ b) = bkL L n a ++ bkL L n b := by
  induction a with
  | nil => rfl
  | cons c a ih => simp [bkL, ih]
@[go_sem] theorem bkL_mapv {α : Type} (L : List Nat) (n : Nat) (f : α → Value) (l : List α) : bkL L n (l.map fun x => .v (f x)) = l.map fun x => .v (f x) := bkL_no (idsL_map fun _ => rfl)
@[go_sem] theorem flatL_mapv {α : Type} (f : α → Value) (l : List α) : flatL (l.map fun x => .v (f x)) = True := by
  induction l with
  | nil => rfl
  | cons c a ih => simp [flatL, flatA, ih]
end Hud
end
