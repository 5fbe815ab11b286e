import Derived.Test.YtialbdgcgiaebaaGreatLib18
set_option linter.all false
section
namespace Hud
def zk (k : Nat) : Fq := ⟨(NN - k) % PP, Nat.mod_lt _ PP_pos⟩
theorem zk_val {k : Nat} (hk : k ≤ 1000) : (zk k).val = 2305843009213693950 - k := by
  show (2305843009213693950 - k) % 2305843009213693951 = _
  omega
def zks (n : Nat) : List Fq := (List.range n).map zk
theorem zks_len (n : Nat) : (zks n).length = n := by simp [zks]
theorem zks_nodup {n : Nat} (hn : n ≤ 1000) : (zks n).Nodup := by
  unfold zks
  refine List.pairwise_map.2 ?_
  refine List.Pairwise.imp_of_mem (R := fun a b => a ≠ b) ?_ List.nodup_range
  intro a b ha hb hab e
  have ha := List.mem_range.1 ha
  have hb := List.mem_range.1 hb
  have h1 := zk_val (k := a) (by omega)
  have h2 := zk_val (k := b) (by omega)
  rw [e] at h1
  omega
def vl (L : List Fq) (t : Fq) : Fq := L.foldl (fun v x => v * (t - x)) 1
theorem vl_fold (t : Fq) : ∀ (L : List Fq) (c : Fq), L.foldl (fun v x => v * (t - x)) c = c * L.foldr (fun z a => (t - z) * a) 1
  | [], c => by simp only [List.foldl_nil, List.foldr_nil]; grind
  | z :: L, c => by
    simp only [List.foldl_cons, List.foldr_cons, vl_fold t L]
    grind
theorem vl_pr (L : List Fq) (t : Fq) : vl L t = ev (pr L) t := by
  rw [vl, vl_fold, pr_ev]
  grind
theorem vl_zero {L : List Fq} {t : Fq} : vl L t = 0 ↔ t ∈ L := by rw [vl_pr, pr_root]
theorem vl_app (t : Fq) (L M : List Fq) : vl (L ++ M) t = vl L t * vl M t := by
  unfold vl
  rw [List.foldl_append, vl_fold t M, vl_fold t M 1]
  grind
theorem vl_perm (t : Fq) {L M : List Fq} (h : L.Perm M) : vl L t = vl M t := by
  unfold vl
  refine h.foldl_eq' (fun x _ y _ z => ?_) 1
  generalize t - x = a
  generalize t - y = b
  grind
def InE (z : Fq) : Prop := 1 ≤ z.val ∧ z.val ≤ 1152921504606846976
theorem zk_notin {L : List Fq} (h : ∀ z ∈ L, InE z) {k : Nat} (hk : k ≤ 1000) : vl L (zk k) ≠ 0 := fun e => by
  have h1 := h _ (vl_zero.1 e)
  have h2 := zk_val hk
  unfold InE at h1
  omega
structure Fit (n : Nat) (A B : Nat → Fq) (d : Int) (x y : List Fq) : Prop where
  nx : x.Nodup
  ny : y.Nodup
  dis : ∀ z ∈ x, z ∉ y
  rx : ∀ z ∈ x, InE z
  ry : ∀ z ∈ y, InE z
  len : x.length + y.length + 2 ≤ n
  dif : (x.length : Int) - (y.length : Int) = d
  pts : ∀ k, k < n → A k * vl y (zk k) = B k * vl x (zk k)
def dotv : List Fq → List Fq → Fq
  | a :: r, b :: x => a * b + dotv r x
  | _, _ => 0
theorem dot_app : ∀ {r1 x1 : List Fq} (r2 x2 : List Fq), r1.length = x1.length → dotv (r1 ++ r2) (x1 ++ x2) = dotv r1 x1 + dotv r2 x2
  | [], [], r2, x2, _ => by simp only [List.nil_append, dotv]; grind
  | a :: r1, b :: x1, r2, x2, h => by
    simp only [List.cons_append, dotv, dot_app (r1 := r1) (x1 := x1) r2 x2 (by simpa using h)]
    generalize dotv r1 x1 = p
    generalize dotv r2 x2 = q
    grind
  | [], _ :: _, _, _, h => by simp at h
  | _ :: _, [], _, _, h => by simp at h
theorem f_pw0 (z c : Fq) : c * z ^ 0 = c := by grind
theorem f_pwS (z c : Fq) (n : Nat) : c * z ^ (n + 1) = (c * z) * z ^ n := by grind
theorem dot_pow (z : Fq) : ∀ (x : List Fq) (c : Fq), dotv ((List.range x.length).map fun i => c * z ^ i) x = c * ev x z
  | [], c => by simp only [List.length_nil, List.range_zero, List.map_nil, dotv, ev]; grind
  | b :: x, c => by
    have h := dot_pow z x (c * z)
    rw [List.length_cons, List.range_succ_eq_map]
    simp only [List.map_cons, List.map_map, dotv, f_pw0]
    have e : ((fun i => c * z ^ i) ∘ Nat.succ) = fun i => (c * z) * z ^ i := by funext i; exact f_pwS z c i
    rw [e, h, ev]
    generalize ev x z = y
    grind
def eqL (a b z : Fq) (one two : Nat) : List Fq := ((List.range one).map fun i => b * z ^ i) ++ ((List.range two).map fun i => (0 - a) * z ^ i)
def eqX (a b z : Fq) (one two : Nat) : Fq := (0 - b * z ^ one) + a * z ^ two
theorem eq_iff {a b z : Fq} {one two : Nat} {sol : List Fq} (h : sol.length = one + two) :
    dotv (eqL a b z one two) sol = eqX a b z one two ↔ b * ev (sol.take one ++ [1]) z = a * ev (sol.drop one ++ [1]) z := by
  have h1 : (sol.take one).length = one := by rw [List.length_take]; omega
  have h2 : (sol.drop one).length = two := by rw [List.length_drop]; omega
  have e : dotv (eqL a b z one two) sol = b * ev (sol.take one) z + (0 - a) * ev (sol.drop one) z := by
    have := dot_app (r1 := (List.range one).map fun i => b * z ^ i) (x1 := sol.take one) ((List.range two).map fun i => (0 - a) * z ^ i) (sol.drop one) (by simp [h1])
    rw [List.take_append_drop] at this
    rw [eqL, this]
    have k1 := dot_pow z (sol.take one) b
    have k2 := dot_pow z (sol.drop one) (0 - a)
    rw [h1] at k1
    rw [h2] at k2
    rw [k1, k2]
  rw [e, ev_snoc, ev_snoc, h1, h2, eqX]
  generalize ev (sol.take one) z = p
  generalize ev (sol.drop one) z = q
  generalize z ^ one = r
  generalize z ^ two = s
  constructor <;> intro h <;> grind
theorem rep0_ev (t : Fq) (l : List Fq) : ∀ j, ev (List.replicate j 0 ++ l) t = t ^ j * ev l t
  | 0 => by simp only [List.replicate_zero, List.nil_append]; grind
  | j + 1 => by
    simp only [List.replicate_succ, List.cons_append, ev, rep0_ev t l j]
    generalize ev l t = x
    grind
theorem fit_solves {n : Nat} {A B : Nat → Fq} {d : Int} {x y : List Fq} (h : Fit n A B d x y) (j : Nat) :
    ∃ sol : List Fq, sol.length = (x.length + j) + (y.length + j) ∧ ∀ k, k < n → dotv (eqL (A k) (B k) (zk k) (x.length + j) (y.length + j)) sol = eqX (A k) (B k) (zk k) (x.length + j) (y.length + j) := by
  obtain ⟨f, hf, hfl⟩ := pr_mon x
  obtain ⟨g, hg, hgl⟩ := pr_mon y
  refine ⟨(List.replicate j 0 ++ f) ++ (List.replicate j 0 ++ g), by simp [hfl, hgl]; omega, fun k hk => ?_⟩
  have hl : (List.replicate j 0 ++ f).length = x.length + j := by simp [hfl]; omega
  rw [eq_iff (by simp [hfl, hgl]; omega), List.take_left' hl, List.drop_left' hl, List.append_assoc, List.append_assoc, ← hf, ← hg, rep0_ev, rep0_ev, ← vl_pr, ← vl_pr]
  have := h.pts k hk
  generalize (zk k) ^ j = c
  generalize vl x (zk k) = p at *
  generalize vl y (zk k) = q at *
  generalize A k = a at *
  generalize B k = b at *
  grind
theorem mon_ext {m : Nat} {p q R : List Fq} (hp : mon m p) (hq : mon m q) (hR : m ≤ R.length) (hn : R.Nodup) (h : ∀ z ∈ R, ev p z = ev q z) : ∀ t, ev p t = ev q t := by
  obtain ⟨f, rfl, hf⟩ := hp
  obtain ⟨g, rfl, hg⟩ := hq
  have key := ev_ext (p := f) (q := g) (R := R) (by omega) (by omega) hn fun z hz => by
    have := h z hz
    rw [ev_snoc, ev_snoc, hf, hg] at this
    generalize z ^ m = c at this
    generalize ev f z = a at *
    generalize ev g z = b at *
    grind
  intro t
  rw [ev_snoc, ev_snoc, hf, hg, key t]
theorem mon_eq {m : Nat} {p q : List Fq} (hp : mon m p) (hq : mon m q) (hm : m + 1 ≤ PP) (h : ∀ t, ev p t = ev q t) : p = q :=
  list_of_ev (by rw [mon_len hp, mon_len hq]) (by rw [mon_len hp]; exact hm) h
theorem fq_mul_cancel {a x y : Fq} (ha : a ≠ 0) (h : a * x = a * y) : x = y := by
  have h2 : a * (x - y) = 0 := by grind
  rcases fq_zero h2 with h3 | h3
  · exact absurd h3 ha
  · grind
theorem gcd_quot {n m : Nat} {p q : List Fq} (hp : mon n p) (hq : mon m q) (hn : n ≤ 200) (hm : m ≤ 200) :
    ∃ e, e ≤ n ∧ e ≤ m ∧ mon e (gcdL p q) ∧ mon (n - e) (dm p (gcdL p q)).1 ∧ mon (m - e) (dm q (gcdL p q)).1 ∧ (∀ t, ev p t = ev (dm p (gcdL p q)).1 t * ev (gcdL p q) t) ∧ (∀ t, ev q t = ev (dm q (gcdL p q)).1 t * ev (gcdL p q) t) ∧
      ∃ u v : List Fq, u.length ≤ 50000 ∧ v.length ≤ 50000 ∧ ∀ t, ev (gcdL p q) t = ev u t * ev p t + ev v t * ev q t := by
  have lp := mon_len hp
  have lq := mon_len hq
  have hPP : PP = 2305843009213693951 := rfl
  obtain ⟨e, h1, h2, ⟨u, v, hu, hv, huv⟩, ⟨f, hf, hf2⟩, ⟨g, hg, hg2⟩⟩ := gcd_ok (L := 201) (a := p) (b := q) (by omega) (by omega) fun h => mon_nz hp h.1
  obtain ⟨_, k1, _, k2⟩ := dm_exact (h := f) h1 (mon_nz hp) (by omega) hf2
  obtain ⟨_, k3, _, k4⟩ := dm_exact (h := g) h1 (mon_nz hq) (by omega) hg2
  exact ⟨e, (k2 n hp).2, (k4 m hq).2, h1, (k2 n hp).1, (k4 m hq).1, k1, k3, u, v, by omega, by omega, huv⟩
theorem f_om' (a : Fq) : 1 * a = a := Fin.one_mul a
theorem rg1 (x1 x2 x3 x4 x5 : Fq) (h : x5 = x1 * (x3 * x5) + x2 * (x4 * x5)) : 0 = (x1 * x3 + x2 * x4 + -1) * x5 := by grind
theorem rg2 (x : Fq) (h : x + -1 = 0) : x = 1 := by grind
theorem rg3 (x3 x4 x5 x6 x7 : Fq) (h : x3 * x5 * x7 = x4 * x5 * x6) : 0 = (x3 * x7 + -1 * (x4 * x6)) * x5 := by grind
theorem rg4 (x y : Fq) (h : x + -1 * y = 0) : x = y := by grind
theorem rg5 (x4 x5 x6 x7 : Fq) (h : x5 * x6 * x7 = x4 * x6) : 0 = (x4 + -1 * (x5 * x7)) * x6 := by grind
theorem rg6 (b p q x y a : Fq) (e1 : b * p = a * q) (e2 : a * y = b * x) : b * (p * y) = b * (q * x) := by
  have e3 : b * p * y = a * q * y := by rw [e1]
  have e4 : a * y * q = b * x * q := by rw [e2]
  grind
theorem rg7 (u v r x y : Fq) : u * (r * x) + v * (r * y) = (u * x + v * y) * r := by grind
theorem quot_bez {n m : Nat} {p q : List Fq} (hp : mon n p) (hq : mon m q) (hn : n ≤ 200) (hm : m ≤ 200) :
    ∃ u v : List Fq, u.length ≤ 50000 ∧ v.length ≤ 50000 ∧ ∀ t, ev u t * ev (dm p (gcdL p q)).1 t + ev v t * ev (dm q (gcdL p q)).1 t = 1 := by
  obtain ⟨e, e1, e2, hg, k1, k2, k3, k4, u, v, hu, hv, huv⟩ := gcd_quot hp hq hn hm
  have hPP : PP = 2305843009213693951 := rfl
  have l1 := mon_len k1
  have l2 := mon_len k2
  refine ⟨u, v, hu, hv, fun t => ?_⟩
  have hw : ∀ t, ev (pa (pa (pm u (dm p (gcdL p q)).1) (pm v (dm q (gcdL p q)).1)) [-1]) t = ev u t * ev (dm p (gcdL p q)).1 t + ev v t * ev (dm q (gcdL p q)).1 t + -1 := fun t => by
    rw [pa_ev, pa_ev, pm_ev, pm_ev]; simp only [ev, f_mz, f_az]
  have hwl : (pa (pa (pm u (dm p (gcdL p q)).1) (pm v (dm q (gcdL p q)).1)) [-1]).length ≤ 60000 := by
    rw [pa_len, pa_len]
    have a1 := pm_len (dm p (gcdL p q)).1 u
    have a2 := pm_len (dm q (gcdL p q)).1 v
    have a3 : ([-1] : List Fq).length = 1 := rfl
    omega
  have hk := short_zero (m := e) (g := gcdL p q) (k := pa (pa (pm u (dm p (gcdL p q)).1) (pm v (dm q (gcdL p q)).1)) [-1]) (R := []) hg (Nat.zero_le _) (by omega) fun t => by
    rw [hw]
    have a1 := huv t
    rw [k3 t, k4 t] at a1
    exact rg1 _ _ _ _ _ a1
  have := ev_zp hk.1 t
  rw [hw] at this
  exact rg2 _ this
theorem quot_dis {n m : Nat} {p q : List Fq} (hp : mon n p) (hq : mon m q) (hn : n ≤ 200) (hm : m ≤ 200) {z : Fq} (h1 : ev (dm p (gcdL p q)).1 z = 0) (h2 : ev (dm q (gcdL p q)).1 z = 0) : False := by
  obtain ⟨u, v, _, _, h⟩ := quot_bez hp hq hn hm
  have := h z
  rw [h1, h2, f_mz, f_mz, f_az] at this
  exact fq10 this.symm
theorem fit_unique {n : Nat} {A B : Nat → Fq} {d : Int} {x y p q : List Fq} (h : Fit n A B d x y) (hn : n ≤ 64) (hA : ∀ k, k < n → A k ≠ 0) {one two : Nat} (hp : mon one p) (hq : mon two q) {j : Nat} (h1 : one = x.length + j) (h2 : two = y.length + j) (hall : one + two ≤ n)
    (he : ∀ k, k < one + two → B k * ev p (zk k) = A k * ev q (zk k)) : (dm p (gcdL p q)).1 = pr x ∧ (dm q (gcdL p q)).1 = pr y := by
  have hPP : PP = 2305843009213693951 := rfl
  have hx := pr_mon x
  have hy := pr_mon y
  have m1 := pm_mon hy hp
  have m2 := pm_mon hx hq
  have hB : ∀ k, k < n → B k ≠ 0 := fun k hk hb => by
    have := h.pts k hk
    rw [hb, f_zm] at this
    rcases fq_zero this with h3 | h3
    · exact hA k hk h3
    · exact zk_notin h.ry (by omega) h3
  have key : ∀ t, ev p t * ev (pr y) t = ev q t * ev (pr x) t := by
    have := mon_ext (m := one + y.length) (p := pm p (pr y)) (q := pm q (pr x)) (R := zks (one + two)) m1 (by rw [show one + y.length = two + x.length by omega]; exact m2) (by rw [zks_len]; omega) (zks_nodup (by omega)) fun z hz => by
      obtain ⟨k, hk, rfl⟩ := List.mem_map.1 hz
      have hk := List.mem_range.1 hk
      rw [pm_ev, pm_ev]
      have e1 := he k hk
      have e2 := h.pts k (by omega)
      rw [vl_pr, vl_pr] at e2
      have hb := hB k (by omega)
      exact fq_mul_cancel (a := B k) hb (rg6 _ _ _ _ _ _ e1 e2)
    intro t
    have := this t
    rwa [pm_ev, pm_ev] at this
  obtain ⟨e, g1, g2, hg, k1, k2, k3, k4, _⟩ := gcd_quot hp hq (by omega) (by omega)
  have l1 := mon_len k1
  have l2 := mon_len k2
  have lx := mon_len hx
  have ly := mon_len hy
  have key2 : ∀ t, ev (dm p (gcdL p q)).1 t * ev (pr y) t = ev (dm q (gcdL p q)).1 t * ev (pr x) t := by
    have hk := short_zero (m := e) (g := gcdL p q) (k := pa (pm (dm p (gcdL p q)).1 (pr y)) (ps (-1) (pm (dm q (gcdL p q)).1 (pr x)))) (R := []) hg (by simp) (by
        rw [pa_len, ps, List.length_map]
        have a1 := pm_len (pr y) (dm p (gcdL p q)).1
        have a2 := pm_len (pr x) (dm q (gcdL p q)).1
        omega) fun t => by
      have a1 := key t
      rw [k3 t, k4 t] at a1
      rw [pa_ev, ps_ev, pm_ev, pm_ev]
      exact rg3 _ _ _ _ _ a1
    intro t
    have := ev_zp hk.1 t
    rw [pa_ev, ps_ev, pm_ev, pm_ev] at this
    exact rg4 _ _ this
  have rx : ∀ z ∈ x, ev (dm p (gcdL p q)).1 z = 0 := fun z hz => by
    have := key2 z
    rw [pr_root.2 hz, f_mz] at this
    rcases fq_zero this with h3 | h3
    · exact h3
    · exact absurd (pr_root.1 h3) (h.dis z hz)
  have ry : ∀ z ∈ y, ev (dm q (gcdL p q)).1 z = 0 := fun z hz => by
    have := key2 z
    rw [pr_root.2 hz, f_mz] at this
    rcases fq_zero this.symm with h3 | h3
    · exact h3
    · exact absurd hz (h.dis z (pr_root.1 h3))
  have hxl := roots_le k1 h.nx rx
  have hyl := roots_le k2 h.ny ry
  have q1 := dm_mon k1 hx hxl (by omega)
  obtain ⟨ha, hb⟩ := q1
  generalize hP : (dm p (gcdL p q)).1 = P' at *
  generalize hQ : (dm q (gcdL p q)).1 = Q' at *
  obtain ⟨d1, d2, d3, d4, d5, d6⟩ := dm_ok (a := P') (b := pr x) (mon_nz hx)
  have hrz : zp (dm P' (pr x)).2 := zp_of_roots (R := x) (by rw [trimL_id (mon_tr hx), lx] at d2; omega) h.nx fun z hz => by
    have := d1 z
    rw [rx z hz, pr_root.2 hz, f_mz, f_za] at this
    exact this.symm
  have hfac : ∀ t, ev P' t = ev (dm P' (pr x)).1 t * ev (pr x) t := fun t => by
    have := d1 t
    rw [ev_zp hrz t, f_az] at this
    exact this
  generalize hr : (dm P' (pr x)).1 = r at *
  have hfac2 : ∀ t, ev Q' t = ev r t * ev (pr y) t := by
    have hk := short_zero (m := x.length) (g := pr x) (k := pa Q' (ps (-1) (pm r (pr y)))) (R := []) hx (by simp) (by
        rw [pa_len, ps, List.length_map]
        have a1 := pm_len (pr y) r
        have a2 := mon_len ha
        omega) fun t => by
      have a1 := key2 t
      rw [hfac t] at a1
      rw [pa_ev, ps_ev, pm_ev]
      exact rg5 _ _ _ _ a1
    intro t
    have := ev_zp hk.1 t
    rw [pa_ev, ps_ev, pm_ev] at this
    exact rg4 _ _ this
  obtain ⟨u, v, hu, hv, huv⟩ := quot_bez hp hq (by omega) (by omega)
  rw [hP, hQ] at huv
  have hf : one - e - x.length = 0 := by
    rcases Nat.eq_zero_or_pos (one - e - x.length) with h0 | h0
    · exact h0
    · have hk := short_zero (m := one - e - x.length) (g := r) (k := pa (pm u (pr x)) (pm v (pr y))) (R := [1]) ha h0 (by
          rw [pa_len]
          have a1 := pm_len (pr x) u
          have a2 := pm_len (pr y) v
          omega) fun t => by
        rw [pa_ev, pm_ev, pm_ev, ← rg7, ← hfac t, ← hfac2 t, huv t]
        simp only [ev, f_mz, f_az]
      exact absurd (hk.2 1 (List.mem_singleton.2 rfl)) fq10
  rw [hf] at ha
  obtain ⟨f, hfr, hf0⟩ := ha
  obtain rfl : f = [] := List.eq_nil_of_length_eq_zero hf0
  have hr1 : ∀ t, ev r t = 1 := fun t => by rw [hfr]; simp only [List.nil_append, ev, f_mz, f_az]
  constructor
  · refine mon_eq (m := x.length) ?_ hx (by omega) fun t => by rw [hfac t, hr1, f_om']
    rw [show x.length = one - e by omega]; exact k1
  · refine mon_eq (m := y.length) ?_ hy (by omega) fun t => by rw [hfac2 t, hr1, f_om']
    rw [show y.length = two - e by omega]; exact k2
end Hud
end
section
namespace Hud
open Go
theorem pbin_subPt (k : Nat) (h : k ≤ 1000) : pbin .sub (.int .u64 2305843009213693950) (.int .u64 (k : Int)) = some (.int .u64 ((2305843009213693950 - k : Nat) : Int)) := pbin_subU 2305843009213693950 k (by omega) (by decide)
def SV (l : List Fq) (n : Nat) : List Fq := (List.range n).map fun k => vl l (zk k)
theorem SV_len (l : List Fq) (n : Nat) : (SV l n).length = n := by simp [SV]
theorem SV_succ (l : List Fq) (n : Nat) : SV l (n + 1) = SV l n ++ [vl l (zk n)] := by simp [SV, List.range_succ]
theorem SV_get (l : List Fq) (n k : Nat) (h : k < n) : (fl (SV l n))[k]? = some [.v (fu (vl l (zk k)))] := by simp [fl, SV, h]
theorem vl_take (l : List Fq) (t : Fq) (j : Nat) (h : j < l.length) : vl (l.take (j + 1)) t = vl (l.take j) t * (t - l[j]) := by
  rw [List.take_succ_eq_append_getElem h, vl, List.foldl_append]; rfl
section
variable {G : Nat → Option (List AV)}
set_option maxHeartbeats 2000000
theorem k_point (k : Nat) (h : k ≤ 1000) : CallOk Go.Proofs.Tryz.prog G n_sketch_point [.v (.int .i64 (k : Int))] [] fun r T => r = .v (fu (zk k)) ∧ T = [] := by
  refine fun_okH h_sketch_point_ok (by decide) ?_
  unfold h_sketch_point
  simp only [go_sem, ↓reduceIte, u64_wrap k (by omega), ↓pbin_subPt k h, ← zk_val h]
theorem k_Of (l : List Fq) (n : Nat) (hl : l.length ≤ 1000000) (hn : n ≤ 1000) : CallOk Go.Proofs.Tryz.prog G n_sketch_Of [.ls 1 (fl l), .v (.int .i64 (n : Int))] [] fun r T => r = .ag [.v (.int .i64 (l.length : Int)), .ls 1 (fl (SV l n))] ∧ T = [] := by
  have key : CallOk Go.Proofs.Tryz.prog G n_sketch_Of [.ls 1 (fl l), .v (.int .i64 (n : Int))] [] fun r T => r = .ag [.v (.int .i64 (l.length : Int)), .own 0] ∧ T = [some (.arr 1 (fl (SV l n)))] := by
    refine fun_okH h_sketch_Of_ok (by decide) ?_
    unfold h_sketch_Of
    simp only [go_sem, ↓reduceIte, List.length_map]
    refine loop_up n (fun i => ⟨0, [(0, .ls 1 (fl l)), (4, .ptr 0 0), (5, .ptr 1 0), (13, .v (.int .i64 n)), (14, .v (.int .i64 i))], [some (.box [.v (.int .i64 0), .v (.slice none 0 0)]), some (.box [.v (.int .i64 (l.length : Int)), .own 2]), some (.arr 1 (fl (SV l i)))]⟩) (fun _ => True) ?_ trivial ?_ ?_
    · simp only [go_sem, ↓reduceIte, SV]
    · intro i hi _
      have b1 : (i + 1) * 8 ≤ 140737488355328 := by omega
      have b2 : i + 1 ≤ maxLen := by unfold maxLen; omega
      simp only [go_sem, ↓reduceIte, dlt_t hi, List.length_map]
      refine loop_up l.length (fun j => ⟨0, [(0, .ls 1 (fl l)), (4, .ptr 0 0), (5, .ptr 1 0), (6, .v (.int .i64 i)), (7, .v (fu (vl (l.take j) (zk i)))), (13, .v (.int .i64 n)), (14, .v (.int .i64 i)), (17, .ls 1 (fl l)), (18, .v (.int .i64 l.length)), (19, .v (.int .i64 j))], [some (.box [.v (.int .i64 0), .v (.slice none 0 0)]), some (.box [.v (.int .i64 (l.length : Int)), .own 2]), some (.arr 1 (fl (SV l i)))]⟩) (fun _ => True) ?_ trivial ?_ ?_
      · simp only [go_sem, ↓reduceIte]
        rfl
      · intro j hj _
        simp only [go_sem, ↓reduceIte, dlt_t hj, fl_get l j hj]
        refine call_pure (subL_refl _) rfl (k_point i (by omega)) rfl ?_
        simp only [go_sem, ↓reduceIte]
        refine call_pure (subL_refl _) rfl (f_Sub (zk i) l[j]) rfl ?_
        simp only [go_sem, ↓reduceIte]
        refine call_pure (subL_refl _) rfl (f_Mul (vl (l.take j) (zk i)) (zk i - l[j])) rfl ?_
        simp only [go_sem, ↓reduceIte, wrap_suc (show j < 9223372036854775807 by omega), vl_take l (zk i) j hj]
      · intro _
        simp only [go_sem, ↓reduceIte, dlt_f (Nat.lt_irrefl _), List.take_length, SV_len, b1, b2, wrap_suc (show i < 9223372036854775807 by omega), SV_succ]
    · intro _
      simp only [go_sem, ↓reduceIte, dlt_f (Nat.lt_irrefl _)]
  refine key.fin [0] ?_
  rintro r T' ⟨rfl, rfl⟩
  simp only [go_sem, ↓reduceIte]
theorem f_ne {a b : Fq} (h : (((a.val : Nat) : Int) != ((b.val : Nat) : Int)) = true) : a ≠ b := fun e => by rw [e] at h; simp at h
theorem f_eq {a b : Fq} (h : (((a.val : Nat) : Int) != ((b.val : Nat) : Int)) = false) : a = b := Fin.ext (by simp at h; omega)
theorem fl_getD' (l : List Fq) (k : Nat) (h : k < l.length) : (fl l)[k]? = some [.v (fu (l.getD k 0))] := by simp [fl, h, List.getD_eq_getElem?_getD]
theorem k_fit (x y A B : List Fq) (N M : Int) (n : Nat) (hx : x.length ≤ 1000000) (hy : y.length ≤ 1000000) (hn : n ≤ 1000) (hA : A.length = n) (hB : B.length = n) : CallOk Go.Proofs.Tryz.prog G n_sketch_fit [.ls 1 (fl x), .ls 1 (fl y), .ag [.v (.int .i64 N), .ls 1 (fl A)], .ag [.v (.int .i64 M), .ls 1 (fl B)]] [] fun r T =>
    (∃ t : Bool, r = .v (.bool t) ∧ (t = true ↔ ∀ k, k < n → A.getD k 0 * vl y (zk k) = B.getD k 0 * vl x (zk k))) ∧ T = [] := by
  refine fun_okH h_sketch_fit_ok (by decide) ?_
  unfold h_sketch_fit
  simp only [go_sem, ↓reduceIte, List.length_map, hA]
  refine call_pure (subL_refl _) rfl (k_Of x n hx hn) rfl ?_
  simp only [go_sem, ↓reduceIte, List.length_map, hA]
  refine call_pure (subL_refl _) rfl (k_Of y n hy hn) rfl ?_
  simp only [go_sem, ↓reduceIte, List.length_map, hA]
  refine loop_up n (fun i => ⟨0, [(6, .ptr 0 0), (7, .ptr 1 0), (9, .ls 1 (fl (SV x n))), (10, .ls 1 (fl (SV y n))), (26, .v (.int .i64 n)), (27, .v (.int .i64 i))], [some (.box [.v (.int .i64 N), .ls 1 (fl A)]), some (.box [.v (.int .i64 M), .ls 1 (fl B)])]⟩) (fun i => ∀ k, k < i → A.getD k 0 * vl y (zk k) = B.getD k 0 * vl x (zk k)) ?_ (fun k hk => absurd hk (Nat.not_lt_zero _)) ?_ ?_
  · simp only [go_sem, ↓reduceIte]
  · intro i hi hj
    have g1 := fl_getD' A i (by omega)
    have g2 := fl_getD' B i (by omega)
    have g3 := SV_get x n i hi
    have g4 := SV_get y n i hi
    simp only [go_sem, ↓reduceIte, dlt_t hi, g1, g2, g3, g4]
    refine call_pure (subL_refl _) rfl (f_Mul (A.getD i 0) (vl y (zk i))) rfl ?_
    simp only [go_sem, ↓reduceIte, g1, g2, g3, g4]
    refine call_pure (subL_refl _) rfl (f_Mul (B.getD i 0) (vl x (zk i))) rfl ?_
    simp only [go_sem, ↓reduceIte]
    refine condW_i (fun h => ?_) (fun h => ?_)
    · simp only [go_sem, ↓reduceIte]
      exact ⟨false, rfl, by simp only [Bool.false_eq_true, false_iff]; exact fun h2 => f_ne h (h2 i hi)⟩
    · simp only [go_sem, ↓reduceIte, wrap_suc (show i < 9223372036854775807 by omega)]
      refine fun k hk => ?_
      rcases Nat.lt_or_ge k i with h1 | h1
      · exact hj k h1
      · obtain rfl : k = i := by omega
        exact f_eq h
  · intro hj
    simp only [go_sem, ↓reduceIte, dlt_f (Nat.lt_irrefl _)]
    exact ⟨true, rfl, by simp only [true_iff]; exact hj⟩
end
end Hud
end
section
namespace Hud
def ent (rows : List (List Fq)) (i c : Nat) : Fq := (rows.getD i []).getD c 0
def Sat (n : Nat) (x row : List Fq) : Prop := dotv (row.take n) x = row.getD n 0
def Sol (n : Nat) (rows : List (List Fq)) (x : List Fq) : Prop := ∀ i, i < rows.length → Sat n x (rows.getD i [])
theorem f_ss (a : Fq) : a - a = 0 := by grind
theorem f_s0 (a : Fq) : a - 0 = a := by grind
theorem f_sm1 (a : Fq) : a - a * 1 = 0 := by grind
theorem dot_map (v : Fq) : ∀ (r x : List Fq), dotv (r.map (· * v)) x = dotv r x * v
  | [], x => by simp only [List.map_nil, dotv, f_zm]
  | a :: r, [] => by simp only [List.map_cons, dotv, f_zm]
  | a :: r, b :: x => by
    simp only [List.map_cons, dotv, dot_map v r x]
    generalize dotv r x = y
    grind
def lessV (t : Fq) (r s : List Fq) : List Fq := List.zipWith (fun a b => a - t * b) r s
theorem dot_less (t : Fq) : ∀ (r s x : List Fq), r.length = s.length → dotv (lessV t r s) x = dotv r x - t * dotv s x
  | [], [], x, _ => by simp only [lessV, List.zipWith_nil_left, dotv, f_mz, f_ss]
  | a :: r, b :: s, [], _ => by simp only [lessV, List.zipWith_cons_cons, dotv, f_mz, f_ss]
  | a :: r, b :: s, c :: x, h => by
    have := dot_less t r s x (by simpa using h)
    simp only [lessV] at this ⊢
    simp only [List.zipWith_cons_cons, dotv, this]
    generalize dotv r x = y
    generalize dotv s x = z
    grind
  | [], _ :: _, _, h => by simp at h
  | _ :: _, [], _, h => by simp at h
theorem less_get (t : Fq) (r s : List Fq) (h : r.length = s.length) (c : Nat) : (lessV t r s).getD c 0 = r.getD c 0 - t * s.getD c 0 := by
  simp only [lessV, List.getD_eq_getElem?_getD, List.getElem?_zipWith]
  rcases Nat.lt_or_ge c r.length with h1 | h1
  · rw [List.getElem?_eq_getElem h1, List.getElem?_eq_getElem (by omega)]; rfl
  · rw [List.getElem?_eq_none h1, List.getElem?_eq_none (by omega)]; simp only [Option.getD_none, f_mz, f_ss]
theorem less_len (t : Fq) (r s : List Fq) (h : r.length = s.length) : (lessV t r s).length = r.length := by simp [lessV, h]
theorem map_get (v : Fq) (r : List Fq) (c : Nat) : (r.map (· * v)).getD c 0 = r.getD c 0 * v := by
  simp only [List.getD_eq_getElem?_getD, List.getElem?_map]
  cases r[c]? with
  | none => simp only [Option.map_none, Option.getD_none, f_zm]
  | some a => rfl
theorem sat_scale {n : Nat} {x r : List Fq} {v : Fq} (hv : v ≠ 0) : Sat n x (r.map (· * v)) ↔ Sat n x r := by
  unfold Sat
  rw [← List.map_take, dot_map, map_get]
  constructor
  · intro h
    exact fq_mul_cancel hv (by rw [f_mcom v, f_mcom v]; exact h)
  · intro h; rw [h]
where f_mcom (a b : Fq) : a * b = b * a := by grind
theorem sat_less {n : Nat} {x r s : List Fq} {t : Fq} (h : r.length = s.length) (hs : Sat n x s) : Sat n x (lessV t r s) ↔ Sat n x r := by
  unfold Sat at *
  have e : (lessV t r s).take n = lessV t (r.take n) (s.take n) := by simp only [lessV, List.take_zipWith]
  rw [e, dot_less t _ _ _ (by simp [h]), less_get t r s h, hs]
  generalize dotv (r.take n) x = y
  generalize r.getD n 0 = z
  generalize t * s.getD n 0 = w
  constructor <;> intro h <;> grind
theorem getD_setL {α : Type} (l : List α) (i j : Nat) (x d : α) (h : i < l.length) : (l.set i x).getD j d = if i = j then x else l.getD j d := by
  simp only [List.getD_eq_getElem?_getD, List.getElem?_set, h, if_true]
  by_cases e : i = j <;> simp [e]
structure GE (n c : Nat) (rows : List (List Fq)) (pv : List Nat) : Prop where
  len : ∀ i, i < rows.length → (rows.getD i []).length = n + 1
  rk : pv.length ≤ rows.length
  lt : ∀ j, j < pv.length → pv.getD j 0 < c
  cn : c ≤ n
  one : ∀ j, j < pv.length → ∀ i, i < rows.length → ent rows i (pv.getD j 0) = if i = j then 1 else 0
  zero : ∀ i, pv.length ≤ i → i < rows.length → ∀ d, d < c → ent rows i d = 0
theorem ge_init {n : Nat} {rows : List (List Fq)} (h : ∀ i, i < rows.length → (rows.getD i []).length = n + 1) : GE n 0 rows [] :=
  ⟨h, Nat.zero_le _, fun j hj => absurd hj (Nat.not_lt_zero _), Nat.zero_le _, fun j hj => absurd hj (Nat.not_lt_zero _), fun _ _ _ d hd => absurd hd (Nat.not_lt_zero _)⟩
theorem ge_skip {n c : Nat} {rows : List (List Fq)} {pv : List Nat} (h : GE n c rows pv) (hc : c < n) (h0 : ∀ i, pv.length ≤ i → i < rows.length → ent rows i c = 0) : GE n (c + 1) rows pv :=
  ⟨h.len, h.rk, fun j hj => Nat.lt_succ_of_lt (h.lt j hj), hc, h.one, fun i h1 h2 d hd => by
    rcases Nat.lt_or_ge d c with h3 | h3
    · exact h.zero i h1 h2 d h3
    · obtain rfl : d = c := by omega
      exact h0 i h1 h2⟩
def swapR (rows : List (List Fq)) (r k : Nat) : List (List Fq) := (rows.set r (rows.getD k [])).set k (rows.getD r [])
theorem swapR_len (rows : List (List Fq)) (r k : Nat) : (swapR rows r k).length = rows.length := by simp [swapR]
theorem swapR_get (rows : List (List Fq)) {r k : Nat} (hr : r < rows.length) (hk : k < rows.length) (i : Nat) : (swapR rows r k).getD i [] = rows.getD (if i = k then r else if i = r then k else i) [] := by
  rw [swapR, getD_setL _ _ _ _ _ (by simpa using hk), getD_setL _ _ _ _ _ hr]
  by_cases h1 : k = i
  · simp [h1]
  · by_cases h2 : r = i
    · simp [h1, h2, Ne.symm h1]
    · simp [h1, h2, Ne.symm h1, Ne.symm h2]
theorem sol_swap {n : Nat} {rows : List (List Fq)} {r k : Nat} (hr : r < rows.length) (hk : k < rows.length) {x : List Fq} : Sol n (swapR rows r k) x ↔ Sol n rows x := by
  constructor
  · intro h i hi
    have := h (if i = k then r else if i = r then k else i) (by rw [swapR_len]; split; exact hr; split; exact hk; exact hi)
    rw [swapR_get rows hr hk] at this
    have e : (if (if i = k then r else if i = r then k else i) = k then r else if (if i = k then r else if i = r then k else i) = r then k else (if i = k then r else if i = r then k else i)) = i := by
      by_cases h1 : i = k
      · by_cases h2 : r = k <;> simp [h1, h2]
      · by_cases h2 : i = r
        · simp [h2]
        · simp [h1, h2]
    rwa [e] at this
  · intro h i hi
    rw [swapR_get rows hr hk]
    rw [swapR_len] at hi
    exact h _ (by split; exact hr; split; exact hk; exact hi)
def scaleR (rows : List (List Fq)) (k : Nat) (v : Fq) : List (List Fq) := rows.set k ((rows.getD k []).map (· * v))
theorem sol_scale {n : Nat} {rows : List (List Fq)} {k : Nat} (hk : k < rows.length) {v : Fq} (hv : v ≠ 0) {x : List Fq} : Sol n (scaleR rows k v) x ↔ Sol n rows x := by
  unfold Sol scaleR
  rw [List.length_set]
  refine forall_congr' fun i => forall_congr' fun hi => ?_
  rw [getD_setL _ _ _ _ _ hk]
  split
  · rename_i e; subst e; exact sat_scale hv
  · rfl
def elimR (rows : List (List Fq)) (k c : Nat) : Nat → List (List Fq)
  | 0 => rows
  | i + 1 => if i = k then elimR rows k c i else (elimR rows k c i).set i (lessV (ent (elimR rows k c i) i c) ((elimR rows k c i).getD i []) ((elimR rows k c i).getD k []))
theorem elim_len (rows : List (List Fq)) (k c : Nat) : ∀ i, (elimR rows k c i).length = rows.length
  | 0 => rfl
  | i + 1 => by rw [elimR]; split <;> simp [elim_len rows k c i]
theorem elim_get (rows : List (List Fq)) {k c n : Nat} (hk : k < rows.length) (hl : ∀ i, i < rows.length → (rows.getD i []).length = n + 1) : ∀ i, i ≤ rows.length → ∀ j, (elimR rows k c i).getD j [] = if j < i ∧ j ≠ k then lessV (ent rows j c) (rows.getD j []) (rows.getD k []) else rows.getD j []
  | 0, _, j => by simp [elimR]
  | i + 1, hi, j => by
    have ih := elim_get rows (c := c) hk hl i (by omega)
    rw [elimR]
    by_cases h1 : i = k
    · rw [if_pos h1, ih]
      by_cases h2 : j < i ∧ j ≠ k
      · rw [if_pos h2, if_pos ⟨by omega, h2.2⟩]
      · rw [if_neg h2, if_neg (by omega)]
    · rw [if_neg h1, getD_setL _ _ _ _ _ (by rw [elim_len]; omega)]
      have ei : (elimR rows k c i).getD i [] = rows.getD i [] := by rw [ih, if_neg (by omega)]
      have ek : (elimR rows k c i).getD k [] = rows.getD k [] := by rw [ih, if_neg (by omega)]
      by_cases h2 : i = j
      · subst h2
        rw [if_pos rfl, if_pos ⟨by omega, h1⟩, ent, ei, ek, ent]
      · rw [if_neg h2, ih]
        by_cases h3 : j < i ∧ j ≠ k
        · rw [if_pos h3, if_pos ⟨by omega, h3.2⟩]
        · rw [if_neg h3, if_neg (by omega)]
theorem sol_elim {n : Nat} {rows : List (List Fq)} {k c : Nat} (hk : k < rows.length) (hl : ∀ i, i < rows.length → (rows.getD i []).length = n + 1) {x : List Fq} : Sol n (elimR rows k c rows.length) x ↔ Sol n rows x := by
  have hg := elim_get rows (c := c) hk hl rows.length (Nat.le_refl _)
  unfold Sol
  rw [elim_len]
  constructor
  · intro h i hi
    have hkk := h k hk
    rw [hg, if_neg (by omega)] at hkk
    by_cases e : i = k
    · subst e; exact hkk
    · have := h i hi
      rw [hg, if_pos ⟨hi, e⟩] at this
      exact (sat_less (by rw [hl i hi, hl k hk]) hkk).1 this
  · intro h i hi
    rw [hg]
    split
    · exact (sat_less (by rw [hl i hi, hl k hk]) (h k hk)).2 (h i hi)
    · exact h i hi
theorem fq_inv_ne {a : Fq} (h : a ≠ 0) : inv a ≠ 0 := fun e => by have := inv_mul h; rw [e, f_mz] at this; exact fq10 this.symm
def stepR (rows : List (List Fq)) (r k c : Nat) : List (List Fq) := elimR (scaleR (swapR rows r k) k (inv (ent (swapR rows r k) k c))) k c rows.length
theorem ge_step {n c r : Nat} {rows : List (List Fq)} {pv : List Nat} (h : GE n c rows pv) (hc : c < n) (hr : pv.length ≤ r) (hr2 : r < rows.length) (hne : ent rows r c ≠ 0) :
    GE n (c + 1) (stepR rows r pv.length c) (pv ++ [c]) ∧ (stepR rows r pv.length c).length = rows.length ∧ ∀ x, Sol n (stepR rows r pv.length c) x ↔ Sol n rows x := by
  have hk : pv.length < rows.length := by omega
  generalize hkk : pv.length = k at *
  have hl1 : ∀ i, i < rows.length → ((swapR rows r k).getD i []).length = n + 1 := fun i hi => by
    rw [swapR_get rows hr2 hk]
    exact h.len _ (by split; exact hr2; split; exact hk; exact hi)
  have e1 : ent (swapR rows r k) k c = ent rows r c := by rw [ent, swapR_get rows hr2 hk, if_pos rfl]; rfl
  have hs2 : (scaleR (swapR rows r k) k (inv (ent (swapR rows r k) k c))).length = rows.length := by rw [scaleR, List.length_set, swapR_len]
  have hg2 : ∀ i, (scaleR (swapR rows r k) k (inv (ent (swapR rows r k) k c))).getD i [] = if k = i then (rows.getD r []).map (· * inv (ent rows r c)) else (swapR rows r k).getD i [] := fun i => by
    rw [scaleR, getD_setL _ _ _ _ _ (by rw [swapR_len]; exact hk), e1, swapR_get rows hr2 hk k, if_pos rfl]
  have hl2 : ∀ i, i < rows.length → ((scaleR (swapR rows r k) k (inv (ent (swapR rows r k) k c))).getD i []).length = n + 1 := fun i hi => by
    rw [hg2]
    split
    · rw [List.length_map, h.len r hr2]
    · exact hl1 i hi
  have hlen : (stepR rows r k c).length = rows.length := by rw [stepR, elim_len, hs2]
  have hg3 : ∀ i, (stepR rows r k c).getD i [] = if i < rows.length ∧ i ≠ k then lessV (ent (scaleR (swapR rows r k) k (inv (ent (swapR rows r k) k c))) i c) ((scaleR (swapR rows r k) k (inv (ent (swapR rows r k) k c))).getD i []) ((scaleR (swapR rows r k) k (inv (ent (swapR rows r k) k c))).getD k []) else (scaleR (swapR rows r k) k (inv (ent (swapR rows r k) k c))).getD i [] := fun i => by
    have := elim_get (scaleR (swapR rows r k) k (inv (ent (swapR rows r k) k c))) (c := c) (n := n) (by rw [hs2]; exact hk) (by rw [hs2]; exact hl2) rows.length (by rw [hs2]; exact Nat.le_refl _) i
    exact this
  have hsol : ∀ x, Sol n (stepR rows r k c) x ↔ Sol n rows x := fun x => by
    have a1 := sol_elim (n := n) (rows := scaleR (swapR rows r k) k (inv (ent (swapR rows r k) k c))) (c := c) (k := k) (by rw [hs2]; exact hk) (by rw [hs2]; exact hl2) (x := x)
    rw [hs2] at a1
    rw [stepR, a1, sol_scale (by rw [swapR_len]; exact hk) (by rw [e1]; exact fq_inv_ne hne), sol_swap hr2 hk]
  generalize hS : scaleR (swapR rows r k) k (inv (ent (swapR rows r k) k c)) = S at *
  have ek : ∀ d, ent S k d = ent rows r d * inv (ent rows r c) := fun d => by rw [ent, hg2, if_pos rfl, map_get]; rfl
  have eo : ∀ i, i ≠ k → ∀ d, ent S i d = ent rows (if i = r then k else i) d := fun i hi d => by
    rw [ent, hg2, if_neg (Ne.symm hi), swapR_get rows hr2 hk, if_neg hi]; rfl
  have et : ∀ i, i < rows.length → i ≠ k → ∀ d, ent (stepR rows r k c) i d = ent S i d - ent S i c * ent S k d := fun i hi hik d => by
    rw [ent, hg3, if_pos ⟨hi, hik⟩, less_get _ _ _ (by rw [hl2 i hi, hl2 k hk])]; rfl
  have etk : ∀ d, ent (stepR rows r k c) k d = ent S k d := fun d => by rw [ent, hg3, if_neg (by simp)]; rfl
  have ekc : ent S k c = 1 := by rw [ek, inv_mul hne]
  have ez : ∀ d, d < c → ent S k d = 0 := fun d hd => by rw [ek, h.zero r (by omega) hr2 d hd, f_zm]
  refine ⟨⟨?_, ?_, ?_, hc, ?_, ?_⟩, hlen, hsol⟩
  · intro i hi
    rw [hlen] at hi
    rw [hg3]
    split
    · rw [less_len _ _ _ (by rw [hl2 i hi, hl2 k hk]), hl2 i hi]
    · exact hl2 i hi
  · rw [hlen, List.length_append, hkk]; simp; omega
  · intro j hj
    rw [List.length_append, hkk] at hj
    rcases Nat.lt_or_ge j k with h1 | h1
    · have : (pv ++ [c]).getD j 0 = pv.getD j 0 := by simp [List.getD_eq_getElem?_getD, List.getElem?_append, show j < pv.length by omega]
      rw [this]
      have := h.lt j (by omega)
      omega
    · have : (pv ++ [c]).getD j 0 = c := by
        have : j = pv.length := by simp at hj; omega
        simp [List.getD_eq_getElem?_getD, this]
      omega
  · intro j hj i hi
    rw [hlen] at hi
    rw [List.length_append, hkk] at hj
    rcases Nat.lt_or_ge j k with h1 | h1
    · have e : (pv ++ [c]).getD j 0 = pv.getD j 0 := by simp [List.getD_eq_getElem?_getD, List.getElem?_append, show j < pv.length by omega]
      rw [e]
      have hlt := h.lt j (by omega)
      by_cases hik : i = k
      · subst hik
        rw [etk, ez _ hlt, if_neg (by omega)]
      · rw [et i hi hik, ez _ hlt, f_mz, eo i hik]
        have := h.one j (by omega) (if i = r then k else i) (by split <;> omega)
        rw [this]
        by_cases e2 : i = r
        · subst e2
          rw [if_pos rfl, if_neg (by omega), if_neg (by omega), f_ss]
        · rw [if_neg e2, f_s0]
    · have hjk : j = pv.length := by simp at hj; omega
      have e : (pv ++ [c]).getD j 0 = c := by simp [List.getD_eq_getElem?_getD, hjk]
      rw [e]
      by_cases hik : i = k
      · subst hik
        rw [etk, ekc, if_pos (by omega)]
      · rw [et i hi hik, ekc, if_neg (by omega), f_sm1]
  · intro i h1 h2 d hd
    rw [List.length_append, hkk] at h1
    rw [hlen] at h2
    have hik : i ≠ k := by simp at h1; omega
    rw [et i h2 hik]
    rcases Nat.lt_or_ge d c with h3 | h3
    · rw [ez d h3, f_mz, eo i hik, h.zero _ (by split <;> simp at h1 <;> omega) (by split <;> omega) d h3, f_ss]
    · obtain rfl : d = c := by omega
      rw [ekc, f_sm1]
def ansR (n : Nat) (rows : List (List Fq)) (pv : List Nat) : Nat → List Fq
  | 0 => List.replicate n 0
  | j + 1 => (ansR n rows pv j).set (pv.getD j 0) (ent rows j n)
theorem ans_len (n : Nat) (rows : List (List Fq)) (pv : List Nat) : ∀ j, (ansR n rows pv j).length = n
  | 0 => by simp [ansR]
  | j + 1 => by rw [ansR, List.length_set, ans_len n rows pv j]
theorem dot_rep (r : List Fq) : ∀ n, dotv r (List.replicate n 0) = 0 := by
  induction r with
  | nil => intro n; cases n <;> simp [dotv, List.replicate]
  | cons a r ih =>
    intro n
    cases n with
    | zero => simp [dotv]
    | succ n => simp only [List.replicate_succ, dotv, ih, f_mz, f_az]
theorem dot_set (v : Fq) : ∀ (r x : List Fq) (c : Nat), c < x.length → r.length = x.length → dotv r (x.set c v) = dotv r x + r.getD c 0 * (v - x.getD c 0)
  | a :: r, b :: x, 0, _, _ => by
    simp only [List.set_cons_zero, dotv, List.getD_cons_zero]
    generalize dotv r x = y
    grind
  | a :: r, b :: x, c + 1, h, hl => by
    simp only [List.set_cons_succ, dotv, List.getD_cons_succ, dot_set v r x c (by simpa using h) (by simpa using hl)]
    generalize dotv r x = y
    generalize r.getD c 0 * (v - x.getD c 0) = z
    grind
  | [], _ :: _, _, _, h => by simp at h
  | _, [], _, h, _ => by simp at h
theorem dot_zero : ∀ (r x : List Fq), (∀ d, d < r.length → r.getD d 0 = 0) → dotv r x = 0
  | [], x, _ => by simp [dotv]
  | a :: r, [], _ => by simp [dotv]
  | a :: r, b :: x, h => by
    have h0 := h 0 (by simp)
    simp only [List.getD_cons_zero] at h0
    simp only [dotv, h0, f_zm, f_za]
    exact dot_zero r x fun d hd => by have := h (d + 1) (by simpa using hd); simpa using this
theorem ge_nodup {n c : Nat} {rows : List (List Fq)} {pv : List Nat} (h : GE n c rows pv) {i j : Nat} (hi : i < pv.length) (hj : j < pv.length) (e : pv.getD i 0 = pv.getD j 0) : i = j := by
  have h1 := h.one i hi i (by have := h.rk; omega)
  have h2 := h.one j hj i (by have := h.rk; omega)
  rw [if_pos rfl, e, h2] at h1
  by_cases hij : i = j
  · exact hij
  · rw [if_neg hij] at h1; exact absurd h1.symm fq10
theorem ans_get {n : Nat} {rows : List (List Fq)} {pv : List Nat} (h : GE n n rows pv) : ∀ j, j ≤ pv.length → ∀ i, j ≤ i → i < pv.length → (ansR n rows pv j).getD (pv.getD i 0) 0 = 0
  | 0, _, i, _, hi => by
    have := h.lt i hi
    generalize pv.getD i 0 = q at this ⊢
    simp [ansR, List.getD_eq_getElem?_getD, this]
  | j + 1, hj, i, hji, hi => by
    rw [ansR, getD_setL _ _ _ _ _ (by rw [ans_len]; exact h.lt j (by omega)), if_neg (fun e => by have := ge_nodup h (i := j) (j := i) (by omega) hi e; omega)]
    exact ans_get h j (by omega) i (by omega) hi
theorem ans_dot {n : Nat} {rows : List (List Fq)} {pv : List Nat} (h : GE n n rows pv) {i : Nat} (hi : i < rows.length) : ∀ j, j ≤ pv.length → dotv ((rows.getD i []).take n) (ansR n rows pv j) = if i < j then ent rows i n else 0
  | 0, _ => by rw [ansR, dot_rep, if_neg (by omega)]
  | j + 1, hj => by
    have hl := h.len i hi
    have hlt := h.lt j (by omega)
    rw [ansR, dot_set _ _ _ _ (by rw [ans_len]; exact hlt) (by rw [ans_len, List.length_take]; omega), ans_dot h hi j (by omega), ans_get h j (by omega) j (Nat.le_refl _) (by omega)]
    have e : ∀ q, q < n → ((rows.getD i []).take n).getD q 0 = ent rows i q := fun q hq => by
      rw [ent]; simp only [List.getD_eq_getElem?_getD, List.getElem?_take, hq, if_true]
    rw [e _ hlt, h.one j (by omega) i hi]
    by_cases h1 : i < j
    · rw [if_pos h1, if_neg (by omega), if_pos (by omega), f_zm, f_az]
    · by_cases h2 : i = j
      · subst h2; rw [if_neg (by omega), if_pos rfl, if_pos (by omega), f_s0, f_za]; exact Fin.one_mul _
      · rw [if_neg h1, if_neg h2, if_neg (by omega), f_zm, f_az]
theorem ge_ans {n : Nat} {rows : List (List Fq)} {pv : List Nat} (h : GE n n rows pv) (h0 : ∀ i, pv.length ≤ i → i < rows.length → ent rows i n = 0) : Sol n rows (ansR n rows pv pv.length) := by
  intro i hi
  unfold Sat
  rw [ans_dot h hi pv.length (Nat.le_refl _)]
  by_cases h1 : i < pv.length
  · rw [if_pos h1]; rfl
  · rw [if_neg h1]; exact (h0 i (by omega) hi).symm
theorem ge_none {n : Nat} {rows : List (List Fq)} {pv : List Nat} (h : GE n n rows pv) {i : Nat} (h1 : pv.length ≤ i) (h2 : i < rows.length) (h3 : ent rows i n ≠ 0) (x : List Fq) : ¬ Sol n rows x := by
  intro hs
  have := hs i h2
  unfold Sat at this
  rw [dot_zero _ _ fun d hd => ?_] at this
  · exact h3 this.symm
  · rw [List.length_take] at hd
    have := h.zero i h1 h2 d (by omega)
    rw [ent] at this
    simp only [List.getD_eq_getElem?_getD, List.getElem?_take] at this ⊢
    rw [if_pos (by omega)]
    exact this
end Hud
end
section
namespace Hud
open Go
theorem f_pwT (z : Fq) (n : Nat) : z ^ n * z = z ^ (n + 1) := by grind
theorem f_negm (a b : Fq) : 0 - a * b = (0 - a) * b := by grind
def eq1 (b z : Fq) (i : Nat) : List Fq := (List.range i).map fun j => b * z ^ j
def eqA (a b z : Fq) (one i : Nat) : List Fq := eq1 b z one ++ (List.range i).map fun j => (0 - a) * z ^ j
def eqR (a b z : Fq) (one two : Nat) : List Fq := eqL a b z one two ++ [eqX a b z one two]
theorem eq1_len (b z : Fq) (i : Nat) : (eq1 b z i).length = i := by simp [eq1]
theorem eqA_len (a b z : Fq) (one i : Nat) : (eqA a b z one i).length = one + i := by simp [eqA, eq1]
theorem eqR_len (a b z : Fq) (one i : Nat) : (eqR a b z one i).length = one + i + 1 := by simp [eqR, eqL]; omega
theorem eq1_succ (b z : Fq) (i : Nat) : eq1 b z (i + 1) = eq1 b z i ++ [b * z ^ i] := by simp [eq1, List.range_succ]
theorem eqA_succ (a b z : Fq) (one i : Nat) : eqA a b z one (i + 1) = eqA a b z one i ++ [(0 - a) * z ^ i] := by simp [eqA, List.range_succ]
theorem eqA_0 (a b z : Fq) (one : Nat) : eqA a b z one 0 = eq1 b z one := by simp [eqA]
theorem eqA_L (a b z : Fq) (one two : Nat) : eqA a b z one two = eqL a b z one two := rfl
section
variable {G : Nat → Option (List AV)}
set_option maxHeartbeats 2000000
theorem k_equation (a b : Fq) (k one two : Nat) (hk : k ≤ 1000) (h1 : one ≤ 1000) (h2 : two ≤ 1000) : CallOk Go.Proofs.Tryz.prog G n_sketch_equation [.v (fu a), .v (fu b), .v (.int .i64 (k : Int)), .v (.int .i64 (one : Int)), .v (.int .i64 (two : Int))] [] fun r T => r = .own 0 ∧ T = [some (.arr 1 (fl (eqR a b (zk k) one two)))] := by
  refine fun_okH h_sketch_equation_ok (by decide) ?_
  unfold h_sketch_equation
  simp only [go_sem, ↓reduceIte]
  refine call_pure (subL_refl _) rfl (k_point k hk) rfl ?_
  simp only [go_sem, ↓reduceIte]
  refine loop_up one (fun i => ⟨0, [(0, .v (fu a)), (1, .v (fu b)), (4, .v (.int .i64 two)), (11, .own 0), (12, .v (fu (zk k))), (13, .v (fu ((zk k) ^ i))), (17, .v (.int .i64 one)), (18, .v (.int .i64 i))], [some (.arr 1 (fl (eq1 b (zk k) i)))]⟩) (fun _ => True) ?_ trivial ?_ ?_
  · simp only [go_sem, ↓reduceIte, eq1, pw_zero0]
    rfl
  · intro i hi _
    have b1 : (i + 1) * 8 ≤ 140737488355328 := by omega
    have b2 : i + 1 ≤ maxLen := by unfold maxLen; omega
    simp only [go_sem, ↓reduceIte, dlt_t hi]
    refine call_pure (subL_refl _) rfl (f_Mul b ((zk k) ^ i)) rfl ?_
    simp only [go_sem, ↓reduceIte, eq1_len, b1, b2]
    refine call_pure (subL_refl _) rfl (f_Mul ((zk k) ^ i) (zk k)) rfl ?_
    simp only [go_sem, ↓reduceIte, wrap_suc (show i < 9223372036854775807 by omega), f_pwT, eq1_succ]
  · intro _
    simp only [go_sem, ↓reduceIte, dlt_f (Nat.lt_irrefl _)]
    refine call_pure (subL_refl _) rfl (f_Mul b ((zk k) ^ one)) rfl ?_
    simp only [go_sem, ↓reduceIte]
    refine call_pure (subL_refl _) rfl (f_Neg (b * (zk k) ^ one)) rfl ?_
    simp only [go_sem, ↓reduceIte]
    refine loop_up two (fun i => ⟨0, [(0, .v (fu a)), (11, .own 0), (12, .v (fu (zk k))), (13, .v (fu ((zk k) ^ i))), (14, .v (fu (0 - b * (zk k) ^ one))), (34, .v (.int .i64 two)), (35, .v (.int .i64 i))], [some (.arr 1 (fl (eqA a b (zk k) one i)))]⟩) (fun _ => True) ?_ trivial ?_ ?_
    · simp only [go_sem, ↓reduceIte, eqA_0, pw_zero0]
      rfl
    · intro i hi _
      have b1 : (one + i + 1) * 8 ≤ 140737488355328 := by omega
      have b2 : one + i + 1 ≤ maxLen := by unfold maxLen; omega
      simp only [go_sem, ↓reduceIte, dlt_t hi]
      refine call_pure (subL_refl _) rfl (f_Mul a ((zk k) ^ i)) rfl ?_
      simp only [go_sem, ↓reduceIte]
      refine call_pure (subL_refl _) rfl (f_Neg (a * (zk k) ^ i)) rfl ?_
      simp only [go_sem, ↓reduceIte, eqA_len, b1, b2]
      refine call_pure (subL_refl _) rfl (f_Mul ((zk k) ^ i) (zk k)) rfl ?_
      simp only [go_sem, ↓reduceIte, wrap_suc (show i < 9223372036854775807 by omega), f_pwT, eqA_succ, f_negm]
    · intro _
      have b1 : (one + two + 1) * 8 ≤ 140737488355328 := by omega
      have b2 : one + two + 1 ≤ maxLen := by unfold maxLen; omega
      simp only [go_sem, ↓reduceIte, dlt_f (Nat.lt_irrefl _)]
      refine call_pure (subL_refl _) rfl (f_Mul a ((zk k) ^ two)) rfl ?_
      simp only [go_sem, ↓reduceIte]
      refine call_pure (subL_refl _) rfl (f_Add (0 - b * (zk k) ^ one) (a * (zk k) ^ two)) rfl ?_
      simp only [go_sem, ↓reduceIte, eqA_len, b1, b2, eqR, eqX, ← eqA_L]
theorem less_take (t : Fq) (r s : List Fq) (h : r.length = s.length) (i : Nat) (hi : i < r.length) : ((lessV t r s).take i ++ r.drop i).set i (r.getD i 0 - t * s.getD i 0) = (lessV t r s).take (i + 1) ++ r.drop (i + 1) := by
  have hl := less_len t r s h
  rw [List.set_append_right _ _ (by rw [List.length_take]; omega), List.take_succ_eq_append_getElem (by omega), List.length_take, Nat.min_eq_left (by omega), Nat.sub_self, List.drop_eq_getElem_cons hi, List.set_cons_zero, List.append_assoc]
  have : (lessV t r s)[i]'(by omega) = r.getD i 0 - t * s.getD i 0 := by
    rw [← less_get t r s h i]; simp [List.getD_eq_getElem?_getD, hl, hi]
  rw [this]; rfl
theorem less_mid (t : Fq) (r s : List Fq) (h : r.length = s.length) (i : Nat) (hi : i < r.length) : (fl ((lessV t r s).take i ++ r.drop i))[i]? = some [.v (fu (r.getD i 0))] := by
  have hl := less_len t r s h
  simp only [fl, List.getElem?_map, List.getElem?_append_right (show ((lessV t r s).take i).length ≤ i by rw [List.length_take]; omega), List.length_take, Nat.min_eq_left (show i ≤ (lessV t r s).length by omega), Nat.sub_self, List.getElem?_drop, Nat.add_zero, List.getElem?_eq_getElem hi, Option.map_some, List.getD_eq_getElem?_getD, Option.getD_some]
theorem less_mlen (t : Fq) (r s : List Fq) (h : r.length = s.length) (i : Nat) (hi : i ≤ r.length) : ((lessV t r s).take i ++ r.drop i).length = r.length := by
  have hl := less_len t r s h
  simp only [List.length_append, List.length_take, List.length_drop]; omega
theorem k_less (r s : List Fq) (t : Fq) (h : r.length = s.length) (hl : r.length ≤ 1000000) : CallOk Go.Proofs.Tryz.prog G n_sketch_solve_1 [.own 0, .own 1, .v (fu t)] [some (.arr 1 (fl r)), some (.arr 1 (fl s))] fun x T => x = .tup [] ∧ T = [some (.arr 1 (fl (lessV t r s))), some (.arr 1 (fl s))] := by
  refine fun_okH h_sketch_solve_1_ok (by decide) ?_
  unfold h_sketch_solve_1
  simp only [go_sem, ↓reduceIte, List.length_map]
  refine loop_up r.length (fun i => ⟨2, [(0, .own 0), (1, .own 1), (2, .v (fu t)), (8, .v (.int .i64 r.length)), (9, .v (.int .i64 i))], [some (.arr 1 (fl ((lessV t r s).take i ++ r.drop i))), some (.arr 1 (fl s))]⟩) (fun _ => True) ?_ trivial ?_ ?_
  · simp only [go_sem, ↓reduceIte]
  · intro i hi _
    have g1 := less_mid t r s h i hi
    have g2 := fl_getD' s i (by omega)
    have g3 : (fl ((lessV t r s).take i ++ r.drop i)).length = r.length := by simp only [fl, List.length_map]; exact less_mlen t r s h i (by omega)
    have g4 := less_take t r s h i hi
    have g5 := fl_set ((lessV t r s).take i ++ r.drop i) i (r.getD i 0 - t * s.getD i 0)
    generalize hE : fl ((lessV t r s).take i ++ r.drop i) = E at *
    generalize hS : fl s = S at *
    have hSl : S.length = s.length := by rw [← hS]; simp
    simp only [go_sem, ↓reduceIte, List.length_map, dlt_t hi, g3, hi, g1, g2, hSl, show i < s.length by omega]
    refine call_pure (subL_refl _) rfl (f_Mul t (s.getD i 0)) rfl ?_
    simp only [go_sem, ↓reduceIte, List.length_map, dlt_t hi, g3, hi, g1, g2, hSl, show i < s.length by omega]
    refine call_pure (subL_refl _) rfl (f_Sub (r.getD i 0) (t * s.getD i 0)) rfl ?_
    simp only [go_sem, ↓reduceIte, List.length_map, dlt_t hi, g3, hi, g1, g2, hSl, wrap_suc (show i < 9223372036854775807 by omega), g5, g4]
  · intro _
    have : (lessV t r s).take r.length ++ r.drop r.length = lessV t r s := by rw [List.drop_length, List.append_nil, List.take_of_length_le (by rw [less_len t r s h]; exact Nat.le_refl _)]
    simp only [go_sem, ↓reduceIte, dlt_f (Nat.lt_irrefl _), this]
end
end Hud
end
