/- Each operation of the small code that leaves the world alone gives what it says. -/
import Derived.Test.YthmdkjeflllfpaaHudH
set_option linter.all false
namespace Hud
open Go

theorem RpDL.sub {h : GH} {cs : List AV} {us : List Value} (a : RpDL h cs us) (m k : Nat) : RpDL h ((cs.drop m).take k) ((us.drop m).take k) :=
  RpDL.mk (by simp [a.length]) fun i c u hc hu => by
    rw [List.getElem?_take] at hc hu
    split at hc
    · rw [if_pos (by assumption)] at hu
      rw [List.getElem?_drop] at hc hu
      obtain ⟨u', h1, h2⟩ := a.get hc
      rw [h1] at hu
      injection hu with hu
      subst hu
      exact h2
    · simp at hc
theorem RpDC.vals {h : GH} {b : Nat} : ∀ {cs : List AV} {o : Nat}, RpDC h b cs o → ∃ us, RpDL h cs us ∧ ∀ j u, us[j]? = some u → cellG h b (o + j) = some u
  | [], o, _ => ⟨[], by simp [RpDL], fun j u hj => by simp at hj⟩
  | c :: cs, o, e => by
    simp only [RpDC] at e
    obtain ⟨⟨u, _, h1, h2⟩, h3⟩ := e
    obtain ⟨us, h4, h5⟩ := h3.vals
    refine ⟨u :: us, by simp only [RpDL]; exact ⟨u, us, rfl, h2, h4⟩, fun j x hj => ?_⟩
    cases j with
    | zero => simp only [List.getElem?_cons_zero, Option.some.injEq] at hj; subst hj; exact h1
    | succ j => simp only [List.getElem?_cons_succ] at hj; rw [← h5 j x hj]; congr 1; omega

theorem flat_get {α : Type} {k : Nat} : ∀ {es : List (List α)}, (∀ e ∈ es, e.length = k) → ∀ {j : Nat} {e : List α}, es[j]? = some e → (es.flatten.drop (j * k)).take k = e
  | [], _, j, e, hj => by simp at hj
  | d :: es, hl, j, e, hj => by
    have hd := hl d (by simp)
    cases j with
    | zero => simp only [List.getElem?_cons_zero, Option.some.injEq] at hj; subst hj; simp [← hd]
    | succ j =>
      simp only [List.getElem?_cons_succ] at hj
      have : (j + 1) * k = d.length + j * k := by rw [Nat.succ_mul, hd]; omega
      rw [List.flatten_cons, this, List.drop_append, List.drop_of_length_le (by omega)]
      simp only [List.nil_append]
      rw [show d.length + j * k - d.length = j * k from by omega]
      exact flat_get (fun e he => hl e (by simp [he])) hj
theorem flat_len {α : Type} {k : Nat} : ∀ {es : List (List α)}, (∀ e ∈ es, e.length = k) → es.flatten.length = es.length * k
  | [], _ => by simp
  | d :: es, hl => by
    rw [List.flatten_cons, List.length_append, flat_len (fun e he => hl e (by simp [he])), hl d (by simp), List.length_cons, Nat.succ_mul]; omega

section
variable {P : Program} {G : Nat → Option (List AV)} {h : GH} {φ : Nat → Value} {T : Tab} {w : World} {s : List (Nat × AV)} {a : Act}

theorem ld_ok {t : TypeId} {m : Option Nat} (ht : aggT P t = some m) {us : List Value} {cs : List AV} {n : Nat} {b o off : Nat} (hr : RpL h φ n cs us) (hc : ∀ j u, us[j]? = some u → w.cell? ⟨b, o + j, none⟩ = some u)
    {x : AV} (hx : cutA cs off m = some x) : ∃ v, (loadVar t ⟨b, o + off, none⟩).run P w = .ok v w ∧ Rp h φ n x v := by
  have hk := cutA_ok hr hx
  have hl := loadVar_ok (P := P) (w := w) ht (b := b) (o := o + off) (us := us.drop off) (fun j u hj => by
    rw [List.getElem?_drop] at hj; have := hc _ _ hj; rw [Nat.add_assoc]; exact this)
  cases m with
  | none =>
    obtain ⟨u, h1, h2⟩ := hk
    exact ⟨u, hl u (by rw [List.getElem?_drop]; simpa using h1), h2⟩
  | some k =>
    obtain ⟨h1, h2⟩ := hk
    exact ⟨_, hl (by rw [List.length_drop]; omega), h2⟩

/-- An array's cells. -/
theorem arr_cells {i k : Nat} {es : List (List AV)} (hI : Inv h φ w T) (hg : getT T i = some (.arr k es)) :
    (∀ e ∈ es, e.length = k ∧ ∀ c ∈ e, closedA c = true) ∧ ((φ i = .slice none 0 0 ∧ es = []) ∨
      ∃ (g c : Nat) (cur : Array Value) (E : TypeId), φ i = .slice (some ⟨g, 0, none⟩) es.length c ∧ w.heap[g]? = some (.cells cur E (0, 0)) ∧ es.length ≤ c ∧ c ≤ maxLen ∧ cur.size = c * k ∧ h g = none ∧
        RpDL h es.flatten (cur.toList.take (es.length * k))) := hI.obj i _ (getT_some hg)

/-- One element's cells. -/
theorem elt_cells {i k : Nat} {es : List (List AV)} (hI : Inv h φ w T) (hg : getT T i = some (.arr k es)) {j : Nat} {e : List AV} (hj : es[j]? = some e) :
    ∃ (g c : Nat) (us : List Value), φ i = .slice (some ⟨g, 0, none⟩) es.length c ∧ RpDL h e us ∧ ∀ m u, us[m]? = some u → w.cell? ⟨g, j * k + m, none⟩ = some u := by
  obtain ⟨hl, h1 | ⟨g, c, cur, E, hφ, hw, h2, h3, h4, h5, h6⟩⟩ := arr_cells hI hg
  · rw [h1.2] at hj; simp at hj
  · have hsub := h6.sub (j * k) k
    rw [flat_get (fun e he => (hl e he).1) hj] at hsub
    refine ⟨g, c, _, hφ, hsub, fun m u hm => ?_⟩
    rw [cell_of hw]
    rw [List.getElem?_take] at hm
    split at hm
    · rw [List.getElem?_drop, List.getElem?_take] at hm
      split at hm
      · rw [← hm]; simp
      · simp at hm
    · simp at hm

theorem add_none (b o m : Nat) : (⟨b, o, none⟩ : Addr).add m = ⟨b, o + m, none⟩ := by unfold Addr.add; split <;> simp_all

theorem load_gives {t : TypeId} {m : Option Nat} (ht : aggT P t = some m) (hG : GOk G h) (hI : Inv h φ w T) (hS : SOk h φ T.length s a) {p : Operand} {x : AV} {T' : Tab}
    (he : hop T (evO G s) (.ld m p) = some (x, T')) : T' = T ∧ ∃ v, (Instr.loadAt t (a.eval p)).run P w = .ok v w ∧ Rp h φ T.length x v := by
  have hp := ev_ok hG hS p
  simp only [hop] at he
  split at he
  · rename_i i off hev
    rw [hev] at hp
    simp only [Rp] at hp
    obtain ⟨_, g, hφ, hu⟩ := hp
    split at he
    · rename_i cs hg
      split at he
      · rename_i y hy
        injection he with he; injection he with e1 e2; subst e1; subst e2
        obtain ⟨g', us, E, hφ', hw, _, hr⟩ := box_cells hI hg
        rw [hφ] at hφ'
        injection hφ' with hφ'; injection hφ' with hφ'; injection hφ' with hφ'
        subst hφ'
        refine ⟨rfl, ?_⟩
        rw [hu]
        simp only [Instr.loadAt, Instr.sureAddr]
        have := ld_ok (P := P) (w := w) (b := g) (o := 0) ht hr (fun j u hj => by rw [cell_of hw]; simpa using hj) hy
        simpa using this
      · simp at he
    · simp at he
  · rename_i cs hev
    rw [hev] at hp
    simp only [Rp] at hp
    obtain ⟨b, o, hu, hc⟩ := hp
    split at he
    · rename_i y hy
      injection he with he; injection he with e1 e2; subst e1; subst e2
      obtain ⟨us, h1, h2⟩ := hc.vals
      refine ⟨rfl, ?_⟩
      rw [hu]
      simp only [Instr.loadAt, Instr.sureAddr]
      have := ld_ok (P := P) (w := w) (φ := φ) (n := T.length) (b := b) (o := o) ht (RpDL.to h1) (fun j u hj => cellG_of hI (h2 j u hj)) hy
      simpa using this
    · simp at he
  · rename_i i k j off hev
    rw [hev] at hp
    simp only [Rp] at hp
    obtain ⟨_, g, l, c, hφ, hu⟩ := hp
    split at he
    · rename_i k' es hg
      split at he
      · rename_i hk
        subst hk
        split at he
        · rename_i e hj
          split at he
          · rename_i y hy
            injection he with he; injection he with e1 e2; subst e1; subst e2
            obtain ⟨g', c', us, hφ', h1, h2⟩ := elt_cells hI hg hj
            rw [hφ] at hφ'
            injection hφ' with hφ' _ _; injection hφ' with hφ'; injection hφ' with hφ'
            subst hφ'
            refine ⟨rfl, ?_⟩
            rw [hu]
            simp only [Instr.loadAt, Instr.sureAddr]
            exact ld_ok (P := P) (w := w) (φ := φ) (n := T.length) (b := g) (o := j * k) ht (RpDL.to h1) h2 hy
          · simp at he
        · simp at he
      · simp at he
    · simp at he
  · simp at he
end
end Hud
