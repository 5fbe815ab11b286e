import Derived.Test.YtialbdgcgiaebaaGreatLib01
set_option linter.all false
section
namespace Hud
open Go
theorem RpDL.sub {h : GH} {cs : List AV} {us : List Value} (a : RpDL h cs us) (m k : Nat) : RpDL h ((cs.drop m).take k) ((us.drop m).take k) :=
  RpDL.mk (by simp [a.length]) fun i c u hc hu => by
    rw [List.getElem?_take] at hc hu
    split at hc
    · rw [if_pos (by assumption)] at hu
      rw [List.getElem?_drop] at hc hu
      obtain ⟨u', h1, h2⟩ := a.get hc
      rw [h1] at hu
      injection hu with hu
      subst hu
      exact h2
    · simp at hc
theorem RpDC.vals {h : GH} {b : Nat} : ∀ {cs : List AV} {o : Nat}, RpDC h b cs o → ∃ us, RpDL h cs us ∧ ∀ j u, us[j]? = some u → cellG h b (o + j) = some u
  | [], o, _ => ⟨[], by simp [RpDL], fun j u hj => by simp at hj⟩
  | c :: cs, o, e => by
    simp only [RpDC] at e
    obtain ⟨⟨u, _, h1, h2⟩, h3⟩ := e
    obtain ⟨us, h4, h5⟩ := h3.vals
    refine ⟨u :: us, by simp only [RpDL]; exact ⟨u, us, rfl, h2, h4⟩, fun j x hj => ?_⟩
    cases j with
    | zero => simp only [List.getElem?_cons_zero, Option.some.injEq] at hj; subst hj; exact h1
    | succ j => simp only [List.getElem?_cons_succ] at hj; rw [← h5 j x hj]; congr 1; omega
theorem flat_get {α : Type} {k : Nat} : ∀ {es : List (List α)}, (∀ e ∈ es, e.length = k) → ∀ {j : Nat} {e : List α}, es[j]? = some e → (es.flatten.drop (j * k)).take k = e
  | [], _, j, e, hj => by simp at hj
  | d :: es, hl, j, e, hj => by
    have hd := hl d (by simp)
    cases j with
    | zero => simp only [List.getElem?_cons_zero, Option.some.injEq] at hj; subst hj; simp [← hd]
    | succ j =>
      simp only [List.getElem?_cons_succ] at hj
      have : (j + 1) * k = d.length + j * k := by rw [Nat.succ_mul, hd]; omega
      rw [List.flatten_cons, this, List.drop_append, List.drop_of_length_le (by omega)]
      simp only [List.nil_append]
      rw [show d.length + j * k - d.length = j * k from by omega]
      exact flat_get (fun e he => hl e (by simp [he])) hj
theorem flat_len {α : Type} {k : Nat} : ∀ {es : List (List α)}, (∀ e ∈ es, e.length = k) → es.flatten.length = es.length * k
  | [], _ => by simp
  | d :: es, hl => by
    rw [List.flatten_cons, List.length_append, flat_len (fun e he => hl e (by simp [he])), hl d (by simp), List.length_cons, Nat.succ_mul]; omega
section
variable {P : Program} {G : Nat → Option (List AV)} {h : GH} {φ : Nat → Value} {T : Tab} {w : World} {s : List (Nat × AV)} {a : Act}
theorem ld_ok {t : TypeId} {m : Option Nat} (ht : aggT P t = some m) {us : List Value} {cs : List AV} {n : Nat} {b o off : Nat} (hr : RpL h φ n cs us) (hc : ∀ j u, us[j]? = some u → w.cell? ⟨b, o + j, none⟩ = some u)
    {x : AV} (hx : cutA cs off m = some x) : ∃ v, (loadVar t ⟨b, o + off, none⟩).run P w = .ok v w ∧ Rp h φ n x v := by
  have hk := cutA_ok hr hx
  have hl := loadVar_ok (P := P) (w := w) ht (b := b) (o := o + off) (us := us.drop off) (fun j u hj => by
    rw [List.getElem?_drop] at hj; have := hc _ _ hj; rw [Nat.add_assoc]; exact this)
  cases m with
  | none =>
    obtain ⟨u, h1, h2⟩ := hk
    exact ⟨u, hl u (by rw [List.getElem?_drop]; simpa using h1), h2⟩
  | some k =>
    obtain ⟨h1, h2⟩ := hk
    exact ⟨_, hl (by rw [List.length_drop]; omega), h2⟩
theorem arr_cells {i k : Nat} {es : List (List AV)} (hI : Inv h φ w T) (hg : getT T i = some (.arr k es)) :
    (∀ e ∈ es, e.length = k ∧ ∀ c ∈ e, closedA c = true) ∧ ((∃ A, φ i = .slice A 0 0 ∧ es = []) ∨
      ∃ (g c : Nat) (cur : Array Value) (E : TypeId), φ i = .slice (some ⟨g, 0, none⟩) es.length (c + 1) ∧ w.heap[g]? = some (.cells cur E (0, 0)) ∧ es.length ≤ c + 1 ∧ c + 1 ≤ maxLen ∧ cur.size = (c + 1) * k ∧ h g = none ∧
        RpDL h es.flatten (cur.toList.take (es.length * k))) := hI.obj i _ (getT_some hg)
theorem okC_one {b : Bool} {c : AV} (hc : okC b c = true) : oneC c = true := by
  cases b with
  | false => exact hc
  | true =>
    cases c <;> simp_all [okC, closedA, oneC]
    rename_i v
    cases v <;> simp_all [closedA, oneC]
def RpB (h : GH) (φ : Nat → Value) (n : Nat) (b : Bool) (cs : List AV) (us : List Value) : Prop := if b then RpDL h cs us else RpL h φ n cs us
theorem RpB.toL {φ : Nat → Value} {n : Nat} {b : Bool} {cs : List AV} {us : List Value} (a : RpB h φ n b cs us) : RpL h φ n cs us := by
  cases b with
  | true => exact RpDL.to a
  | false => exact a
theorem rowsA_some {o : Option AObj} {k : Nat} {es : List (List AV)} {b : Bool} (e : rowsA o = some (k, es, b)) : o = some (mkRows b k es) := by
  cases o with
  | none => simp [rowsA] at e
  | some o => cases o <;> simp [rowsA] at e <;> (obtain ⟨rfl, rfl, rfl⟩ := e; rfl)
theorem objAt_rows {φ : Nat → Value} {n : Nat} {i : Nat} {b : Bool} {k : Nat} {es : List (List AV)} : objAt h φ n w i (mkRows b k es) ↔ ((∀ e ∈ es, e.length = k ∧ ∀ c ∈ e, okC b c = true) ∧ ((∃ A, φ i = .slice A 0 0 ∧ es = []) ∨
      ∃ (g c : Nat) (cur : Array Value) (E : TypeId), φ i = .slice (some ⟨g, 0, none⟩) es.length (c + 1) ∧ w.heap[g]? = some (.cells cur E (0, 0)) ∧ es.length ≤ c + 1 ∧ c + 1 ≤ maxLen ∧ cur.size = (c + 1) * k ∧ h g = none ∧
        RpB h φ n b es.flatten (cur.toList.take (es.length * k)))) := by cases b <;> exact Iff.rfl
theorem row_cells {i k : Nat} {es : List (List AV)} {b : Bool} (hI : Inv h φ w T) (hg : rowsA (getT T i) = some (k, es, b)) :
    (∀ e ∈ es, e.length = k ∧ ∀ c ∈ e, okC b c = true) ∧ ((∃ A, φ i = .slice A 0 0 ∧ es = []) ∨
      ∃ (g c : Nat) (cur : Array Value) (E : TypeId), φ i = .slice (some ⟨g, 0, none⟩) es.length (c + 1) ∧ w.heap[g]? = some (.cells cur E (0, 0)) ∧ es.length ≤ c + 1 ∧ c + 1 ≤ maxLen ∧ cur.size = (c + 1) * k ∧ h g = none ∧
        RpB h φ T.length b es.flatten (cur.toList.take (es.length * k))) := objAt_rows.1 (hI.obj i _ (getT_some (rowsA_some hg)))
theorem RpL.sub {φ : Nat → Value} {n : Nat} {cs : List AV} {us : List Value} (a : RpL h φ n cs us) (m k : Nat) : RpL h φ n ((cs.drop m).take k) ((us.drop m).take k) := (a.drop m).take k
theorem elt_cells {i k : Nat} {es : List (List AV)} {b : Bool} (hI : Inv h φ w T) (hg : rowsA (getT T i) = some (k, es, b)) {j : Nat} {e : List AV} (hj : es[j]? = some e) :
    ∃ (g c : Nat) (us : List Value), φ i = .slice (some ⟨g, 0, none⟩) es.length (c + 1) ∧ RpL h φ T.length e us ∧ ∀ m u, us[m]? = some u → w.cell? ⟨g, j * k + m, none⟩ = some u := by
  obtain ⟨hl, h1 | ⟨g, c, cur, E, hφ, hw, h2, h3, h4, h5, h6⟩⟩ := row_cells hI hg
  · rw [h1.choose_spec.2] at hj; simp at hj
  · have hsub := h6.toL.sub (j * k) k
    rw [flat_get (fun e he => (hl e he).1) hj] at hsub
    refine ⟨g, c, _, hφ, hsub, fun m u hm => ?_⟩
    rw [cell_of hw]
    rw [List.getElem?_take] at hm
    split at hm
    · rw [List.getElem?_drop, List.getElem?_take] at hm
      split at hm
      · rw [← hm]; simp
      · simp at hm
    · simp at hm
theorem add_none (b o m : Nat) : (⟨b, o, none⟩ : Addr).add m = ⟨b, o + m, none⟩ := by unfold Addr.add; split <;> simp_all
theorem load_gives {t : TypeId} {m : Option Nat} (ht : aggT P t = some m) (hG : GOk G h) (hI : Inv h φ w T) (hS : SOk h φ T.length s a) {p : Operand} {x : AV} {T' : Tab}
    (he : hop T (evO G s) (.ld m p) = some (x, T')) : T' = T ∧ ∃ v, (Instr.loadAt t (a.eval p)).run P w = .ok v w ∧ Rp h φ T.length x v := by
  have hp := ev_ok hG hS p
  simp only [hop] at he
  split at he
  · rename_i i off hev
    rw [hev] at hp
    simp only [Rp] at hp
    obtain ⟨_, g, hφ, hu⟩ := hp
    split at he
    · rename_i cs hg
      split at he
      · rename_i y hy
        injection he with he; injection he with e1 e2; subst e1; subst e2
        obtain ⟨g', us, E, hφ', hw, _, hr⟩ := box_cells hI hg
        rw [hφ] at hφ'
        injection hφ' with hφ'; injection hφ' with hφ'; injection hφ' with hφ'
        subst hφ'
        refine ⟨rfl, ?_⟩
        rw [hu]
        simp only [Instr.loadAt, Instr.sureAddr]
        have := ld_ok (P := P) (w := w) (b := g) (o := 0) ht hr (fun j u hj => by rw [cell_of hw]; simpa using hj) hy
        simpa using this
      · simp at he
    · simp at he
  · rename_i cs hev
    rw [hev] at hp
    simp only [Rp] at hp
    obtain ⟨b, o, hu, hc⟩ := hp
    split at he
    · rename_i y hy
      injection he with he; injection he with e1 e2; subst e1; subst e2
      obtain ⟨us, h1, h2⟩ := hc.vals
      refine ⟨rfl, ?_⟩
      rw [hu]
      simp only [Instr.loadAt, Instr.sureAddr]
      have := ld_ok (P := P) (w := w) (φ := φ) (n := T.length) (b := b) (o := o) ht (RpDL.to h1) (fun j u hj => cellG_of hI (h2 j u hj)) hy
      simpa using this
    · simp at he
  · rename_i i k j off hev
    rw [hev] at hp
    simp only [Rp] at hp
    obtain ⟨_, g, l, c, hφ, hu⟩ := hp
    split at he
    · rename_i k' es b hg
      split at he
      · rename_i hk
        subst hk
        split at he
        · rename_i e hj
          split at he
          · rename_i y hy
            injection he with he; injection he with e1 e2; subst e1; subst e2
            obtain ⟨g', c', us, hφ', h1, h2⟩ := elt_cells hI hg hj
            rw [hφ] at hφ'
            injection hφ' with hφ' _ _; injection hφ' with hφ'; injection hφ' with hφ'
            subst hφ'
            refine ⟨rfl, ?_⟩
            rw [hu]
            simp only [Instr.loadAt, Instr.sureAddr]
            exact ld_ok (P := P) (w := w) (φ := φ) (n := T.length) (b := g) (o := j * k) ht h1 h2 hy
          · simp at he
        · simp at he
      · simp at he
    · simp at he
  · simp at he
end
end Hud
end
section
namespace Hud
open Go
section
variable {P : Program} {G : Nat → Option (List AV)} {h : GH} {φ : Nat → Value} {T : Tab} {w : World} {s : List (Nat × AV)} {a : Act}
theorem sizeT_some {t : TypeId} {n : Nat} (e : sizeT P t = some n) : (Go.sizeOf t).run P w = .ok n w := by
  unfold sizeT at e
  cases hi : P.info? t with
  | none => simp [hi] at e
  | some i => simp [hi] at e; subst e; simp [Go.sizeOf, typeInfo, hi]
theorem fad_gives {t : TypeId} {fs : Array Field} (ht : P.underlying t = some (.struct fs)) {f : Nat} {fd : Field} (hf : fs[f]? = some fd) {n : Nat} (hn : sizeT P fd.type = some n) (h0 : n ≠ 0)
    (hG : GOk G h) (hS : SOk h φ T.length s a) {p : Operand} {x : AV} {T' : Tab} (he : hop T (evO G s) (.fad p fd.offset) = some (x, T')) :
    T' = T ∧ ∃ v, (Instr.fieldAt t (a.eval p) f).run P w = .ok v w ∧ Rp h φ T.length x v := by
  have hp := ev_ok hG hS p
  have run : ∀ b o, (Instr.fieldAt t (.pointer (some ⟨b, o, none⟩)) f).run P w = .ok (.pointer (some ⟨b, o + fd.offset, none⟩)) w := by
    intro b o
    simp [Instr.fieldAt, run_underlying ht, hf, Instr.sureAddr, fieldPlace, sizeT_some hn, h0, add_none]
  simp only [hop] at he
  split at he
  · rename_i i off hev
    rw [hev] at hp; simp only [Rp] at hp
    obtain ⟨hi, g, hφ, hu⟩ := hp
    injection he with he; injection he with e1 e2; subst e1; subst e2
    rw [hu]
    exact ⟨rfl, _, run g off, by simp only [Rp]; exact ⟨hi, g, hφ, rfl⟩⟩
  · rename_i i k j off hev
    rw [hev] at hp; simp only [Rp] at hp
    obtain ⟨hi, g, l, c, hφ, hu⟩ := hp
    injection he with he; injection he with e1 e2; subst e1; subst e2
    rw [hu]
    exact ⟨rfl, _, run g _, by simp only [Rp]; exact ⟨hi, g, l, c, hφ, by rw [Nat.add_assoc]⟩⟩
  · rename_i cs hev
    rw [hev] at hp; simp only [Rp] at hp
    obtain ⟨b, o, hu, hc⟩ := hp
    injection he with he; injection he with e1 e2; subst e1; subst e2
    rw [hu]
    exact ⟨rfl, _, run b o, by simp only [Rp]; exact ⟨b, _, rfl, hc.drop _⟩⟩
  · simp at he
theorem part_gives {t : TypeId} {m : Option Nat} (ht : aggT P t = some m) {us : Array Value} {cs : List AV} {n : Nat} (hr : RpL h φ n cs us.toList) {off : Nat} {x : AV} (hx : cutA cs off m = some x) :
    ∃ v, (part t us off).run P w = .ok v w ∧ Rp h φ n x v := by
  have hk := cutA_ok hr hx
  have ha := aggT_some (w := w) ht
  cases m with
  | none =>
    obtain ⟨u, h1, h2⟩ := hk
    refine ⟨u, ?_, h2⟩
    have : us[off]? = some u := by simpa using h1
    simp [part, ha.1, this]
  | some k =>
    obtain ⟨h1, h2⟩ := hk
    refine ⟨_, ?_, h2⟩
    simp only [part, Sem.run_bind, ha.1, ha.2, Result.andThen_ok, if_true, Sem.run_pure]
    congr 2
    apply Array.toList_inj.1
    simp [Array.toList_extract, List.extract]
theorem fld_gives {t : TypeId} {fs : Array Field} (ht : P.underlying t = some (.struct fs)) {f : Nat} {fd : Field} (hf : fs[f]? = some fd) {m : Option Nat} (hm : aggT P fd.type = some m)
    (hG : GOk G h) (hS : SOk h φ T.length s a) {p : Operand} {x : AV} {T' : Tab} (he : hop T (evO G s) (.fld p fd.offset m) = some (x, T')) :
    T' = T ∧ ∃ v, (Instr.field t (a.eval p) f).run P w = .ok v w ∧ Rp h φ T.length x v := by
  have hp := ev_ok hG hS p
  simp only [hop] at he
  split at he
  · rename_i cs hev
    rw [hev] at hp; simp only [Rp] at hp
    obtain ⟨us, hu, hr⟩ := hp
    split at he
    · rename_i y hy
      injection he with he; injection he with e1 e2; subst e1; subst e2
      obtain ⟨v, h1, h2⟩ := part_gives (P := P) (w := w) hm hr hy
      rw [hu]
      exact ⟨rfl, v, by simp [Instr.field, run_underlying ht, hf, asAgg, h1], h2⟩
    · simp at he
  · rename_i us hev
    rw [hev] at hp; simp only [Rp] at hp
    split at he
    · rename_i y hy
      injection he with he; injection he with e1 e2; subst e1; subst e2
      have hr : RpL h φ T.length (us.toList.map .v) us.toList := RpL.mk (by simp) fun i c u hc hu => by
        rw [List.getElem?_map, hu] at hc
        simp at hc
        subst hc
        simp [Rp]
      obtain ⟨v, h1, h2⟩ := part_gives (P := P) (w := w) hm hr hy
      rw [hp]
      exact ⟨rfl, v, by simp [Instr.field, run_underlying ht, hf, asAgg, h1], h2⟩
    · simp at he
  · simp at he
theorem iad_gives {t e : TypeId} (ht : P.underlying t = some (.slice e)) {k : Nat} (hk : sizeT P e = some k)
    (hG : GOk G h) (hI : Inv h φ w T) (hS : SOk h φ T.length s a) {p q : Operand} {x : AV} {T' : Tab} (he : hop T (evO G s) (.iad p q k) = some (x, T')) :
    T' = T ∧ ∃ v, (Instr.indexAt t (a.eval p) (a.eval q)).run P w = .ok v w ∧ Rp h φ T.length x v := by
  have hp := ev_ok hG hS p
  have run : ∀ b o len cap kd (i : Int), 0 ≤ i → i.toNat < len → (Instr.indexAt t (.slice (some ⟨b, o, none⟩) len cap) (.int kd i)).run P w = .ok (.pointer (some ⟨b, o + i.toNat * k, none⟩)) w := by
    intro b o len cap kd i h0 hl
    have : 0 ≤ i ∧ i < len := ⟨h0, by omega⟩
    simp [Instr.indexAt, run_underlying ht, asIntOf, this, sizeT_some hk, add_none]
  simp only [hop] at he
  split at he
  · rename_i k' es kd i hev hix
    rw [hev] at hp; simp only [Rp, RpD] at hp
    obtain ⟨A, c, hu, h1, h2, h3⟩ := hp
    split at he
    · rename_i hc
      obtain ⟨rfl, h0⟩ := hc
      split at he
      · rename_i el hj
        injection he with he; injection he with e1 e2; subst e1; subst e2
        have hlt : i.toNat < es.length := by
          rcases Nat.lt_or_ge i.toNat es.length with hh | hh
          · exact hh
          · simp [List.getElem?_eq_none hh] at hj
        rcases h3 with rfl | ⟨b, o, rfl, hE⟩
        · simp at hj
        · rw [hu, ev_v hG hS hix]
          refine ⟨rfl, _, run b o _ _ _ i h0 hlt, ?_⟩
          simp only [Rp]
          exact ⟨b, _, rfl, (hE.get hj).2⟩
      · simp at he
    · simp at he
  · rename_i i0 kd i hev hix
    rw [hev] at hp; simp only [Rp] at hp
    split at he
    · rename_i k' es b hg
      split at he
      · rename_i hc
        obtain ⟨rfl, h0, hlt⟩ := hc
        injection he with he; injection he with e1 e2; subst e1; subst e2
        have hj : es[i.toNat]? = some es[i.toNat] := List.getElem?_eq_getElem hlt
        obtain ⟨g, c, us, hφ, _, _⟩ := elt_cells hI hg hj
        rw [hp.2.1, hφ, ev_v hG hS hix]
        refine ⟨rfl, _, run g 0 _ _ _ i h0 hlt, ?_⟩
        simp only [Rp]
        exact ⟨hp.1, g, _, c + 1, hφ, by simp⟩
      · simp at he
    · simp at he
  · rename_i i0 k' lo m kd i hev hix
    rw [hev] at hp; simp only [Rp] at hp
    split at he
    · rename_i hc
      obtain ⟨rfl, h0, hlt⟩ := hc
      injection he with he; injection he with e1 e2; subst e1; subst e2
      obtain ⟨hi0, A, c, hu, _, _, h3⟩ := hp
      rcases h3 with rfl | ⟨g, l, c', hφ, rfl, hle⟩
      · omega
      · rw [hu, ev_v hG hS hix]
        refine ⟨rfl, _, run g _ _ _ _ i h0 hlt, ?_⟩
        simp only [Rp]
        exact ⟨hi0, g, l, c', hφ, by rw [Nat.add_mul, Nat.add_zero]⟩
    · simp at he
  · simp at he
theorem iadA_gives {t e : TypeId} {len : Nat} (ht : P.underlying t = some (.array len e)) {k : Nat} (hk : sizeT P e = some k)
    (hG : GOk G h) (hS : SOk h φ T.length s a) {p q : Operand} {x : AV} {T' : Tab} (he : hop T (evO G s) (.iadA p q len k) = some (x, T')) :
    T' = T ∧ ∃ v, (Instr.indexAt t (a.eval p) (a.eval q)).run P w = .ok v w ∧ Rp h φ T.length x v := by
  have hp := ev_ok hG hS p
  have run : ∀ b o kd (i : Int), 0 ≤ i ∧ i < len → (Instr.indexAt t (.pointer (some ⟨b, o, none⟩)) (.int kd i)).run P w = .ok (.pointer (some ⟨b, o + i.toNat * k, none⟩)) w := by
    intro b o kd i hc
    simp [Instr.indexAt, run_underlying ht, asIntOf, Instr.sureAddr, hc, sizeT_some hk, add_none]
  simp only [hop] at he
  split at he
  · rename_i j o kd i hev hix
    rw [hev] at hp; simp only [Rp] at hp
    obtain ⟨hi, g, hφ, hu⟩ := hp
    split at he
    · rename_i hc
      injection he with he; injection he with e1 e2; subst e1; subst e2
      rw [hu, ev_v hG hS hix]
      exact ⟨rfl, _, run g o _ i hc, by simp only [Rp]; exact ⟨hi, g, hφ, rfl⟩⟩
    · simp at he
  · rename_i cs kd i hev hix
    rw [hev] at hp; simp only [Rp] at hp
    obtain ⟨b, o, hu, hcs⟩ := hp
    split at he
    · rename_i hc
      injection he with he; injection he with e1 e2; subst e1; subst e2
      rw [hu, ev_v hG hS hix]
      exact ⟨rfl, _, run b o _ i hc, by simp only [Rp]; exact ⟨b, _, rfl, hcs.drop _⟩⟩
    · simp at he
  · simp at he
theorem ixS_gives {t : TypeId} (ht : P.underlying t = some .string)
    (hG : GOk G h) (hS : SOk h φ T.length s a) {p q : Operand} {x : AV} {T' : Tab} (he : hop T (evO G s) (.ixS p q) = some (x, T')) :
    T' = T ∧ ∃ v, (Instr.index t (a.eval p) (a.eval q)).run P w = .ok v w ∧ Rp h φ T.length x v := by
  simp only [hop] at he
  split at he
  · rename_i sb kd i hev hix
    split at he
    · rename_i h0
      split at he
      · rename_i b hb
        injection he with he; injection he with e1 e2; subst e1; subst e2
        rw [ev_v hG hS hev, ev_v hG hS hix]
        refine ⟨rfl, .int .u8 b.toNat, ?_, by simp [Rp]⟩
        have : sb[i.toNat]? = some b := by
          have hlt : i.toNat < sb.data.size := by
            rcases Nat.lt_or_ge i.toNat sb.data.size with hh | hh
            · exact hh
            · simp [Array.getElem?_eq_none hh] at hb
          rw [Array.getElem?_eq_getElem hlt] at hb
          rw [getElem?_pos sb i.toNat hlt]
          exact hb
        simp [Instr.index, run_underlying ht, asIntOf, h0, this]
      · simp at he
    · simp at he
  · simp at he
theorem lenS_gives {t ty : TypeId} (ht : P.underlying t = some .string)
    (hG : GOk G h) (hS : SOk h φ T.length s a) {p : Operand} {x : AV} {T' : Tab} {ts : Array TypeId} (hts : ts[0]? = some t) (he : hop T (evO G s) (.lenS p) = some (x, T')) :
    T' = T ∧ ∃ v, (Builtin.len_ ts ty #[a.eval p]).run P w = .ok v w ∧ Rp h φ T.length x v := by
  simp only [hop] at he
  split at he
  · rename_i sb hev
    injection he with he; injection he with e1 e2; subst e1; subst e2
    rw [ev_v hG hS hev]
    exact ⟨rfl, goInt sb.size, by simp [Builtin.len_, hts, run_underlying ht], by simp [Rp, goInt]⟩
  · simp at he
theorem lenL_gives {t e ty : TypeId} (ht : P.underlying t = some (.slice e))
    (hG : GOk G h) (hI : Inv h φ w T) (hS : SOk h φ T.length s a) {p : Operand} {x : AV} {T' : Tab} {ts : Array TypeId} (hts : ts[0]? = some t) (he : hop T (evO G s) (.lenL p) = some (x, T')) :
    T' = T ∧ ∃ v, (Builtin.len_ ts ty #[a.eval p]).run P w = .ok v w ∧ Rp h φ T.length x v := by
  have hp := ev_ok hG hS p
  have run : ∀ A l c, (Builtin.len_ ts ty #[.slice A l c]).run P w = .ok (goInt l) w := by
    intro A l c
    simp [Builtin.len_, hts, run_underlying ht]
  simp only [hop] at he
  split at he
  · rename_i k es hev
    rw [hev] at hp; simp only [Rp, RpD] at hp
    obtain ⟨A, c, hu, _⟩ := hp
    injection he with he; injection he with e1 e2; subst e1; subst e2
    rw [hu]
    exact ⟨rfl, _, run _ _ _, by simp [Rp, goInt]⟩
  · rename_i i hev
    rw [hev] at hp; simp only [Rp] at hp
    split at he
    · rename_i k es b hg
      injection he with he; injection he with e1 e2; subst e1; subst e2
      rw [hp.2.1]
      obtain ⟨_, ⟨A, h1⟩ | ⟨g, c, cur, E, hφ, _⟩⟩ := row_cells hI hg
      · rw [h1.1, h1.2]
        exact ⟨rfl, _, run _ _ _, by simp [Rp, goInt]⟩
      · rw [hφ]
        exact ⟨rfl, _, run _ _ _, by simp [Rp, goInt]⟩
    · simp at he
  · rename_i hev
    injection he with he; injection he with e1 e2; subst e1; subst e2
    rw [ev_v hG hS hev]
    exact ⟨rfl, _, run _ _ _, by simp [Rp, goInt]⟩
  · rename_i i k lo m hev
    rw [hev] at hp; simp only [Rp] at hp
    obtain ⟨_, A, c, hu, _⟩ := hp
    injection he with he; injection he with e1 e2; subst e1; subst e2
    rw [hu]
    exact ⟨rfl, _, run _ _ _, by simp [Rp, goInt]⟩
  · simp at he
end
end Hud
end
section
namespace Hud
open Go
theorem ghost_lt {h : GH} {φ : Nat → Value} {T : Tab} {w : World} (hI : Inv h φ w T) {b : Nat} {cs : Array Value} (e : h b = some cs) : b < w.heap.size := by
  obtain ⟨E, fr, hw⟩ := hI.gh b cs e
  rcases Nat.lt_or_ge b w.heap.size with hh | hh
  · exact hh
  · rw [Array.getElem?_eq_none hh] at hw; simp at hw
theorem objAt_blk {h : GH} {φ : Nat → Value} {n : Nat} {w : World} {i : Nat} {o : AObj} (e : objAt h φ n w i o) {g : Nat} (hg : blk (φ i) = some g) :
    g < w.heap.size ∧ h g = none := by
  have lt : ∀ {x : Obj}, w.heap[g]? = some x → g < w.heap.size := by
    intro x hx
    rcases Nat.lt_or_ge g w.heap.size with hh | hh
    · exact hh
    · rw [Array.getElem?_eq_none hh] at hx; simp at hx
  cases o with
  | box cs =>
    obtain ⟨g', us, E, h1, h2, h3, _⟩ := e
    rw [h1] at hg
    simp only [blk, Option.some.injEq] at hg
    subst hg
    exact ⟨lt h2, h3⟩
  | arr k es =>
    obtain ⟨_, ⟨A, h1⟩ | ⟨g', c, cur, E, h1, h2, _, _, _, h3, _⟩⟩ := e
    · rw [h1.1] at hg; simp [blk] at hg
    · rw [h1] at hg
      simp only [blk, Option.some.injEq] at hg
      subst hg
      exact ⟨lt h2, h3⟩
  | arf k es =>
    obtain ⟨_, ⟨A, h1⟩ | ⟨g', c, cur, E, h1, h2, _, _, _, h3, _⟩⟩ := e
    · rw [h1.1] at hg; simp [blk] at hg
    · rw [h1] at hg
      simp only [blk, Option.some.injEq] at hg
      subst hg
      exact ⟨lt h2, h3⟩
  | lp r s =>
    obtain ⟨g', h1, h2, h3, _⟩ := e
    rw [h1] at hg
    simp only [blk, Option.some.injEq] at hg
    subst hg
    exact ⟨lt h2, h3⟩
  | mit m since seen st =>
    obtain ⟨g', mo, h1, h2, h3, _⟩ := e
    rw [h1] at hg
    simp only [blk, Option.some.injEq] at hg
    subst hg
    exact ⟨lt h2, h3⟩
  | map ag ks vs bs cl =>
    obtain ⟨g', ens, h1, h2, h3, _⟩ := e
    rw [h1] at hg
    simp only [blk, Option.some.injEq] at hg
    subst hg
    exact ⟨lt h2, h3⟩
theorem objAt_keep {h h' : GH} {φ φ' : Nat → Value} {n n' : Nat} {w w' : World} {i : Nat} {o : AObj} (e : objAt h φ n w i o) (le : GLe h h') (hn : n ≤ n') (hp : ∀ j, j < n → φ' j = φ j) (hi : i < n)
    (hb : ∀ g, blk (φ i) = some g → w'.heap[g]? = w.heap[g]? ∧ h' g = none) : objAt h' φ' n' w' i o := by
  cases o with
  | box cs =>
    obtain ⟨g, us, E, h1, h2, h3, h4⟩ := e
    obtain ⟨h5, h6⟩ := hb g (by rw [h1]; rfl)
    exact ⟨g, us, E, by rw [hp i hi]; exact h1, by rw [h5]; exact h2, h6, h4.mono le hn hp⟩
  | arr k es =>
    obtain ⟨h0, h1 | ⟨g, c, cur, E, h1, h2, h3, h4, h5, h6, h7⟩⟩ := e
    · exact ⟨h0, .inl (by rw [hp i hi]; exact h1)⟩
    · obtain ⟨h8, h9⟩ := hb g (by rw [h1]; rfl)
      exact ⟨h0, .inr ⟨g, c, cur, E, by rw [hp i hi]; exact h1, by rw [h8]; exact h2, h3, h4, h5, h9, h7.mono le⟩⟩
  | arf k es =>
    obtain ⟨h0, h1 | ⟨g, c, cur, E, h1, h2, h3, h4, h5, h6, h7⟩⟩ := e
    · exact ⟨h0, .inl (by rw [hp i hi]; exact h1)⟩
    · obtain ⟨h8, h9⟩ := hb g (by rw [h1]; rfl)
      exact ⟨h0, .inr ⟨g, c, cur, E, by rw [hp i hi]; exact h1, by rw [h8]; exact h2, h3, h4, h5, h9, h7.mono le hn hp⟩⟩
  | lp r s =>
    obtain ⟨g, h1, h2, h3, h4, h5⟩ := e
    obtain ⟨h8, h9⟩ := hb g (by rw [h1]; rfl)
    exact ⟨g, by rw [hp i hi]; exact h1, by rw [h8]; exact h2, h9, h4, fun p hpm => (h5 p hpm).mono le hn hp⟩
  | mit m since seen st =>
    obtain ⟨g, mo, h1, h2, h3, h4⟩ := e
    obtain ⟨h8, h9⟩ := hb g (by rw [h1]; rfl)
    refine ⟨g, mo, by rw [hp i hi]; exact h1, by rw [h8]; exact h2, h9, ?_⟩
    cases m with
    | none => exact h4
    | some j =>
      obtain ⟨b, h5, h6, h7⟩ := h4
      exact ⟨b, h5, by omega, by rw [hp j h6]; exact h7⟩
  | map ag ks vs bs cl =>
    obtain ⟨g, ens, h1, h2, h3, h4, h5, h6⟩ := e
    obtain ⟨h8, h9⟩ := hb g (by rw [h1]; rfl)
    exact ⟨g, ens, by rw [hp i hi]; exact h1, by rw [h8]; exact h2, h9, h4, h5, h6.mono le hn hp⟩
def upd (φ : Nat → Value) (n : Nat) (v : Value) : Nat → Value := fun i => if i = n then v else φ i
theorem upd_lt {φ : Nat → Value} {n i : Nat} {v : Value} (h : i < n) : upd φ n v i = φ i := by unfold upd; rw [if_neg (by omega)]
theorem upd_self {φ : Nat → Value} {n : Nat} {v : Value} : upd φ n v n = v := by unfold upd; rw [if_pos rfl]
theorem get_append {T : Tab} {o : Option AObj} {i : Nat} {x : AObj} (e : (T ++ [o])[i]? = some (some x)) : (i < T.length ∧ T[i]? = some (some x)) ∨ (i = T.length ∧ o = some x) := by
  rcases Nat.lt_or_ge i T.length with hh | hh
  · rw [List.getElem?_append_left hh] at e; exact .inl ⟨hh, e⟩
  · rw [List.getElem?_append_right hh] at e
    have h0 : i - T.length = 0 := by
      rcases Nat.eq_zero_or_pos (i - T.length) with h | h
      · exact h
      · rw [List.getElem?_eq_none (by simp; omega)] at e; simp at e
    rw [h0] at e
    simp at e
    exact .inr ⟨by omega, e⟩
theorem get_set {T : Tab} {o : Option AObj} {i j : Nat} {x : AObj} (e : (T.set j o)[i]? = some (some x)) : (i = j ∧ o = some x) ∨ (i ≠ j ∧ T[i]? = some (some x)) := by
  rw [List.getElem?_set] at e
  split at e
  · rename_i hh
    subst hh
    split at e
    · injection e with e; exact .inl ⟨rfl, e⟩
    · simp at e
  · rename_i hh
    exact .inr ⟨fun h => hh h.symm, e⟩
theorem inv_new {h : GH} {φ : Nat → Value} {T : Tab} {w w' : World} (hI : Inv h φ w T) (hos : w'.os = w.os) (htp : w'.tape = w.tape) (hout : w'.output = w.output) (hsz : w.heap.size ≤ w'.heap.size)
    (hb : ∀ b, b < w.heap.size → w'.heap[b]? = w.heap[b]?) {o : AObj} {v : Value} (hv : ∀ g, blk v = some g → w.heap.size ≤ g) (ho : objAt h (upd φ T.length v) (T.length + 1) w' T.length o)
    (hdr : w.drawn ≤ w'.drawn := by first | exact Nat.le_refl _ | exact Nat.le_succ _ | assumption) :
    Inv h (upd φ T.length v) w' (T ++ [some o]) ∧ Evo h φ T w h (upd φ T.length v) (T ++ [some o]) w' := by
  have old : ∀ i x, T[i]? = some (some x) → i < T.length := by
    intro i x e
    rcases Nat.lt_or_ge i T.length with hh | hh
    · exact hh
    · rw [List.getElem?_eq_none hh] at e; simp at e
  refine ⟨⟨?_, ?_, ?_⟩, ⟨hos, htp, hout, hsz, fun b hb' _ => hb b hb', GLe.refl h, fun _ _ e => .inl e, fun i hi => upd_lt hi, ?_, by simp, hdr⟩⟩
  · intro b cs e
    obtain ⟨E, fr, hw⟩ := hI.gh b cs e
    exact ⟨E, fr, by rw [hb b (ghost_lt hI e)]; exact hw⟩
  · intro i x e
    rcases get_append e with ⟨hi, e'⟩ | ⟨rfl, e'⟩
    · have h1 := hI.obj i x e'
      rw [List.length_append]
      exact objAt_keep h1 (GLe.refl h) (by simp) (fun j hj => upd_lt hj) hi fun g hg => by
        obtain ⟨h2, h3⟩ := objAt_blk h1 hg
        exact ⟨hb g h2, h3⟩
    · injection e' with e'
      subst e'
      rw [List.length_append]
      exact ho
  · intro i j oi oj b ei ej hbi hbj
    rcases get_append ei with ⟨hi, ei'⟩ | ⟨rfl, ei'⟩ <;> rcases get_append ej with ⟨hj, ej'⟩ | ⟨rfl, ej'⟩
    · rw [upd_lt hi] at hbi; rw [upd_lt hj] at hbj
      exact hI.dis i j oi oj b ei' ej' hbi hbj
    · rw [upd_lt hi] at hbi; rw [upd_self] at hbj
      have := (objAt_blk (hI.obj i oi ei') hbi).1
      have := hv b hbj
      omega
    · rw [upd_self] at hbi; rw [upd_lt hj] at hbj
      have := (objAt_blk (hI.obj j oj ej') hbj).1
      have := hv b hbi
      omega
    · rfl
  · intro i x b e hbl
    rcases get_append e with ⟨hi, e'⟩ | ⟨rfl, e'⟩
    · rw [upd_lt hi] at hbl
      exact .inr ⟨i, x, e', hbl⟩
    · rw [upd_self] at hbl
      exact .inl (hv b hbl)
theorem inv_set {h : GH} {φ : Nat → Value} {T : Tab} {w w' : World} (hI : Inv h φ w T) (hos : w'.os = w.os) (htp : w'.tape = w.tape) (hout : w'.output = w.output) (hsz : w.heap.size ≤ w'.heap.size)
    {i : Nat} {o o' : AObj} (hi : T[i]? = some (some o)) (hb : ∀ b, b < w.heap.size → blk (φ i) ≠ some b → w'.heap[b]? = w.heap[b]?) (ho : objAt h φ T.length w' i o')
    (hdr : w.drawn ≤ w'.drawn := by first | exact Nat.le_refl _ | exact Nat.le_succ _ | assumption) :
    Inv h φ w' (T.set i (some o')) ∧ Evo h φ T w h φ (T.set i (some o')) w' := by
  have hlt : i < T.length := by
    rcases Nat.lt_or_ge i T.length with hh | hh
    · exact hh
    · rw [List.getElem?_eq_none hh] at hi; simp at hi
  refine ⟨⟨?_, ?_, ?_⟩, ⟨hos, htp, hout, hsz, fun b hb' hn => hb b hb' (hn i o hi), GLe.refl h, fun _ _ e => .inl e, fun _ _ => rfl, ?_, by simp, hdr⟩⟩
  · intro b cs e
    obtain ⟨E, fr, hw⟩ := hI.gh b cs e
    refine ⟨E, fr, ?_⟩
    rw [hb b (ghost_lt hI e) fun hbl => ?_]
    · exact hw
    · have := (objAt_blk (hI.obj i o hi) hbl).2
      rw [e] at this
      simp at this
  · intro j x e
    rw [List.length_set]
    rcases get_set e with ⟨rfl, e'⟩ | ⟨hne, e'⟩
    · injection e' with e'
      subst e'
      exact ho
    · have h1 := hI.obj j x e'
      have hj : j < T.length := by
        rcases Nat.lt_or_ge j T.length with hh | hh
        · exact hh
        · rw [List.getElem?_eq_none hh] at e'; simp at e'
      exact objAt_keep h1 (GLe.refl h) (Nat.le_refl _) (fun _ _ => rfl) hj fun g hg => by
        obtain ⟨h2, h3⟩ := objAt_blk h1 hg
        exact ⟨hb g h2 fun hbl => hne (hI.dis j i x o g e' hi hg hbl), h3⟩
  · intro j k oj ok b ej ek hbj hbk
    have get : ∀ {m : Nat} {x : AObj}, (T.set i (some o'))[m]? = some (some x) → ∃ y, T[m]? = some (some y) := by
      intro m x e
      rcases get_set e with ⟨rfl, _⟩ | ⟨_, e'⟩
      · exact ⟨o, hi⟩
      · exact ⟨x, e'⟩
    obtain ⟨y, hy⟩ := get ej
    obtain ⟨z, hz⟩ := get ek
    exact hI.dis j k y z b hy hz hbj hbk
  · intro j x b e hbl
    rcases get_set e with ⟨rfl, _⟩ | ⟨_, e'⟩
    · exact .inr ⟨j, o, hi, hbl⟩
    · exact .inr ⟨j, x, e', hbl⟩
theorem inv_drop {h : GH} {φ : Nat → Value} {T : Tab} {w : World} (hI : Inv h φ w T) (i : Nat) : Inv h φ w (T.set i none) ∧ Evo h φ T w h φ (T.set i none) w := by
  have get : ∀ {m : Nat} {x : AObj}, (T.set i none)[m]? = some (some x) → T[m]? = some (some x) := by
    intro m x e
    rcases get_set e with ⟨_, e'⟩ | ⟨_, e'⟩
    · simp at e'
    · exact e'
  refine ⟨⟨hI.gh, ?_, ?_⟩, ⟨rfl, rfl, rfl, Nat.le_refl _, fun _ _ _ => rfl, GLe.refl h, fun _ _ e => .inl e, fun _ _ => rfl, ?_, by simp, Nat.le_refl _⟩⟩
  · intro j x e; rw [List.length_set]; exact hI.obj j x (get e)
  · intro j k x y b e e'; exact hI.dis j k x y b (get e) (get e')
  · intro j x b e hb; exact .inr ⟨j, x, get e, hb⟩
end Hud
end
section
namespace Hud
open Go
section
variable {P : Program} {G : Nat → Option (List AV)} {h : GH} {φ : Nat → Value} {T : Tab} {w : World} {s : List (Nat × AV)} {a : Act}
def Makes (h : GH) (φ : Nat → Value) (T : Tab) (w : World) (run : Result Value) (x : AV) (T' : Tab) : Prop :=
  ∃ v w' h' φ', run = .ok v w' ∧ Evo h φ T w h' φ' T' w' ∧ Inv h' φ' w' T' ∧ Rp h' φ' T'.length x v
theorem heap_alloc_lt (w : World) (o : Obj) (b : Nat) (h : b < w.heap.size) : (w.alloc o).heap[b]? = w.heap[b]?
    := by rw [World.alloc, Array.getElem?_push, if_neg (by omega)]
theorem new_box (hI : Inv h φ w T) {cs : List AV} {us : Array Value} (hr : RpL h φ T.length cs us.toList) (E : TypeId) :
    Makes h φ T w (.ok (.pointer (some ⟨w.heap.size, 0, none⟩)) (w.alloc (.cells us E))) (.ptr T.length 0) (T ++ [some (.box cs)]) := by
  have hn : h w.heap.size = none := by
    cases e : h w.heap.size with
    | none => rfl
    | some cs => have := ghost_lt hI e; omega
  have := inv_new (w' := w.alloc (.cells us E)) (o := .box cs) (v := .pointer (some ⟨w.heap.size, 0, none⟩)) hI rfl rfl rfl (by simp) (fun b hb => heap_alloc_lt w _ b hb)
    (fun g hg => by simp only [blk, Option.some.injEq] at hg; omega)
    ⟨w.heap.size, us, E, upd_self, heap_alloc_new w _, hn, hr.mono (GLe.refl h) (by omega) fun i hi => upd_lt hi⟩
  refine ⟨_, _, h, _, rfl, this.2, this.1, ?_⟩
  simp only [Rp]
  exact ⟨by simp, w.heap.size, upd_self, rfl⟩
theorem box_makes (hG : GOk G h) (hI : Inv h φ w T) (hS : SOk h φ T.length s a) {E : TypeId} {p : Operand} {x : AV} {T' : Tab} (he : hop T (evO G s) (.box p) = some (x, T')) :
    Makes h φ T w ((Instr.box E (a.eval p)).run P w) x T' := by
  simp only [hop] at he
  split at he
  · rename_i hone
    injection he with he; injection he with e1 e2; subst e1; subst e2
    have hr := cellsA_ok (ev_ok hG hS p) (fun c hc => List.all_eq_true.1 hone c hc)
    have : (Instr.box E (a.eval p)).run P w = .ok (.pointer (some ⟨w.heap.size, 0, none⟩)) (w.alloc (.cells (a.eval p).cells E)) := by
      simp [Instr.box, newVar, newRow]
    rw [this]
    exact new_box hI hr E
  · simp at he
theorem rpl_v (h : GH) (φ : Nat → Value) (n : Nat) : ∀ (us : List Value), RpL h φ n (us.map .v) us
  | [] => by simp [RpL]
  | u :: us => by simp only [List.map_cons, RpL]; exact ⟨u, us, rfl, by simp [Rp], rpl_v h φ n us⟩
theorem alloc_makes (hI : Inv h φ w T) {E : TypeId} {i : TypeInfo} {z : Value} (hi : P.info? E = some i) (hz : i.zero = some z) {ev : Operand → AV} {x : AV} {T' : Tab} (he : hop T ev (.alloc z.cells.toList) = some (x, T')) :
    Makes h φ T w ((Instr.alloc E true (.tuple #[])).run P w) x T' := by
  simp only [hop] at he
  injection he with he; injection he with e1 e2; subst e1; subst e2
  have : (Instr.alloc E true (.tuple #[])).run P w = .ok (.pointer (some ⟨w.heap.size, 0, none⟩)) (w.alloc (.cells z.cells E)) := by
    simp [Instr.alloc, zeroValue, typeInfo, hi, hz, newVar, newRow]
  rw [this]
  exact new_box hI (by simpa using rpl_v h φ T.length z.cells.toList) E
theorem fold_set (vs : Array Value) (off : Nat) (cs : Array Value) (hl : off + vs.size ≤ cs.size) :
    (vs.zipIdx.foldl (fun cs (c, j) => cs.setIfInBounds (off + j) c) cs).toList = cs.toList.take off ++ vs.toList ++ cs.toList.drop (off + vs.size) := by
  have key : ∀ (l : List Value) (k : Nat) (cs : Array Value), off + k + l.length ≤ cs.size →
      ((l.zipIdx k).foldl (fun (cs : Array Value) (p : Value × Nat) => cs.setIfInBounds (off + p.2) p.1) cs).toList = cs.toList.take (off + k) ++ l ++ cs.toList.drop (off + k + l.length) := by
    intro l
    induction l with
    | nil => intro k cs _; simp
    | cons v l ih =>
      intro k cs hc
      simp only [List.length_cons] at hc
      simp only [List.zipIdx_cons, List.foldl_cons]
      rw [ih (k + 1) _ (by simp; omega)]
      have := list_seg_step cs.toList (off + k) v l (by simp; omega)
      simpa [Array.toList_setIfInBounds, Nat.add_assoc] using this
  have := key vs.toList 0 cs (by simpa using hl)
  rw [← Array.foldl_toList, Array.toList_zipIdx]
  simpa using this
def partsV (a : Act) (l : List (Nat × Nat × Operand)) : List (Nat × Nat × Value) := l.map fun p => (p.1, p.2.1, a.eval p.2.2)
def layV (cells : List Value) : List (Nat × Nat × Value) → Option (List Value)
  | [] => some cells
  | (off, n, x) :: r => if x.cells.size = n ∧ off + n ≤ cells.length then layV (cells.take off ++ x.cells.toList ++ cells.drop (off + n)) r else none
theorem lay_ok (hG : GOk G h) (hS : SOk h φ T.length s a) : ∀ (l : List (Nat × Nat × Operand)) {cells : List AV} {us : List Value} {cs : List AV}, RpL h φ T.length cells us →
    layA cells (l.map fun p => (p.1, p.2.1, evO G s p.2.2)) = some cs → ∃ vs, layV us (partsV a l) = some vs ∧ RpL h φ T.length cs vs
  | [], cells, us, cs, hr, e => by
    simp only [List.map_nil, layA, Option.some.injEq] at e
    subst e
    exact ⟨us, rfl, hr⟩
  | p :: l, cells, us, cs, hr, e => by
    simp only [List.map_cons, layA] at e
    split at e
    · rename_i hc
      have hx := cellsA_ok (ev_ok hG hS p.2.2) (fun c hc' => List.all_eq_true.1 hc.2.2 c hc')
      have hl := hx.length
      have hrl := hr.length
      simp only [partsV, List.map_cons, layV]
      rw [if_pos ⟨by simp only [Array.length_toList] at hl; omega, by omega⟩]
      exact lay_ok hG hS l (((hr.take _).app hx).app (hr.drop _)) e
    · simp at e
theorem fill_ok {place : Nat → Option (Nat × Nat)} (pl : Nat → Nat × Nat) : ∀ (l : List (Nat × Value)) (cells : Array Value) (vs : List Value),
    (∀ p ∈ l, place p.1 = some (pl p.1)) → layV cells.toList (l.map fun p => ((pl p.1).1, (pl p.1).2, p.2)) = some vs → Instr.fill place cells l = some vs.toArray
  | [], cells, vs, _, e => by
    simp only [List.map_nil, layV, Option.some.injEq] at e
    subst e
    simp [Instr.fill]
  | (i, v) :: l, cells, vs, hf, e => by
    have hp := hf (i, v) (by simp)
    simp only [List.map_cons, layV] at e
    split at e
    · rename_i hc
      simp only [Array.length_toList] at hc
      simp only [Instr.fill, hp]
      rw [if_neg (by simp; omega)]
      refine fill_ok pl l _ vs (fun p hp => hf p (by simp [hp])) ?_
      rw [fold_set _ _ _ (by omega), hc.1]
      exact e
    · simp at e
theorem partsA_eq (n : Nat) : ∀ (l : List (Nat × Operand)), partsA n l = l.map fun p => (p.1 * n, n, p.2)
  | [] => rfl
  | (i, x) :: l => by simp [partsA, partsA_eq n l]
def plB (P : Program) (fs : List Field) (i : Nat) : Nat × Nat := match fs[i]? with | some f => (f.offset, (sizeT P f.type).getD 0) | none => (0, 0)
theorem partsB_eq {fs : List Field} : ∀ {l : List (Nat × Operand)} {r : List (Nat × Nat × Operand)}, partsB P fs l = some r →
    r = (l.map fun p => ((plB P fs p.1).1, (plB P fs p.1).2, p.2)) ∧ ∀ p ∈ l, ∃ f n, fs[p.1]? = some f ∧ sizeT P f.type = some n ∧ plB P fs p.1 = (f.offset, n)
  | [], r, e => by simp only [partsB, Option.some.injEq] at e; subst e; simp
  | (i, x) :: l, r, e => by
    simp only [partsB] at e
    split at e
    · simp at e
    · rename_i f hf
      split at e
      · rename_i n l' hn hl
        injection e with e
        obtain ⟨h1, h2⟩ := partsB_eq hl
        have hp : plB P fs i = (f.offset, n) := by simp [plB, hf, hn]
        subst h1
        subst e
        refine ⟨by simp [hp], fun p hp' => ?_⟩
        rcases List.mem_cons.1 hp' with rfl | hp'
        · exact ⟨f, n, hf, hn, hp⟩
        · exact h2 p hp'
      · simp at e
theorem mapM_places (fs : List Field) (hs : ∀ f ∈ fs, (sizeT P f.type).isSome = true) :
    (fs.mapM fun f => do pure (f.offset, ← Go.sizeOf f.type) : Sem (List (Nat × Nat))).run P w = .ok (fs.map fun f => (f.offset, (sizeT P f.type).getD 0)) w := by
  induction fs with
  | nil => simp
  | cons f fs ih =>
    obtain ⟨n, hn⟩ := Option.isSome_iff_exists.1 (hs f (by simp))
    rw [List.mapM_cons]
    simp only [Sem.run_bind, sizeT_some hn, Result.andThen_ok, Sem.run_pure, ih fun f hf => hs f (by simp [hf]), List.map_cons, hn, Option.getD_some]
theorem bldS_gives {t : TypeId} {fs : Array Field} (ht : P.underlying t = some (.struct fs)) {i : TypeInfo} (hi : P.info? t = some i) {z : Value} (hz : i.zero = some z) {parts : Array (Nat × Operand)} {l : List (Nat × Nat × Operand)}
    (hl : partsB P fs.toList parts.toList = some l) (hfs : fs.toList.all (fun f => (sizeT P f.type).isSome) = true) (hG : GOk G h) (hS : SOk h φ T.length s a) {x : AV} {T' : Tab}
    (he : hop T (evO G s) (.bld z.cells.toList l) = some (x, T')) :
    T' = T ∧ ∃ v, (Instr.build t (parts.map fun (i, x) => (i, a.eval x))).run P w = .ok v w ∧ Rp h φ T.length x v := by
  simp only [hop] at he
  split at he
  · rename_i cs hcs
    injection he with he; injection he with e1 e2; subst e1; subst e2
    obtain ⟨vs, h1, h2⟩ := lay_ok hG hS l (rpl_v h φ T.length z.cells.toList) hcs
    obtain ⟨h3, h4⟩ := partsB_eq hl
    have hpl := mapM_places (P := P) (w := w) fs.toList (fun f hf => List.all_eq_true.1 hfs f hf)
    have hfill := fill_ok (place := fun i => (fs.toList.map fun f => (f.offset, (sizeT P f.type).getD 0)).toArray[i]?) (plB P fs.toList) (parts.toList.map fun p => (p.1, a.eval p.2)) z.cells vs
      (fun p hp => by
        obtain ⟨q, hq, rfl⟩ := List.mem_map.1 hp
        obtain ⟨f, n, hf, hn, hb⟩ := h4 q hq
        simp [hf, hb, hn]) (by rw [← h1, h3]; simp [partsV, List.map_map, Function.comp_def])
    refine ⟨rfl, .agg vs.toArray, ?_, by simp only [Rp]; exact ⟨_, rfl, by simpa using h2⟩⟩
    have hm : (fs.mapM fun f => do pure (f.offset, ← Go.sizeOf f.type) : Sem (Array (Nat × Nat))).run P w = .ok (fs.toList.map fun f => (f.offset, (sizeT P f.type).getD 0)).toArray w := by
      rw [Array.mapM_eq_mapM_toList]
      simp only [Sem.run_map, hpl, Result.andThen_ok]
    simp only [Instr.build, Sem.run_bind, zeroValue, typeInfo, run_program, Result.andThen_ok, hi, Sem.run_pure, hz, run_underlying ht, hm]
    simp only [Array.toList_map]
    rw [hfill]
    rfl
  · simp at he
end
end Hud
end
