/- Addresses, fields, places, lengths. -/
import Derived.Test.YthmdkjeflllfpaaHudI
set_option linter.all false
namespace Hud
open Go

section
variable {P : Program} {G : Nat → Option (List AV)} {h : GH} {φ : Nat → Value} {T : Tab} {w : World} {s : List (Nat × AV)} {a : Act}

theorem sizeT_some {t : TypeId} {n : Nat} (e : sizeT P t = some n) : (Go.sizeOf t).run P w = .ok n w := by
  unfold sizeT at e
  cases hi : P.info? t with
  | none => simp [hi] at e
  | some i => simp [hi] at e; subst e; simp [Go.sizeOf, typeInfo, hi]

theorem fad_gives {t : TypeId} {fs : Array Field} (ht : P.underlying t = some (.struct fs)) {f : Nat} {fd : Field} (hf : fs[f]? = some fd) {n : Nat} (hn : sizeT P fd.type = some n) (h0 : n ≠ 0)
    (hG : GOk G h) (hS : SOk h φ T.length s a) {p : Operand} {x : AV} {T' : Tab} (he : hop T (evO G s) (.fad p fd.offset) = some (x, T')) :
    T' = T ∧ ∃ v, (Instr.fieldAt t (a.eval p) f).run P w = .ok v w ∧ Rp h φ T.length x v := by
  have hp := ev_ok hG hS p
  have run : ∀ b o, (Instr.fieldAt t (.pointer (some ⟨b, o, none⟩)) f).run P w = .ok (.pointer (some ⟨b, o + fd.offset, none⟩)) w := by
    intro b o
    simp [Instr.fieldAt, run_underlying ht, hf, Instr.sureAddr, fieldPlace, sizeT_some hn, h0, add_none]
  simp only [hop] at he
  split at he
  · rename_i i off hev
    rw [hev] at hp; simp only [Rp] at hp
    obtain ⟨hi, g, hφ, hu⟩ := hp
    injection he with he; injection he with e1 e2; subst e1; subst e2
    rw [hu]
    exact ⟨rfl, _, run g off, by simp only [Rp]; exact ⟨hi, g, hφ, rfl⟩⟩
  · rename_i i k j off hev
    rw [hev] at hp; simp only [Rp] at hp
    obtain ⟨hi, g, l, c, hφ, hu⟩ := hp
    injection he with he; injection he with e1 e2; subst e1; subst e2
    rw [hu]
    exact ⟨rfl, _, run g _, by simp only [Rp]; exact ⟨hi, g, l, c, hφ, by rw [Nat.add_assoc]⟩⟩
  · rename_i cs hev
    rw [hev] at hp; simp only [Rp] at hp
    obtain ⟨b, o, hu, hc⟩ := hp
    injection he with he; injection he with e1 e2; subst e1; subst e2
    rw [hu]
    exact ⟨rfl, _, run b o, by simp only [Rp]; exact ⟨b, _, rfl, hc.drop _⟩⟩
  · simp at he

theorem part_gives {t : TypeId} {m : Option Nat} (ht : aggT P t = some m) {us : Array Value} {cs : List AV} {n : Nat} (hr : RpL h φ n cs us.toList) {off : Nat} {x : AV} (hx : cutA cs off m = some x) :
    ∃ v, (part t us off).run P w = .ok v w ∧ Rp h φ n x v := by
  have hk := cutA_ok hr hx
  have ha := aggT_some (w := w) ht
  cases m with
  | none =>
    obtain ⟨u, h1, h2⟩ := hk
    refine ⟨u, ?_, h2⟩
    have : us[off]? = some u := by simpa using h1
    simp [part, ha.1, this]
  | some k =>
    obtain ⟨h1, h2⟩ := hk
    refine ⟨_, ?_, h2⟩
    simp only [part, Sem.run_bind, ha.1, ha.2, Result.andThen_ok, if_true, Sem.run_pure]
    congr 2
    apply Array.toList_inj.1
    simp [Array.toList_extract, List.extract]

theorem fld_gives {t : TypeId} {fs : Array Field} (ht : P.underlying t = some (.struct fs)) {f : Nat} {fd : Field} (hf : fs[f]? = some fd) {m : Option Nat} (hm : aggT P fd.type = some m)
    (hG : GOk G h) (hS : SOk h φ T.length s a) {p : Operand} {x : AV} {T' : Tab} (he : hop T (evO G s) (.fld p fd.offset m) = some (x, T')) :
    T' = T ∧ ∃ v, (Instr.field t (a.eval p) f).run P w = .ok v w ∧ Rp h φ T.length x v := by
  have hp := ev_ok hG hS p
  simp only [hop] at he
  split at he
  · rename_i cs hev
    rw [hev] at hp; simp only [Rp] at hp
    obtain ⟨us, hu, hr⟩ := hp
    split at he
    · rename_i y hy
      injection he with he; injection he with e1 e2; subst e1; subst e2
      obtain ⟨v, h1, h2⟩ := part_gives (P := P) (w := w) hm hr hy
      rw [hu]
      exact ⟨rfl, v, by simp [Instr.field, run_underlying ht, hf, asAgg, h1], h2⟩
    · simp at he
  · rename_i us hev
    rw [hev] at hp; simp only [Rp] at hp
    split at he
    · rename_i y hy
      injection he with he; injection he with e1 e2; subst e1; subst e2
      have hr : RpL h φ T.length (us.toList.map .v) us.toList := RpL.mk (by simp) fun i c u hc hu => by
        rw [List.getElem?_map, hu] at hc
        simp at hc
        subst hc
        simp [Rp]
      obtain ⟨v, h1, h2⟩ := part_gives (P := P) (w := w) hm hr hy
      rw [hp]
      exact ⟨rfl, v, by simp [Instr.field, run_underlying ht, hf, asAgg, h1], h2⟩
    · simp at he
  · simp at he

theorem iad_gives {t e : TypeId} (ht : P.underlying t = some (.slice e)) {k : Nat} (hk : sizeT P e = some k)
    (hG : GOk G h) (hI : Inv h φ w T) (hS : SOk h φ T.length s a) {p q : Operand} {x : AV} {T' : Tab} (he : hop T (evO G s) (.iad p q k) = some (x, T')) :
    T' = T ∧ ∃ v, (Instr.indexAt t (a.eval p) (a.eval q)).run P w = .ok v w ∧ Rp h φ T.length x v := by
  have hp := ev_ok hG hS p
  have run : ∀ b o len cap kd (i : Int), 0 ≤ i → i.toNat < len → (Instr.indexAt t (.slice (some ⟨b, o, none⟩) len cap) (.int kd i)).run P w = .ok (.pointer (some ⟨b, o + i.toNat * k, none⟩)) w := by
    intro b o len cap kd i h0 hl
    have : 0 ≤ i ∧ i < len := ⟨h0, by omega⟩
    simp [Instr.indexAt, run_underlying ht, asIntOf, this, sizeT_some hk, add_none]
  simp only [hop] at he
  split at he
  · rename_i k' es kd i hev hix
    rw [hev] at hp; simp only [Rp, RpD] at hp
    obtain ⟨A, c, hu, h1, h2, h3⟩ := hp
    split at he
    · rename_i hc
      obtain ⟨rfl, h0⟩ := hc
      split at he
      · rename_i el hj
        injection he with he; injection he with e1 e2; subst e1; subst e2
        have hlt : i.toNat < es.length := by
          rcases Nat.lt_or_ge i.toNat es.length with hh | hh
          · exact hh
          · simp [List.getElem?_eq_none hh] at hj
        rcases h3 with rfl | ⟨b, o, rfl, hE⟩
        · simp at hj
        · rw [hu, ev_v hG hS hix]
          refine ⟨rfl, _, run b o _ _ _ i h0 hlt, ?_⟩
          simp only [Rp]
          exact ⟨b, _, rfl, (hE.get hj).2⟩
      · simp at he
    · simp at he
  · rename_i i0 kd i hev hix
    rw [hev] at hp; simp only [Rp] at hp
    split at he
    · rename_i k' es hg
      split at he
      · rename_i hc
        obtain ⟨rfl, h0, hlt⟩ := hc
        injection he with he; injection he with e1 e2; subst e1; subst e2
        have hj : es[i.toNat]? = some es[i.toNat] := List.getElem?_eq_getElem hlt
        obtain ⟨g, c, us, hφ, _, _⟩ := elt_cells hI hg hj
        rw [hp.2.1, hφ, ev_v hG hS hix]
        refine ⟨rfl, _, run g 0 _ _ _ i h0 hlt, ?_⟩
        simp only [Rp]
        exact ⟨hp.1, g, _, c, hφ, by simp⟩
      · simp at he
    · simp at he
  · rename_i i0 k' lo m kd i hev hix
    rw [hev] at hp; simp only [Rp] at hp
    split at he
    · rename_i hc
      obtain ⟨rfl, h0, hlt⟩ := hc
      injection he with he; injection he with e1 e2; subst e1; subst e2
      obtain ⟨hi0, A, c, hu, _, _, h3⟩ := hp
      rcases h3 with rfl | ⟨g, l, c', hφ, rfl, hle⟩
      · omega
      · rw [hu, ev_v hG hS hix]
        refine ⟨rfl, _, run g _ _ _ _ i h0 hlt, ?_⟩
        simp only [Rp]
        exact ⟨hi0, g, l, c', hφ, by rw [Nat.add_mul, Nat.add_zero]⟩
    · simp at he
  · simp at he

theorem iadA_gives {t e : TypeId} {len : Nat} (ht : P.underlying t = some (.array len e)) {k : Nat} (hk : sizeT P e = some k)
    (hG : GOk G h) (hS : SOk h φ T.length s a) {p q : Operand} {x : AV} {T' : Tab} (he : hop T (evO G s) (.iadA p q len k) = some (x, T')) :
    T' = T ∧ ∃ v, (Instr.indexAt t (a.eval p) (a.eval q)).run P w = .ok v w ∧ Rp h φ T.length x v := by
  have hp := ev_ok hG hS p
  have run : ∀ b o kd (i : Int), 0 ≤ i ∧ i < len → (Instr.indexAt t (.pointer (some ⟨b, o, none⟩)) (.int kd i)).run P w = .ok (.pointer (some ⟨b, o + i.toNat * k, none⟩)) w := by
    intro b o kd i hc
    simp [Instr.indexAt, run_underlying ht, asIntOf, Instr.sureAddr, hc, sizeT_some hk, add_none]
  simp only [hop] at he
  split at he
  · rename_i j o kd i hev hix
    rw [hev] at hp; simp only [Rp] at hp
    obtain ⟨hi, g, hφ, hu⟩ := hp
    split at he
    · rename_i hc
      injection he with he; injection he with e1 e2; subst e1; subst e2
      rw [hu, ev_v hG hS hix]
      exact ⟨rfl, _, run g o _ i hc, by simp only [Rp]; exact ⟨hi, g, hφ, rfl⟩⟩
    · simp at he
  · rename_i cs kd i hev hix
    rw [hev] at hp; simp only [Rp] at hp
    obtain ⟨b, o, hu, hcs⟩ := hp
    split at he
    · rename_i hc
      injection he with he; injection he with e1 e2; subst e1; subst e2
      rw [hu, ev_v hG hS hix]
      exact ⟨rfl, _, run b o _ i hc, by simp only [Rp]; exact ⟨b, _, rfl, hcs.drop _⟩⟩
    · simp at he
  · simp at he

theorem ixS_gives {t : TypeId} (ht : P.underlying t = some .string)
    (hG : GOk G h) (hS : SOk h φ T.length s a) {p q : Operand} {x : AV} {T' : Tab} (he : hop T (evO G s) (.ixS p q) = some (x, T')) :
    T' = T ∧ ∃ v, (Instr.index t (a.eval p) (a.eval q)).run P w = .ok v w ∧ Rp h φ T.length x v := by
  simp only [hop] at he
  split at he
  · rename_i sb kd i hev hix
    split at he
    · rename_i h0
      split at he
      · rename_i b hb
        injection he with he; injection he with e1 e2; subst e1; subst e2
        rw [ev_v hG hS hev, ev_v hG hS hix]
        refine ⟨rfl, .int .u8 b.toNat, ?_, by simp [Rp]⟩
        have : sb[i.toNat]? = some b := by
          have hlt : i.toNat < sb.data.size := by
            rcases Nat.lt_or_ge i.toNat sb.data.size with hh | hh
            · exact hh
            · simp [Array.getElem?_eq_none hh] at hb
          rw [Array.getElem?_eq_getElem hlt] at hb
          rw [getElem?_pos sb i.toNat hlt]
          exact hb
        simp [Instr.index, run_underlying ht, asIntOf, h0, this]
      · simp at he
    · simp at he
  · simp at he

theorem lenS_gives {t ty : TypeId} (ht : P.underlying t = some .string)
    (hG : GOk G h) (hS : SOk h φ T.length s a) {p : Operand} {x : AV} {T' : Tab} {ts : Array TypeId} (hts : ts[0]? = some t) (he : hop T (evO G s) (.lenS p) = some (x, T')) :
    T' = T ∧ ∃ v, (Builtin.len_ ts ty #[a.eval p]).run P w = .ok v w ∧ Rp h φ T.length x v := by
  simp only [hop] at he
  split at he
  · rename_i sb hev
    injection he with he; injection he with e1 e2; subst e1; subst e2
    rw [ev_v hG hS hev]
    exact ⟨rfl, goInt sb.size, by simp [Builtin.len_, hts, run_underlying ht], by simp [Rp, goInt]⟩
  · simp at he

theorem lenL_gives {t e ty : TypeId} (ht : P.underlying t = some (.slice e))
    (hG : GOk G h) (hI : Inv h φ w T) (hS : SOk h φ T.length s a) {p : Operand} {x : AV} {T' : Tab} {ts : Array TypeId} (hts : ts[0]? = some t) (he : hop T (evO G s) (.lenL p) = some (x, T')) :
    T' = T ∧ ∃ v, (Builtin.len_ ts ty #[a.eval p]).run P w = .ok v w ∧ Rp h φ T.length x v := by
  have hp := ev_ok hG hS p
  have run : ∀ A l c, (Builtin.len_ ts ty #[.slice A l c]).run P w = .ok (goInt l) w := by
    intro A l c
    simp [Builtin.len_, hts, run_underlying ht]
  simp only [hop] at he
  split at he
  · rename_i k es hev
    rw [hev] at hp; simp only [Rp, RpD] at hp
    obtain ⟨A, c, hu, _⟩ := hp
    injection he with he; injection he with e1 e2; subst e1; subst e2
    rw [hu]
    exact ⟨rfl, _, run _ _ _, by simp [Rp, goInt]⟩
  · rename_i i hev
    rw [hev] at hp; simp only [Rp] at hp
    split at he
    · rename_i k es hg
      injection he with he; injection he with e1 e2; subst e1; subst e2
      rw [hp.2.1]
      obtain ⟨_, h1 | ⟨g, c, cur, E, hφ, _⟩⟩ := arr_cells hI hg
      · rw [h1.1, h1.2]
        exact ⟨rfl, _, run _ _ _, by simp [Rp, goInt]⟩
      · rw [hφ]
        exact ⟨rfl, _, run _ _ _, by simp [Rp, goInt]⟩
    · simp at he
  · rename_i hev
    injection he with he; injection he with e1 e2; subst e1; subst e2
    rw [ev_v hG hS hev]
    exact ⟨rfl, _, run _ _ _, by simp [Rp, goInt]⟩
  · rename_i i k lo m hev
    rw [hev] at hp; simp only [Rp] at hp
    obtain ⟨_, A, c, hu, _⟩ := hp
    injection he with he; injection he with e1 e2; subst e1; subst e2
    rw [hu]
    exact ⟨rfl, _, run _ _ _, by simp [Rp, goInt]⟩
  · simp at he
end
end Hud
