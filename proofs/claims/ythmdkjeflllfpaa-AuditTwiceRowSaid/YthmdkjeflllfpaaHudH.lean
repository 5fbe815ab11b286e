/- Structs compared part by part. -/
import Derived.Test.YthmdkjeflllfpaaHudG
set_option linter.all false
namespace Hud
open Go

section
variable {P : Program} {w : World}

theorem eqV_len : ∀ {ks : List LK} {xs ys : List Value} {b : Bool}, eqV ks xs ys = some b → xs.length = ks.length ∧ ys.length = ks.length
  | [], xs, ys, b, e => by cases xs <;> cases ys <;> simp_all [eqV]
  | k :: ks, xs, ys, b, e => by
    cases xs with
    | nil => cases k <;> simp [eqV] at e
    | cons x xs =>
      cases ys with
      | nil => cases k <;> cases x <;> simp [eqV] at e
      | cons y ys =>
        cases k <;> cases x <;> cases y <;> simp only [eqV] at e <;> (try (simp at e; done))
        case int.int.int k k1 p k2 q =>
          split at e
          · split at e
            · rename_i r hr
              have := eqV_len hr
              simp [this.1, this.2]
            · simp at e
          · simp at e
        all_goals
          split at e
          · rename_i r hr
            have := eqV_len hr
            simp [this.1, this.2]
          · simp at e

/-- Rows compared in two parts. -/
theorem eqV_app : ∀ {ks ls : List LK} {xs ys : List Value} {b : Bool}, eqV (ks ++ ls) xs ys = some b →
    ∃ b1 b2, eqV ks (xs.take ks.length) (ys.take ks.length) = some b1 ∧ eqV ls (xs.drop ks.length) (ys.drop ks.length) = some b2 ∧ b = (b1 && b2)
  | [], ls, xs, ys, b, e => ⟨true, b, by simp [eqV], by simpa using e, by simp⟩
  | k :: ks, ls, xs, ys, b, e => by
    cases xs with
    | nil => cases k <;> simp [eqV] at e
    | cons x xs =>
      cases ys with
      | nil => cases k <;> cases x <;> simp [eqV] at e
      | cons y ys =>
        simp only [List.cons_append] at e
        cases k <;> cases x <;> cases y <;> simp only [eqV] at e <;> (try (simp at e; done))
        case int.int.int k k1 a k2 c =>
          split at e
          · rename_i hk
            split at e
            · rename_i r hr
              injection e with e
              obtain ⟨b1, b2, h1, h2, h3⟩ := eqV_app hr
              exact ⟨a == c && b1, b2, by simp [eqV, hk, h1], by simpa using h2, by rw [← e, h3]; simp [Bool.and_assoc]⟩
            · simp at e
          · simp at e
        case bool.bool.bool a c =>
          split at e
          · rename_i r hr
            injection e with e
            obtain ⟨b1, b2, h1, h2, h3⟩ := eqV_app hr
            exact ⟨a == c && b1, b2, by simp [eqV, h1], by simpa using h2, by rw [← e, h3]; simp [Bool.and_assoc]⟩
          · simp at e
        case str.string.string a c =>
          split at e
          · rename_i r hr
            injection e with e
            obtain ⟨b1, b2, h1, h2, h3⟩ := eqV_app hr
            exact ⟨a.toList == c.toList && b1, b2, by simp [eqV, h1], by simpa using h2, by rw [← e, h3]; simp [Bool.and_assoc]⟩
          · simp at e

/-- A part's value. -/
abbrev packV (ag : Bool) (xs : List Value) : Value := keyV ag xs

theorem part_run {t : TypeId} {X : Array Value} {off : Nat} {ag : Bool} {n : Nat} (ha : aggT P t = some (aggOf ag n)) (hn : ag = false → n = 1) (hl : off + n ≤ X.size) :
    (part t X off).run P w = .ok (packV ag ((X.toList.drop off).take n)) w := by
  cases ag with
  | false =>
    have := hn rfl
    subst this
    have h0 : aggT P t = some none := ha
    have h := aggT_some (w := w) h0
    have hx : X[off]? = some X[off] := Array.getElem?_eq_getElem (by omega)
    simp only [part, Sem.run_bind, h.1, Result.andThen_ok, Bool.false_eq_true, if_false, hx, keyV]
    simp [List.getElem?_drop, hx]
  | true =>
    have h0 : aggT P t = some (some n) := ha
    have h := aggT_some (w := w) h0
    simp only [part, Sem.run_bind, h.1, h.2, Result.andThen_ok, if_true, keyV, Sem.run_pure]
    congr 2
    apply Array.toList_inj.1
    simp [Array.toList_extract, List.extract]

theorem eq_fields {n : Nat} (ih : ∀ t ag ks, kindsT P n t = some (ag, ks) → (ag = false → ks.length = 1) ∧ ∀ d, n ≤ d → ∀ xs ys b, eqV ks xs ys = some b → (Op.equalIn d t (packV ag xs) (packV ag ys)).run P w = .ok b w)
    {d : Nat} (hd : n ≤ d) (X Y : Array Value) : ∀ (fs : List Field) (off : Nat) (ks : List LK) (b : Bool), kindsF P (kindsT P n) fs off = some ks →
      eqV ks (X.toList.drop off) (Y.toList.drop off) = some b → off ≤ X.size → off ≤ Y.size → (Op.eqFields d X Y fs).run P w = .ok b w
  | [], off, ks, b, hk, he, _, _ => by
    simp only [kindsF] at hk
    injection hk with hk
    subst hk
    cases hx : X.toList.drop off <;> cases hy : Y.toList.drop off <;> rw [hx, hy] at he <;> simp [eqV] at he
    subst he
    simp [Op.eqFields]
  | f :: fs, off, ks, b, hk, he, hX, hY => by
    simp only [kindsF] at hk
    split at hk
    · rename_i ag ks1 hg
      split at hk
      · rename_i hc
        obtain ⟨hname, hoff, hag⟩ := hc
        split at hk
        · rename_i l hl
          injection hk with hk
          subst hk
          obtain ⟨b1, b2, h1, h2, h3⟩ := eqV_app he
          have hlen := eqV_len he
          simp only [List.length_drop, List.length_append, Array.length_toList] at hlen
          obtain ⟨hone, hi⟩ := ih _ _ _ hg
          have hpx : (part f.type X f.offset).run P w = .ok (packV ag ((X.toList.drop off).take ks1.length)) w := by
            rw [hoff]; exact part_run hag hone (by omega)
          have hpy : (part f.type Y f.offset).run P w = .ok (packV ag ((Y.toList.drop off).take ks1.length)) w := by
            rw [hoff]; exact part_run hag hone (by omega)
          have hr := hi d hd _ _ _ h1
          simp only [Op.eqFields, hname, ne_eq, not_false_eq_true, if_true, Sem.run_bind, hpx, hpy, Result.andThen_ok, hr]
          rw [List.drop_drop, List.drop_drop] at h2
          have hrec := eq_fields ih hd X Y fs (off + ks1.length) l b2 hl h2 (by omega) (by omega)
          cases b1
          · simp [h3]
          · simp [hrec, h3]
        · simp at hk
      · simp at hk
    · simp at hk

theorem eq_type : ∀ (n : Nat) (t : TypeId) (ag : Bool) (ks : List LK), kindsT P n t = some (ag, ks) →
    (ag = false → ks.length = 1) ∧ ∀ d, n ≤ d → ∀ xs ys b, eqV ks xs ys = some b → (Op.equalIn d t (packV ag xs) (packV ag ys)).run P w = .ok b w
  | 0, _, _, _, e => by simp [kindsT] at e
  | n + 1, t, ag, ks, e => by
    have leaf : ∀ (k : LK) (xs ys : List Value) (b : Bool), eqV [k] xs ys = some b → ∃ x y, xs = [x] ∧ ys = [y] := by
      intro k xs ys b hb
      have := eqV_len hb
      match xs, ys, this with
      | [x], [y], _ => exact ⟨x, y, rfl, rfl⟩
    simp only [kindsT] at e
    split at e
    · rename_i k hu
      injection e with e; injection e with e1 e2; subst e1; subst e2
      refine ⟨fun _ => rfl, fun d hd xs ys b hb => ?_⟩
      obtain ⟨d, rfl⟩ : ∃ d', d = d' + 1 := ⟨d - 1, by omega⟩
      obtain ⟨x, y, rfl, rfl⟩ := leaf _ _ _ _ hb
      cases x <;> cases y <;> simp only [eqV] at hb <;> (try (simp at hb; done))
      split at hb
      · rename_i hk
        obtain ⟨rfl, rfl⟩ := hk
        injection hb with hb
        subst hb
        simp only [keyV, eqV, Bool.and_true, Bool.false_eq_true, if_false, List.getD_cons_zero]
        exact run_equalIn_int w d t _ _ _ _ hu
      · simp at hb
    · rename_i hu
      injection e with e; injection e with e1 e2; subst e1; subst e2
      refine ⟨fun _ => rfl, fun d hd xs ys b hb => ?_⟩
      obtain ⟨d, rfl⟩ : ∃ d', d = d' + 1 := ⟨d - 1, by omega⟩
      obtain ⟨x, y, rfl, rfl⟩ := leaf _ _ _ _ hb
      cases x <;> cases y <;> simp only [eqV] at hb <;> (try (simp at hb; done))
      injection hb with hb
      subst hb
      simp [keyV, run_equalIn_bool' w d t _ _ hu]
    · rename_i hu
      injection e with e; injection e with e1 e2; subst e1; subst e2
      refine ⟨fun _ => rfl, fun d hd xs ys b hb => ?_⟩
      obtain ⟨d, rfl⟩ : ∃ d', d = d' + 1 := ⟨d - 1, by omega⟩
      obtain ⟨x, y, rfl, rfl⟩ := leaf _ _ _ _ hb
      cases x <;> cases y <;> simp only [eqV] at hb <;> (try (simp at hb; done))
      injection hb with hb
      subst hb
      simp [keyV, run_equalIn_string w d t _ _ hu]
    · rename_i fs hu
      split at e
      · simp at e
      · rename_i hs
        split at e
        · rename_i l hl
          injection e with e; injection e with e1 e2; subst e1; subst e2
          refine ⟨fun h => by simp at h, fun d hd xs ys b hb => ?_⟩
          obtain ⟨d, rfl⟩ : ∃ d', d = d' + 1 := ⟨d - 1, by omega⟩
          have hf : P.fieldsOf t = fs := by simp [Program.fieldsOf, hu]
          have := run_equalIn_struct (P := P) w d t xs.toArray ys.toArray (by rw [hf]; exact hu) (by simpa using hs)
          simp only [keyV, if_true]
          rw [this, hf]
          exact eq_fields (eq_type n) (by omega) xs.toArray ys.toArray fs.toList 0 l b hl (by simpa using hb) (by simp) (by simp)
        · simp at e
    · simp at e
end
end Hud
