/- Maps: what each operation on them does. -/
import Derived.Test.YthmdkjeflllfpaaHudP
set_option linter.all false
namespace Hud
open Go

section
variable {P : Program} {w : World}

theorem bytes_beq' (a b : ByteArray) : (a == b) = true ↔ a = b := by
  rw [beq_toListBytes, beq_iff_eq, ByteArray.toList_eq, ByteArray.toList_eq]
  constructor
  · intro h
    obtain ⟨a⟩ := a
    obtain ⟨b⟩ := b
    congr
    exact Array.toList_inj.1 h
  · rintro rfl; rfl

theorem eqV_true : ∀ {ls : List LK} {xs ys : List Value}, eqV ls xs ys = some true → xs = ys
  | [], xs, ys, e => by cases xs <;> cases ys <;> simp_all [eqV]
  | k :: ls, xs, ys, e => by
    cases xs with
    | nil => cases k <;> simp [eqV] at e
    | cons x xs =>
      cases ys with
      | nil => cases k <;> cases x <;> simp [eqV] at e
      | cons y ys =>
        cases k <;> cases x <;> cases y <;> simp only [eqV] at e <;> (try (simp at e; done))
        · split at e
          · rename_i hk
            split at e
            · rename_i r hr
              simp only [Option.some.injEq, Bool.and_eq_true, beq_iff_eq] at e
              obtain ⟨rfl, rfl⟩ := e
              rw [eqV_true hr, hk.1, hk.2]
            · simp at e
          · simp at e
        · split at e
          · rename_i r hr
            simp only [Option.some.injEq, Bool.and_eq_true, beq_iff_eq] at e
            obtain ⟨rfl, rfl⟩ := e
            rw [eqV_true hr]
          · simp at e
        · split at e
          · rename_i r hr
            simp only [Option.some.injEq, Bool.and_eq_true] at e
            obtain ⟨h1, rfl⟩ := e
            rw [← beq_toListBytes, bytes_beq'] at h1
            rw [eqV_true hr, h1]
          · simp at e

/-- What was found, in a row that begins at number i. -/
def Found (ens : List MapEntry) (i : Nat) (r : Option Nat) (out : Option (Nat × Value)) : Prop :=
  match r with
  | none => out = none
  | some j => i ≤ j ∧ ∃ e, ens[j - i]? = some e ∧ out = some (j, e.val)

theorem found_cons {e : MapEntry} {ens : List MapEntry} {i : Nat} {r : Option Nat} {out : Option (Nat × Value)} (h : Found ens (i + 1) r out) : Found (e :: ens) i r out := by
  cases r with
  | none => exact h
  | some j =>
    obtain ⟨h1, x, h2, h3⟩ := h
    refine ⟨by omega, x, ?_, h3⟩
    rw [show j - i = (j - (i + 1)) + 1 from by omega, List.getElem?_cons_succ]
    exact h2

theorem ask_ok {n : Nat} {kt : TypeId} {ag : Bool} {ls : List LK} (hk : kindsT P n kt = some (ag, ls)) (hn : n ≤ Op.maxDepth) {kc : List Value} : ∀ (ens : List MapEntry) (ks : List (List Value)) (i : Nat) (r : Option Nat),
    ens.map (·.key) = ks.map (keyV ag) → findK ls kc ks i = some r → ∃ out, Found ens i r out ∧ (Instr.findAsking kt (keyV ag kc) ens i).run P w = .ok out w
  | [], [], i, r, _, hf => by
    simp only [findK, Option.some.injEq] at hf
    subst hf
    exact ⟨none, rfl, by simp [Instr.findAsking]⟩
  | [], _ :: _, _, _, hm, _ => by simp at hm
  | _ :: _, [], _, _, hm, _ => by simp at hm
  | e :: ens, k :: ks, i, r, hm, hf => by
    simp only [List.map_cons, List.cons.injEq] at hm
    simp only [findK] at hf
    have heq : ∀ b, eqV ls kc k = some b → (Op.equal kt (keyV ag kc) e.key).run P w = .ok b w := fun b hb => by
      rw [hm.1]
      exact (eq_type n kt ag ls hk).2 Op.maxDepth hn _ _ _ hb
    split at hf
    · rename_i hb
      injection hf with hf
      subst hf
      exact ⟨some (i, e.val), ⟨Nat.le_refl _, e, by simp, rfl⟩, by simp [Instr.findAsking, heq _ hb]⟩
    · rename_i hb
      obtain ⟨out, h1, h2⟩ := ask_ok hk hn ens ks (i + 1) r hm.2 hf
      exact ⟨out, found_cons h1, by simp [Instr.findAsking, heq _ hb, h2]⟩
    · simp at hf

/-- The keys' type's description, where it is no struct. -/
def leafD : LK → TypeDesc → Prop
  | .int k, d => d = .int k
  | .bool, d => d = .bool
  | .str, d => d = .string

theorem same_leaf {l : LK} {d : TypeDesc} (hd : leafD l d) {x y : List Value} {b : Bool} (h : eqV [l] x y = some b) : Instr.sameNow d (keyV false x) (keyV false y) = some b := by
  have hl := eqV_len h
  match x, y, hl with
  | [x], [y], _ =>
    cases l <;> cases x <;> cases y <;> simp only [eqV] at h <;> (try (simp at h; done))
    · split at h
      · rename_i hk
        simp only [Bool.and_true, Option.some.injEq] at h
        simp only [leafD] at hd
        subst hd
        simp [keyV, Instr.sameNow, hk.1, hk.2, ← h]
      · simp at h
    · simp only [Bool.and_true, Option.some.injEq] at h
      simp only [leafD] at hd
      subst hd
      simp [keyV, Instr.sameNow, ← h]
    · simp only [Bool.and_true, Option.some.injEq] at h
      simp only [leafD] at hd
      subst hd
      simp [keyV, Instr.sameNow, ← h, beq_toListBytes]

theorem now_ok {l : LK} {d : TypeDesc} (hd : leafD l d) {kc : List Value} : ∀ (ens : List MapEntry) (ks : List (List Value)) (i : Nat) (r : Option Nat),
    ens.map (·.key) = ks.map (keyV false) → findK [l] kc ks i = some r → ∃ out, Found ens i r out ∧ Instr.findNow d (keyV false kc) ens i = some out
  | [], [], i, r, _, hf => by
    simp only [findK, Option.some.injEq] at hf
    subst hf
    exact ⟨none, rfl, by simp [Instr.findNow]⟩
  | [], _ :: _, _, _, hm, _ => by simp at hm
  | _ :: _, [], _, _, hm, _ => by simp at hm
  | e :: ens, k :: ks, i, r, hm, hf => by
    simp only [List.map_cons, List.cons.injEq] at hm
    simp only [findK] at hf
    split at hf
    · rename_i hb
      injection hf with hf
      subst hf
      refine ⟨some (i, e.val), ⟨Nat.le_refl _, e, by simp, rfl⟩, ?_⟩
      simp only [Instr.findNow, hm.1, same_leaf hd hb]
    · rename_i hb
      obtain ⟨out, h1, h2⟩ := now_ok hd ens ks (i + 1) r hm.2 hf
      refine ⟨out, found_cons h1, ?_⟩
      simp only [Instr.findNow, hm.1, same_leaf hd hb, h2]
    · simp at hf

theorem find_ok {n : Nat} {kt : TypeId} {ag : Bool} {ls : List LK} (hk : kindsT P n kt = some (ag, ls)) (hn : n ≤ Op.maxDepth) {kc : List Value} {ens : List MapEntry} {ks : List (List Value)} {r : Option Nat}
    (hm : ens.map (·.key) = ks.map (keyV ag)) (hf : findK ls kc ks 0 = some r) : ∃ out, Found ens 0 r out ∧ (Instr.findKey kt (keyV ag kc) ens).run P w = .ok out w := by
  cases n with
  | zero => simp [kindsT] at hk
  | succ n =>
    have hk' := hk
    simp only [kindsT] at hk'
    split at hk'
    · rename_i k hu
      injection hk' with hk'; injection hk' with e1 e2; subst e1; subst e2
      obtain ⟨out, h1, h2⟩ := now_ok (d := .int k) (l := .int k) rfl ens ks 0 r hm hf
      exact ⟨out, h1, by simp [Instr.findKey, run_underlying hu, h2]⟩
    · rename_i hu
      injection hk' with hk'; injection hk' with e1 e2; subst e1; subst e2
      obtain ⟨out, h1, h2⟩ := now_ok (d := .bool) (l := .bool) rfl ens ks 0 r hm hf
      exact ⟨out, h1, by simp [Instr.findKey, run_underlying hu, h2]⟩
    · rename_i hu
      injection hk' with hk'; injection hk' with e1 e2; subst e1; subst e2
      obtain ⟨out, h1, h2⟩ := now_ok (d := .string) (l := .str) rfl ens ks 0 r hm hf
      exact ⟨out, h1, by simp [Instr.findKey, run_underlying hu, h2]⟩
    · rename_i fs hu
      obtain ⟨out, h1, h2⟩ := ask_ok (w := w) hk hn ens ks 0 r hm hf
      cases ens with
      | nil =>
        cases ks with
        | nil =>
          simp only [findK, Option.some.injEq] at hf
          subst hf
          exact ⟨none, rfl, by simp [Instr.findKey, run_underlying hu, Instr.findNow]⟩
        | cons k ks => simp at hm
      | cons e ens =>
        refine ⟨out, h1, ?_⟩
        have : Instr.findNow (.struct fs) (keyV ag kc) (e :: ens) 0 = none := by
          simp only [Instr.findNow]
          cases keyV ag kc <;> simp [Instr.sameNow]
        simp [Instr.findKey, run_underlying hu, this, h2]
    · simp at hk'

theorem ck_fields {n : Nat} {em : Bool} {d : Nat} (ih : ∀ t ag ks, kindsT P n t = some (ag, ks) → (ag = false → ks.length = 1) ∧ ∀ xs b, eqV ks xs xs = some b → (Instr.checkKey em d t (keyV ag xs)).run P w = .ok () w)
    (X : Array Value) : ∀ (fs : List Field) (off : Nat) (ks : List LK) (b : Bool), kindsF P (kindsT P n) fs off = some ks →
      eqV ks (X.toList.drop off) (X.toList.drop off) = some b → off ≤ X.size →
      (forIn fs PUnit.unit (fun f _ => if f.name ≠ "_" then (do
          let y ← part f.type X f.offset
          Instr.checkKey em d f.type y
          pure (ForInStep.yield PUnit.unit)) else pure (ForInStep.yield PUnit.unit)) : Sem PUnit).run P w = .ok () w
  | [], off, ks, b, hk, he, _ => by simp
  | f :: fs, off, ks, b, hk, he, hX => by
    simp only [kindsF] at hk
    split at hk
    · rename_i ag ks1 hg
      split at hk
      · rename_i hc
        obtain ⟨hname, hoff, hag⟩ := hc
        split at hk
        · rename_i l hl
          injection hk with hk
          subst hk
          obtain ⟨b1, b2, h1, h2, h3⟩ := eqV_app he
          have hlen := eqV_len he
          simp only [List.length_drop, List.length_append, Array.length_toList] at hlen
          obtain ⟨hone, hi⟩ := ih _ _ _ hg
          have hpx : (part f.type X f.offset).run P w = .ok (keyV ag ((X.toList.drop off).take ks1.length)) w := by
            rw [hoff]; exact part_run hag hone (by omega)
          have hr := hi _ _ h1
          rw [List.drop_drop] at h2
          have hrec := ck_fields ih X fs (off + ks1.length) l b2 hl h2 (by omega)
          simp only [List.forIn_cons, Sem.run_bind, hname, ne_eq, not_false_eq_true, if_true, Result.andThen_ok, hpx, hr, Sem.run_pure]
          exact hrec
        · simp at hk
      · simp at hk
    · simp at hk

theorem ck_ok {em : Bool} : ∀ (n : Nat) (kt : TypeId) (ag : Bool) (ls : List LK), kindsT P n kt = some (ag, ls) → ∀ d, n ≤ d → ∀ kc b, eqV ls kc kc = some b → (Instr.checkKey em d kt (keyV ag kc)).run P w = .ok () w
  | 0, _, _, _, hk => by simp [kindsT] at hk
  | n + 1, kt, ag, ls, hk => by
    intro d hd kc b hb
    obtain ⟨d, rfl⟩ : ∃ d', d = d' + 1 := ⟨d - 1, by omega⟩
    have hk' := hk
    simp only [kindsT] at hk'
    split at hk'
    · rename_i k hu
      simp [Instr.checkKey, run_underlying hu]
    · rename_i hu
      simp [Instr.checkKey, run_underlying hu]
    · rename_i hu
      simp [Instr.checkKey, run_underlying hu]
    · rename_i fs hu
      split at hk'
      · simp at hk'
      · split at hk'
        · rename_i l hl
          injection hk' with hk'; injection hk' with e1 e2; subst e1; subst e2
          have h := ck_fields (w := w) (em := em) (d := d) (fun t ag ks ht => ⟨(eq_type (w := w) n t ag ks ht).1, ck_ok n t ag ks ht d (by omega)⟩) kc.toArray fs.toList 0 l b hl (by simpa using hb) (by simp)
          simp only [Instr.checkKey, keyV, if_true, Sem.run_bind, run_underlying hu, Result.andThen_ok]
          rw [← Array.forIn_toList, h]
          simp
        · simp at hk'
    · simp at hk'

theorem sameBits_cell : ∀ {ls : List LK} {xs : List Value} {b : Bool}, eqV ls xs xs = some b → ∀ x ∈ xs, ∀ n, Instr.sameBits n x x = true
  | [], xs, b, h, x, hx => by cases xs <;> simp_all [eqV]
  | l :: ls, [], b, h, x, hx => by simp at hx
  | l :: ls, y :: xs, b, h, x, hx => by
    have hrec : ∃ b', eqV ls xs xs = some b' := by
      cases l <;> cases y <;> simp only [eqV] at h <;> (try (simp at h; done))
      · split at h
        · split at h
          · rename_i r hr; exact ⟨r, hr⟩
          · simp at h
        · simp at h
      · split at h
        · rename_i r hr; exact ⟨r, hr⟩
        · simp at h
      · split at h
        · rename_i r hr; exact ⟨r, hr⟩
        · simp at h
    obtain ⟨b', hb'⟩ := hrec
    intro n
    rcases List.mem_cons.1 hx with rfl | hx
    · cases l <;> cases x <;> simp only [eqV] at h <;> (try (simp at h; done)) <;> cases n <;> simp [Instr.sameBits, bytes_beq']
    · exact sameBits_cell hb' x hx n

theorem stays_ok {ag : Bool} {ls : List LK} {kc : List Value} {b : Bool} (hb : eqV ls kc kc = some b) (h1 : ag = false → ls.length = 1) : (Instr.keyThatStays (keyV ag kc) (keyV ag kc)).run P w = .ok (keyV ag kc) w := by
  have : Instr.sameBits 10000 (keyV ag kc) (keyV ag kc) = true := by
    cases ag with
    | false =>
      have hl := eqV_len hb
      rw [h1 rfl] at hl
      match kc, hl with
      | [x], _ => simpa [keyV] using sameBits_cell hb x (by simp) 10000
    | true =>
      have key : ∀ m, Instr.sameBits (m + 1) (keyV true kc) (keyV true kc) = true := fun m => by
        simp only [keyV, if_true, Instr.sameBits, beq_self_eq_true, Bool.true_and, List.all_eq_true]
        rintro ⟨x, y⟩ hm
        have hxy : x = y ∧ x ∈ kc := by
          rw [List.zip_eq_zipWith] at hm
          obtain ⟨i, hi⟩ := List.getElem?_of_mem hm
          rw [List.getElem?_zipWith] at hi
          split at hi
          · rename_i p q hp hq
            rw [hp] at hq
            injection hq with hq
            simp only [Option.some.injEq, Prod.mk.injEq] at hi
            obtain ⟨rfl, rfl⟩ := hi
            exact ⟨hq, List.mem_of_getElem? hp⟩
          · simp at hi
        rw [← hxy.1]
        exact sameBits_cell hb x hxy.2 m
      exact key 9999
  simp [Instr.keyThatStays, this]
end
end Hud
