/- What an operation that only reads gives is what the small code says. -/
import Derived.Test.YthmdkjeflllfpaaHudE
set_option linter.all false
namespace Hud
open Go

theorem getT_some {T : Tab} {i : Nat} {o : AObj} (e : getT T i = some o) : T[i]? = some (some o) := by
  unfold getT at e
  split at e
  · rename_i o' h; injection e with e; subst e; exact h
  · simp at e
theorem getT_lt {T : Tab} {i : Nat} {o : AObj} (e : getT T i = some o) : i < T.length := by
  have := getT_some e
  rcases Nat.lt_or_ge i T.length with h | h
  · exact h
  · simp [List.getElem?_eq_none h] at this

section
variable {P : Program} {G : Nat → Option (List AV)} {h : GH} {φ : Nat → Value} {n : Nat} {T : Tab} {w : World} {s : List (Nat × AV)} {a : Act}

def SOk (h : GH) (φ : Nat → Value) (n : Nat) (s : List (Nat × AV)) (a : Act) : Prop := ∀ i, Rp h φ n (getS s i) (a.tmps.getD i undef)

theorem ev_ok (hG : GOk G h) (hS : SOk h φ n s a) (x : Operand) : Rp h φ n (evO G s x) (a.eval x) := by
  cases x with
  | tmp t => exact hS t
  | const v => simp [evO, Act.eval, Rp]
  | global g =>
    simp only [evO, Act.eval]
    split
    · rename_i cs hg; simp only [Rp]; exact ⟨g, 0, rfl, hG g cs hg⟩
    · simp [Rp]
  | func f => simp only [evO, Act.eval, Rp]; exact ⟨#[], rfl, by simp [RpL]⟩

theorem ev_v (hG : GOk G h) (hS : SOk h φ n s a) {x : Operand} {v : Value} (e : evO G s x = .v v) : a.eval x = v := by
  have := ev_ok hG hS x
  rw [e] at this
  simpa [Rp] using this

theorem evL_ok (hG : GOk G h) (hS : SOk h φ n s a) (l : List Operand) : RpL h φ n (l.map (evO G s)) (l.map a.eval) := by
  induction l with
  | nil => simp [RpL]
  | cons x l ih => simp only [List.map_cons, RpL]; exact ⟨_, _, rfl, ev_ok hG hS x, ih⟩

-- cells of a value
theorem cellsA_ok : ∀ {x : AV} {u : Value}, Rp h φ n x u → (∀ c ∈ cellsA x, oneC c = true) → RpL h φ n (cellsA x) u.cells.toList
  | .ag cs, u, e, _ => by
    simp only [Rp] at e
    obtain ⟨us, rfl, h2⟩ := e
    exact h2
  | .v x, u, e, ho => by
    simp only [Rp] at e
    subst e
    cases u with
    | agg us =>
      simp only [cellsA, Value.cells]
      exact RpL.mk (by simp) fun i c u hc hu => by
        simp only [List.getElem?_map] at hc
        rw [hu] at hc
        simp at hc
        subst hc
        simp [Rp]
    | _ => simp [cellsA, Value.cells, RpL, Rp]
  | .ls k es, u, e, _ => by
    have e' := e
    simp only [Rp, RpD] at e'
    obtain ⟨A, c, rfl, _⟩ := e'
    simp only [cellsA, Value.cells, RpL]
    exact ⟨_, [], rfl, e, rfl⟩
  | .own i, u, e, _ => by
    have e' := e
    simp only [Rp] at e'
    obtain ⟨_, _, A, l, c, rfl⟩ := e'
    simp only [cellsA, Value.cells, RpL]
    exact ⟨_, [], rfl, e, rfl⟩
  | .ptr i o, u, e, _ => by
    have e' := e
    simp only [Rp] at e'
    obtain ⟨_, g, _, rfl⟩ := e'
    simp only [cellsA, Value.cells, RpL]
    exact ⟨_, [], rfl, e, rfl⟩
  | .elt i k j o, u, e, _ => by
    have e' := e
    simp only [Rp] at e'
    obtain ⟨_, g, _, _, _, rfl⟩ := e'
    simp only [cellsA, Value.cells, RpL]
    exact ⟨_, [], rfl, e, rfl⟩
  | .mp i, u, e, _ => by
    have e' := e
    simp only [Rp] at e'
    obtain ⟨_, _, g, rfl⟩ := e'
    simp only [cellsA, Value.cells, RpL]
    exact ⟨_, [], rfl, e, rfl⟩
  | .vw i k j o, u, e, _ => by
    have e' := e
    simp only [Rp] at e'
    obtain ⟨_, A, c, rfl, _⟩ := e'
    simp only [cellsA, Value.cells, RpL]
    exact ⟨_, [], rfl, e, rfl⟩
  | .rp cs, u, e, _ => by
    have e' := e
    simp only [Rp] at e'
    obtain ⟨_, _, rfl, _⟩ := e'
    simp only [cellsA, Value.cells, RpL]
    exact ⟨_, [], rfl, e, rfl⟩
  | .cl f cs, u, e, _ => by
    have e' := e
    simp only [Rp] at e'
    obtain ⟨us, rfl, _⟩ := e'
    simp only [cellsA, Value.cells, RpL]
    exact ⟨_, [], rfl, e, rfl⟩
  | .tup cs, u, e, ho => by simp [cellsA, oneC] at ho
  | .any, u, e, ho => by simp [cellsA, oneC] at ho

theorem oneC_ok : ∀ {x : AV} {u : Value}, Rp h φ n x u → oneC x = true → u.oneCell' = true
  | .v x, u, e, ho => by
    simp only [Rp] at e
    subst e
    cases u <;> simp_all [oneC, Value.oneCell']
  | .ls k es, u, e, _ => by simp only [Rp, RpD] at e; obtain ⟨A, c, rfl, _⟩ := e; rfl
  | .own i, u, e, _ => by simp only [Rp] at e; obtain ⟨_, _, A, l, c, rfl⟩ := e; rfl
  | .ptr i o, u, e, _ => by simp only [Rp] at e; obtain ⟨_, g, _, rfl⟩ := e; rfl
  | .elt i k j o, u, e, _ => by simp only [Rp] at e; obtain ⟨_, g, _, _, _, rfl⟩ := e; rfl
  | .vw i k j o, u, e, _ => by simp only [Rp] at e; obtain ⟨_, A, c, rfl, _⟩ := e; rfl
  | .mp i, u, e, _ => by simp only [Rp] at e; obtain ⟨_, _, g, rfl⟩ := e; rfl
  | .rp cs, u, e, _ => by simp only [Rp] at e; obtain ⟨_, _, rfl, _⟩ := e; rfl
  | .cl f cs, u, e, _ => by simp only [Rp] at e; obtain ⟨us, rfl, _⟩ := e; rfl
  | .ag cs, u, e, ho => by simp [oneC] at ho
  | .tup cs, u, e, ho => by simp [oneC] at ho
  | .any, u, e, ho => by simp [oneC] at ho

/-- A value cut out of cells. -/
theorem cutA_ok {cs : List AV} {us : List Value} (hr : RpL h φ n cs us) {off : Nat} {x : AV} : ∀ {m : Option Nat}, cutA cs off m = some x →
    match m with
    | none => ∃ u, us[off]? = some u ∧ Rp h φ n x u
    | some k => off + k ≤ us.length ∧ Rp h φ n x (.agg ((us.drop off).take k).toArray)
  | none, e => by
    simp only [cutA] at e
    exact hr.get e
  | some k, e => by
    simp only [cutA] at e
    split at e
    · rename_i hle
      injection e with e
      subst e
      have hl := hr.length
      exact ⟨by omega, by simp only [Rp]; exact ⟨_, rfl, by simpa using (hr.drop off).take k⟩⟩
    · simp at e

theorem box_cells {i : Nat} {cs : List AV} (hI : Inv h φ w T) (hg : getT T i = some (.box cs)) :
    ∃ (g : Nat) (us : Array Value) (E : TypeId), φ i = .pointer (some ⟨g, 0, none⟩) ∧ w.heap[g]? = some (.cells us E (0, 0)) ∧ h g = none ∧ RpL h φ T.length cs us.toList :=
  hI.obj i _ (getT_some hg)

theorem cell_of {g : Nat} {us : Array Value} {E : TypeId} {fr : Nat × Nat} (hw : w.heap[g]? = some (.cells us E fr)) (o : Nat) : w.cell? ⟨g, o, none⟩ = us[o]? := by
  simp [World.cell?, hw]
theorem cellG_of {b o : Nat} {u : Value} (hI : Inv h φ w T) (e : cellG h b o = some u) : w.cell? ⟨b, o, none⟩ = some u := by
  unfold cellG at e
  cases hb : h b with
  | none => simp [hb] at e
  | some cs =>
    obtain ⟨E, fr, hw⟩ := hI.gh b cs hb
    rw [cell_of hw]
    simpa [hb] using e

theorem aggT_some {t : TypeId} {m : Option Nat} (e : aggT P t = some m) :
    match m with
    | none => (isAgg t).run P w = .ok false w ∧ True
    | some k => (isAgg t).run P w = .ok true w ∧ (Go.sizeOf t).run P w = .ok k w := by
  unfold aggT at e
  split at e
  · rename_i fs i hu hi
    injection e with e; subst e
    simp [isAgg, run_underlying hu, Go.sizeOf, typeInfo, hi]
  · rename_i l el i hu hi
    injection e with e; subst e
    simp [isAgg, run_underlying hu, Go.sizeOf, typeInfo, hi]
  · rename_i d i h1 h2 hu hi
    injection e with e; subst e
    refine ⟨?_, trivial⟩
    simp only [isAgg, Sem.run_bind, run_underlying hu, Result.andThen_ok]
    cases d <;> first | rfl | (exfalso; first | exact h1 _ rfl | exact h2 _ _ rfl)
  · simp at e

/-- What a variable holds, read as a whole. -/
theorem loadVar_ok {t : TypeId} {m : Option Nat} (e : aggT P t = some m) {b o : Nat} {us : List Value} (hc : ∀ j u, us[j]? = some u → w.cell? ⟨b, o + j, none⟩ = some u) :
    match m with
    | none => ∀ u, us[0]? = some u → (loadVar t ⟨b, o, none⟩).run P w = .ok u w
    | some k => k ≤ us.length → (loadVar t ⟨b, o, none⟩).run P w = .ok (.agg (us.take k).toArray) w := by
  have ha := aggT_some (w := w) e
  cases m with
  | none =>
    intro u hu
    have := hc 0 u hu
    simp only [Nat.add_zero] at this
    simp [loadVar, ha.1, this]
  | some k =>
    intro hk
    have hl := run_loadCells_list (P := P) (w := w) ⟨b, o, none⟩ (us.take k) (fun j v hv => by
      have : (⟨b, o, none⟩ : Addr).add j = ⟨b, o + j, none⟩ := by unfold Addr.add; split <;> simp_all
      rw [this]
      refine hc j v ?_
      rw [List.getElem?_take] at hv
      split at hv
      · exact hv
      · simp at hv)
    have hlen : (us.take k).length = k := by simp; omega
    rw [hlen] at hl
    simp [loadVar, ha.1, ha.2, hl]
end
end Hud
