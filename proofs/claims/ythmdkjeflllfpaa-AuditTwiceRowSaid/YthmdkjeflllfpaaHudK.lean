/- What becomes of the objects where one comes, or one is written. -/
import Derived.Test.YthmdkjeflllfpaaHudJ
set_option linter.all false
namespace Hud
open Go

theorem ghost_lt {h : GH} {φ : Nat → Value} {T : Tab} {w : World} (hI : Inv h φ w T) {b : Nat} {cs : Array Value} (e : h b = some cs) : b < w.heap.size := by
  obtain ⟨E, fr, hw⟩ := hI.gh b cs e
  rcases Nat.lt_or_ge b w.heap.size with hh | hh
  · exact hh
  · rw [Array.getElem?_eq_none hh] at hw; simp at hw

/-- An object's block. -/
theorem objAt_blk {h : GH} {φ : Nat → Value} {n : Nat} {w : World} {i : Nat} {o : AObj} (e : objAt h φ n w i o) {g : Nat} (hg : blk (φ i) = some g) :
    g < w.heap.size ∧ h g = none := by
  have lt : ∀ {x : Obj}, w.heap[g]? = some x → g < w.heap.size := by
    intro x hx
    rcases Nat.lt_or_ge g w.heap.size with hh | hh
    · exact hh
    · rw [Array.getElem?_eq_none hh] at hx; simp at hx
  cases o with
  | box cs =>
    obtain ⟨g', us, E, h1, h2, h3, _⟩ := e
    rw [h1] at hg
    simp only [blk, Option.some.injEq] at hg
    subst hg
    exact ⟨lt h2, h3⟩
  | arr k es =>
    obtain ⟨_, h1 | ⟨g', c, cur, E, h1, h2, _, _, _, h3, _⟩⟩ := e
    · rw [h1.1] at hg; simp [blk] at hg
    · rw [h1] at hg
      simp only [blk, Option.some.injEq] at hg
      subst hg
      exact ⟨lt h2, h3⟩
  | map ag ks vs bs cl =>
    obtain ⟨g', ens, h1, h2, h3, _⟩ := e
    rw [h1] at hg
    simp only [blk, Option.some.injEq] at hg
    subst hg
    exact ⟨lt h2, h3⟩

/-- An object stays where its block stays. -/
theorem objAt_keep {h h' : GH} {φ φ' : Nat → Value} {n n' : Nat} {w w' : World} {i : Nat} {o : AObj} (e : objAt h φ n w i o) (le : GLe h h') (hn : n ≤ n') (hp : ∀ j, j < n → φ' j = φ j) (hi : i < n)
    (hb : ∀ g, blk (φ i) = some g → w'.heap[g]? = w.heap[g]? ∧ h' g = none) : objAt h' φ' n' w' i o := by
  cases o with
  | box cs =>
    obtain ⟨g, us, E, h1, h2, h3, h4⟩ := e
    obtain ⟨h5, h6⟩ := hb g (by rw [h1]; rfl)
    exact ⟨g, us, E, by rw [hp i hi]; exact h1, by rw [h5]; exact h2, h6, h4.mono le hn hp⟩
  | arr k es =>
    obtain ⟨h0, h1 | ⟨g, c, cur, E, h1, h2, h3, h4, h5, h6, h7⟩⟩ := e
    · exact ⟨h0, .inl ⟨by rw [hp i hi]; exact h1.1, h1.2⟩⟩
    · obtain ⟨h8, h9⟩ := hb g (by rw [h1]; rfl)
      exact ⟨h0, .inr ⟨g, c, cur, E, by rw [hp i hi]; exact h1, by rw [h8]; exact h2, h3, h4, h5, h9, h7.mono le⟩⟩
  | map ag ks vs bs cl =>
    obtain ⟨g, ens, h1, h2, h3, h4, h5, h6⟩ := e
    obtain ⟨h8, h9⟩ := hb g (by rw [h1]; rfl)
    exact ⟨g, ens, by rw [hp i hi]; exact h1, by rw [h8]; exact h2, h9, h4, h5, h6.mono le hn hp⟩

def upd (φ : Nat → Value) (n : Nat) (v : Value) : Nat → Value := fun i => if i = n then v else φ i
theorem upd_lt {φ : Nat → Value} {n i : Nat} {v : Value} (h : i < n) : upd φ n v i = φ i := by unfold upd; rw [if_neg (by omega)]
theorem upd_self {φ : Nat → Value} {n : Nat} {v : Value} : upd φ n v n = v := by unfold upd; rw [if_pos rfl]

theorem get_append {T : Tab} {o : Option AObj} {i : Nat} {x : AObj} (e : (T ++ [o])[i]? = some (some x)) : (i < T.length ∧ T[i]? = some (some x)) ∨ (i = T.length ∧ o = some x) := by
  rcases Nat.lt_or_ge i T.length with hh | hh
  · rw [List.getElem?_append_left hh] at e; exact .inl ⟨hh, e⟩
  · rw [List.getElem?_append_right hh] at e
    have h0 : i - T.length = 0 := by
      rcases Nat.eq_zero_or_pos (i - T.length) with h | h
      · exact h
      · rw [List.getElem?_eq_none (by simp; omega)] at e; simp at e
    rw [h0] at e
    simp at e
    exact .inr ⟨by omega, e⟩
theorem get_set {T : Tab} {o : Option AObj} {i j : Nat} {x : AObj} (e : (T.set j o)[i]? = some (some x)) : (i = j ∧ o = some x) ∨ (i ≠ j ∧ T[i]? = some (some x)) := by
  rw [List.getElem?_set] at e
  split at e
  · rename_i hh
    subst hh
    split at e
    · injection e with e; exact .inl ⟨rfl, e⟩
    · simp at e
  · rename_i hh
    exact .inr ⟨fun h => hh h.symm, e⟩

/-- A new object. -/
theorem inv_new {h : GH} {φ : Nat → Value} {T : Tab} {w w' : World} (hI : Inv h φ w T) (hos : w'.os = w.os) (htp : w'.tape = w.tape) (hout : w'.output = w.output) (hsz : w.heap.size ≤ w'.heap.size)
    (hb : ∀ b, b < w.heap.size → w'.heap[b]? = w.heap[b]?) {o : AObj} {v : Value} (hv : ∀ g, blk v = some g → w.heap.size ≤ g) (ho : objAt h (upd φ T.length v) (T.length + 1) w' T.length o)
    (hdr : w.drawn ≤ w'.drawn := by first | exact Nat.le_refl _ | exact Nat.le_succ _ | assumption) :
    Inv h (upd φ T.length v) w' (T ++ [some o]) ∧ Evo h φ T w h (upd φ T.length v) (T ++ [some o]) w' := by
  have old : ∀ i x, T[i]? = some (some x) → i < T.length := by
    intro i x e
    rcases Nat.lt_or_ge i T.length with hh | hh
    · exact hh
    · rw [List.getElem?_eq_none hh] at e; simp at e
  refine ⟨⟨?_, ?_, ?_⟩, ⟨hos, htp, hout, hsz, fun b hb' _ => hb b hb', GLe.refl h, fun _ _ e => .inl e, fun i hi => upd_lt hi, ?_, by simp, hdr⟩⟩
  · intro b cs e
    obtain ⟨E, fr, hw⟩ := hI.gh b cs e
    exact ⟨E, fr, by rw [hb b (ghost_lt hI e)]; exact hw⟩
  · intro i x e
    rcases get_append e with ⟨hi, e'⟩ | ⟨rfl, e'⟩
    · have h1 := hI.obj i x e'
      rw [List.length_append]
      exact objAt_keep h1 (GLe.refl h) (by simp) (fun j hj => upd_lt hj) hi fun g hg => by
        obtain ⟨h2, h3⟩ := objAt_blk h1 hg
        exact ⟨hb g h2, h3⟩
    · injection e' with e'
      subst e'
      rw [List.length_append]
      exact ho
  · intro i j oi oj b ei ej hbi hbj
    rcases get_append ei with ⟨hi, ei'⟩ | ⟨rfl, ei'⟩ <;> rcases get_append ej with ⟨hj, ej'⟩ | ⟨rfl, ej'⟩
    · rw [upd_lt hi] at hbi; rw [upd_lt hj] at hbj
      exact hI.dis i j oi oj b ei' ej' hbi hbj
    · rw [upd_lt hi] at hbi; rw [upd_self] at hbj
      have := (objAt_blk (hI.obj i oi ei') hbi).1
      have := hv b hbj
      omega
    · rw [upd_self] at hbi; rw [upd_lt hj] at hbj
      have := (objAt_blk (hI.obj j oj ej') hbj).1
      have := hv b hbi
      omega
    · rfl
  · intro i x b e hbl
    rcases get_append e with ⟨hi, e'⟩ | ⟨rfl, e'⟩
    · rw [upd_lt hi] at hbl
      exact .inr ⟨i, x, e', hbl⟩
    · rw [upd_self] at hbl
      exact .inl (hv b hbl)

/-- An object that is written. -/
theorem inv_set {h : GH} {φ : Nat → Value} {T : Tab} {w w' : World} (hI : Inv h φ w T) (hos : w'.os = w.os) (htp : w'.tape = w.tape) (hout : w'.output = w.output) (hsz : w.heap.size ≤ w'.heap.size)
    {i : Nat} {o o' : AObj} (hi : T[i]? = some (some o)) (hb : ∀ b, b < w.heap.size → blk (φ i) ≠ some b → w'.heap[b]? = w.heap[b]?) (ho : objAt h φ T.length w' i o')
    (hdr : w.drawn ≤ w'.drawn := by first | exact Nat.le_refl _ | exact Nat.le_succ _ | assumption) :
    Inv h φ w' (T.set i (some o')) ∧ Evo h φ T w h φ (T.set i (some o')) w' := by
  have hlt : i < T.length := by
    rcases Nat.lt_or_ge i T.length with hh | hh
    · exact hh
    · rw [List.getElem?_eq_none hh] at hi; simp at hi
  refine ⟨⟨?_, ?_, ?_⟩, ⟨hos, htp, hout, hsz, fun b hb' hn => hb b hb' (hn i o hi), GLe.refl h, fun _ _ e => .inl e, fun _ _ => rfl, ?_, by simp, hdr⟩⟩
  · intro b cs e
    obtain ⟨E, fr, hw⟩ := hI.gh b cs e
    refine ⟨E, fr, ?_⟩
    rw [hb b (ghost_lt hI e) fun hbl => ?_]
    · exact hw
    · have := (objAt_blk (hI.obj i o hi) hbl).2
      rw [e] at this
      simp at this
  · intro j x e
    rw [List.length_set]
    rcases get_set e with ⟨rfl, e'⟩ | ⟨hne, e'⟩
    · injection e' with e'
      subst e'
      exact ho
    · have h1 := hI.obj j x e'
      have hj : j < T.length := by
        rcases Nat.lt_or_ge j T.length with hh | hh
        · exact hh
        · rw [List.getElem?_eq_none hh] at e'; simp at e'
      exact objAt_keep h1 (GLe.refl h) (Nat.le_refl _) (fun _ _ => rfl) hj fun g hg => by
        obtain ⟨h2, h3⟩ := objAt_blk h1 hg
        exact ⟨hb g h2 fun hbl => hne (hI.dis j i x o g e' hi hg hbl), h3⟩
  · intro j k oj ok b ej ek hbj hbk
    have get : ∀ {m : Nat} {x : AObj}, (T.set i (some o'))[m]? = some (some x) → ∃ y, T[m]? = some (some y) := by
      intro m x e
      rcases get_set e with ⟨rfl, _⟩ | ⟨_, e'⟩
      · exact ⟨o, hi⟩
      · exact ⟨x, e'⟩
    obtain ⟨y, hy⟩ := get ej
    obtain ⟨z, hz⟩ := get ek
    exact hI.dis j k y z b hy hz hbj hbk
  · intro j x b e hbl
    rcases get_set e with ⟨rfl, _⟩ | ⟨_, e'⟩
    · exact .inr ⟨j, o, hi, hbl⟩
    · exact .inr ⟨j, x, e', hbl⟩

/-- An object that is forgotten. -/
theorem inv_drop {h : GH} {φ : Nat → Value} {T : Tab} {w : World} (hI : Inv h φ w T) (i : Nat) : Inv h φ w (T.set i none) ∧ Evo h φ T w h φ (T.set i none) w := by
  have get : ∀ {m : Nat} {x : AObj}, (T.set i none)[m]? = some (some x) → T[m]? = some (some x) := by
    intro m x e
    rcases get_set e with ⟨_, e'⟩ | ⟨_, e'⟩
    · simp at e'
    · exact e'
  refine ⟨⟨hI.gh, ?_, ?_⟩, ⟨rfl, rfl, rfl, Nat.le_refl _, fun _ _ _ => rfl, GLe.refl h, fun _ _ e => .inl e, fun _ _ => rfl, ?_, by simp, Nat.le_refl _⟩⟩
  · intro j x e; rw [List.length_set]; exact hI.obj j x (get e)
  · intro j k x y b e e'; exact hI.dis j k x y b (get e) (get e')
  · intro j x b e hb; exact .inr ⟨j, x, get e, hb⟩
end Hud
