/- Calls. -/
import Derived.Test.YthmdkjeflllfpaaHudN
set_option linter.all false
namespace Hud
open Go

theorem addN_pre : ∀ (xs L : List Nat), ∃ l, addN L xs = L ++ l
  | [], L => ⟨[], by simp [addN]⟩
  | i :: r, L => by
    simp only [addN]
    split
    · exact addN_pre r L
    · obtain ⟨l, h⟩ := addN_pre r (L ++ [i])
      exact ⟨i :: l, by rw [h]; simp⟩
theorem addN_nodup : ∀ (xs L : List Nat), L.Nodup → (addN L xs).Nodup
  | [], L, h => h
  | i :: r, L, h => by
    simp only [addN]
    split
    · exact addN_nodup r L h
    · rename_i hc
      refine addN_nodup r _ (List.nodup_append.2 ⟨h, by simp, fun a ha b hb => ?_⟩)
      simp only [List.mem_singleton] at hb
      subst hb
      rintro rfl
      exact hc (by simpa using ha)
theorem rounds_pre (T : Tab) : ∀ (R : Tab) (L : List Nat), ∃ l, rounds T R L = L ++ l
  | [], L => ⟨[], by simp [rounds]⟩
  | _ :: R, L => by
    obtain ⟨l, h⟩ := addN_pre (idsM T L) L
    obtain ⟨l', h'⟩ := rounds_pre T R (addN L (idsM T L))
    exact ⟨l ++ l', by simp only [rounds]; rw [h', h]; simp⟩
theorem rounds_nodup (T : Tab) : ∀ (R : Tab) (L : List Nat), L.Nodup → (rounds T R L).Nodup
  | [], _, h => h
  | _ :: R, L, h => by
    simp only [rounds]
    exact rounds_nodup T R _ (addN_nodup _ _ h)
theorem reach_nodup (T : Tab) (ids : List Nat) : (reach T ids).Nodup := rounds_nodup T T _ (addN_nodup _ _ (by simp))
theorem addN_range : ∀ (m k : Nat) (more : List Nat), ∃ l, addN (List.range k) (List.range' k m ++ more) = List.range (k + m) ++ l
  | 0, k, more => by simpa using addN_pre more (List.range k)
  | m + 1, k, more => by
    simp only [List.range'_succ, List.cons_append, addN]
    rw [if_neg (by simp)]
    have := addN_range m (k + 1) more
    rw [List.range_succ] at this
    rw [show k + (m + 1) = k + 1 + m from by omega]
    exact this
theorem reach_range (T : Tab) (r : Nat) (more : List Nat) : ∃ l, reach T (List.range r ++ more) = List.range r ++ l := by
  obtain ⟨l, h⟩ := addN_range r 0 more
  obtain ⟨l', h'⟩ := rounds_pre T T (addN [] (List.range r ++ more))
  refine ⟨l ++ l', ?_⟩
  unfold reach
  rw [h']
  simp only [List.range_zero, Nat.zero_add] at h
  rw [List.range_eq_range', h, ← List.range_eq_range']
  simp


theorem idx_some {L : List Nat} {i j : Nat} (e : idx L i = some j) : L[j]? = some i := by
  unfold idx at e
  induction L generalizing j with
  | nil => simp at e
  | cons a L ih =>
    rw [List.idxOf?_cons] at e
    split at e
    · rename_i ha
      injection e with e
      subst e
      simp at ha
      simp [ha]
    · cases h : List.idxOf? i L with
      | none => simp [h] at e
      | some k => simp [h] at e; subst e; simp [ih h]
theorem idx_lt {L : List Nat} {i j : Nat} (e : idx L i = some j) : j < L.length := by
  have := idx_some e
  rcases Nat.lt_or_ge j L.length with h | h
  · exact h
  · simp [List.getElem?_eq_none h] at this

section
variable {h h' : GH} {φ φc : Nat → Value} {n : Nat}

/-- A value in another table's names. -/
def Names (L : List Nat) (φ φc : Nat → Value) : Prop := ∀ j i, L[j]? = some i → φc j = φ i
mutual
theorem rnA_ok {L : List Nat} (hφ : Names L φ φc) : ∀ {x : AV} {u : Value}, Rp h φ n x u → Rp h φc L.length (rnA L x) u
  | .v _, _, e => by simpa [Rp, rnA] using e
  | .ls _ _, _, e => by simp only [Rp, rnA] at *; exact e
  | .ag cs, _, e => by simp only [Rp, rnA] at *; obtain ⟨us, h1, h2⟩ := e; exact ⟨us, h1, rnL_ok hφ h2⟩
  | .own i, _, e => by
    simp only [Rp, rnA] at *
    split
    · rename_i j hj
      simp only [Rp]
      exact ⟨idx_lt hj, by rw [hφ _ _ (idx_some hj)]; exact e.2.1, e.2.2⟩
    · simp [Rp]
  | .ptr i o, _, e => by
    simp only [Rp, rnA] at *
    split
    · rename_i j hj
      simp only [Rp]
      exact ⟨idx_lt hj, by rw [hφ _ _ (idx_some hj)]; exact e.2⟩
    · simp [Rp]
  | .elt i k m o, _, e => by
    simp only [Rp, rnA] at *
    split
    · rename_i j hj
      simp only [Rp]
      exact ⟨idx_lt hj, by rw [hφ _ _ (idx_some hj)]; exact e.2⟩
    · simp [Rp]
  | .vw i k m o, _, e => by
    simp only [Rp, rnA] at *
    split
    · rename_i j hj
      simp only [Rp]
      exact ⟨idx_lt hj, by rw [hφ _ _ (idx_some hj)]; exact e.2⟩
    · simp [Rp]
  | .mp i, _, e => by
    simp only [Rp, rnA] at *
    split
    · rename_i j hj
      simp only [Rp]
      exact ⟨idx_lt hj, by rw [hφ _ _ (idx_some hj)]; exact e.2.1, e.2.2⟩
    · simp [Rp]
  | .rp _, _, e => by simp only [Rp, rnA] at *; exact e
  | .cl f cs, _, e => by simp only [Rp, rnA] at *; obtain ⟨us, h1, h2⟩ := e; exact ⟨us, h1, rnL_ok hφ h2⟩
  | .tup cs, _, e => by simp only [Rp, rnA] at *; obtain ⟨us, h1, h2⟩ := e; exact ⟨us, h1, rnL_ok hφ h2⟩
  | .any, _, _ => by simp [Rp, rnA]
theorem rnL_ok {L : List Nat} (hφ : Names L φ φc) : ∀ {cs : List AV} {us : List Value}, RpL h φ n cs us → RpL h φc L.length (rnL L cs) us
  | [], _, e => by simpa [RpL, rnL] using e
  | c :: cs, us, e => by
    simp only [RpL, rnL] at *
    obtain ⟨u, us', h1, h2, h3⟩ := e
    exact ⟨u, us', h1, rnA_ok hφ h2, rnL_ok hφ h3⟩
end

theorem rnO_ok {L : List Nat} (hφ : Names L φ φc) {w : World} {i j : Nat} {o : AObj} (hj : L[j]? = some i) (e : objAt h φ n w i o) : objAt h φc L.length w j (rnO L o) := by
  have hij := hφ j i hj
  cases o with
  | box cs =>
    obtain ⟨g, us, E, h1, h2, h3, h4⟩ := e
    exact ⟨g, us, E, by rw [hij]; exact h1, h2, h3, rnL_ok hφ h4⟩
  | arr k es =>
    obtain ⟨h0, h1 | ⟨g, c, cur, E, h1, h2⟩⟩ := e
    · exact ⟨h0, .inl ⟨by rw [hij]; exact h1.1, h1.2⟩⟩
    · exact ⟨h0, .inr ⟨g, c, cur, E, by rw [hij]; exact h1, h2⟩⟩
  | map ag ks vs bs cl =>
    obtain ⟨g, ens, h1, h2, h3, h4, h5, h6⟩ := e
    exact ⟨g, ens, by rw [hij]; exact h1, h2, h3, h4, h5, rnL_ok hφ h6⟩

theorem rnT_get {L : List Nat} {T : Tab} {j : Nat} {o : AObj} (e : (rnT L T)[j]? = some (some o)) : ∃ i o', L[j]? = some i ∧ T[i]? = some (some o') ∧ o = rnO L o' := by
  unfold rnT at e
  rw [List.getElem?_map] at e
  cases hj : L[j]? with
  | none => simp [hj] at e
  | some i =>
    simp only [hj, Option.map_some, Option.some.injEq] at e
    cases hg : getT T i with
    | none => simp [hg] at e
    | some o' =>
      simp only [hg, Option.map_some, Option.some.injEq] at e
      exact ⟨i, o', rfl, getT_some hg, e.symm⟩

/-- The objects L alone, named by their places. -/
theorem inv_rn {L : List Nat} (hL : L.Nodup) {T : Tab} {w : World} (hI : Inv h φ w T) (hφ : Names L φ φc) : Inv h φc w (rnT L T) := by
  have hlen : (rnT L T).length = L.length := by simp [rnT]
  refine ⟨hI.gh, fun j o e => ?_, fun j j' o o' b e e' hb hb' => ?_⟩
  · obtain ⟨i, o', hj, hi, rfl⟩ := rnT_get e
    rw [hlen]
    exact rnO_ok hφ hj (hI.obj i o' hi)
  · obtain ⟨i, x, hj, hi, rfl⟩ := rnT_get e
    obtain ⟨i', x', hj', hi', rfl⟩ := rnT_get e'
    rw [hφ _ _ hj] at hb
    rw [hφ _ _ hj'] at hb'
    have := hI.dis i i' x x' b hi hi' hb hb'
    subst this
    have hlt : j < L.length := by
      rcases Nat.lt_or_ge j L.length with hh | hh
      · exact hh
      · simp [List.getElem?_eq_none hh] at hj
    exact (List.getElem?_inj hlt hL).1 (by rw [hj, hj'])

-- and back
theorem bk_lt {L : List Nat} {j i : Nat} (hj : L[j]? = some i) : bk L n j = i := by
  have hlt : j < L.length := by
    rcases Nat.lt_or_ge j L.length with hh | hh
    · exact hh
    · simp [List.getElem?_eq_none hh] at hj
  unfold bk
  rw [if_pos hlt, List.getD_eq_getElem?_getD, hj]
  rfl
theorem bk_ge {L : List Nat} {j : Nat} (hj : L.length ≤ j) : bk L n j = n + (j - L.length) := by unfold bk; rw [if_neg (by omega)]

mutual
theorem bkA_ok {L : List Nat} {m m' : Nat} (hφ : ∀ j, j < m → φ (bk L n j) = φc j ∧ bk L n j < m') : ∀ {x : AV} {u : Value}, Rp h φc m x u → Rp h φ m' (bkA L n x) u
  | .v _, _, e => by simpa [Rp, bkA] using e
  | .ls _ _, _, e => by simp only [Rp, bkA] at *; exact e
  | .ag cs, _, e => by simp only [Rp, bkA] at *; obtain ⟨us, h1, h2⟩ := e; exact ⟨us, h1, bkL_ok hφ h2⟩
  | .own i, _, e => by
    simp only [Rp, bkA] at *
    obtain ⟨h1, h2⟩ := hφ i e.1
    exact ⟨h2, by rw [h1]; exact e.2.1, e.2.2⟩
  | .ptr i o, _, e => by
    simp only [Rp, bkA] at *
    obtain ⟨h1, h2⟩ := hφ i e.1
    exact ⟨h2, by rw [h1]; exact e.2⟩
  | .elt i k j o, _, e => by
    simp only [Rp, bkA] at *
    obtain ⟨h1, h2⟩ := hφ i e.1
    exact ⟨h2, by rw [h1]; exact e.2⟩
  | .vw i k j o, _, e => by
    simp only [Rp, bkA] at *
    obtain ⟨h1, h2⟩ := hφ i e.1
    exact ⟨h2, by rw [h1]; exact e.2⟩
  | .mp i, _, e => by
    simp only [Rp, bkA] at *
    obtain ⟨h1, h2⟩ := hφ i e.1
    exact ⟨h2, by rw [h1]; exact e.2.1, e.2.2⟩
  | .rp _, _, e => by simp only [Rp, bkA] at *; exact e
  | .cl f cs, _, e => by simp only [Rp, bkA] at *; obtain ⟨us, h1, h2⟩ := e; exact ⟨us, h1, bkL_ok hφ h2⟩
  | .tup cs, _, e => by simp only [Rp, bkA] at *; obtain ⟨us, h1, h2⟩ := e; exact ⟨us, h1, bkL_ok hφ h2⟩
  | .any, _, _ => by simp [Rp, bkA]
theorem bkL_ok {L : List Nat} {m m' : Nat} (hφ : ∀ j, j < m → φ (bk L n j) = φc j ∧ bk L n j < m') : ∀ {cs : List AV} {us : List Value}, RpL h φc m cs us → RpL h φ m' (bkL L n cs) us
  | [], _, e => by simpa [RpL, bkL] using e
  | c :: cs, us, e => by
    simp only [RpL, bkL] at *
    obtain ⟨u, us', h1, h2, h3⟩ := e
    exact ⟨u, us', h1, bkA_ok hφ h2, bkL_ok hφ h3⟩
end

theorem bkO_ok {L : List Nat} {m m' : Nat} (hφ : ∀ j, j < m → φ (bk L n j) = φc j ∧ bk L n j < m') {w : World} {j : Nat} (hj : j < m) {o o' : AObj} (ho : bkO L n (some o) = some o') (e : objAt h φc m w j o) : objAt h φ m' w (bk L n j) o' := by
  have hij := (hφ j hj).1
  cases o with
  | box cs =>
    simp only [bkO, Option.some.injEq] at ho
    subst ho
    obtain ⟨g, us, E, h1, h2, h3, h4⟩ := e
    exact ⟨g, us, E, by rw [hij]; exact h1, h2, h3, bkL_ok hφ h4⟩
  | arr k es =>
    simp only [bkO, Option.some.injEq] at ho
    subst ho
    obtain ⟨h0, h1 | ⟨g, c, cur, E, h1, h2⟩⟩ := e
    · exact ⟨h0, .inl ⟨by rw [hij]; exact h1.1, h1.2⟩⟩
    · exact ⟨h0, .inr ⟨g, c, cur, E, by rw [hij]; exact h1, h2⟩⟩
  | map ag ks vs bs cl =>
    simp only [bkO, Option.some.injEq] at ho
    subst ho
    obtain ⟨g, ens, h1, h2, h3, h4, h5, h6⟩ := e
    exact ⟨g, ens, by rw [hij]; exact h1, h2, h3, h4, h5, bkL_ok hφ h6⟩

theorem bkT_len {L : List Nat} : ∀ (L' : List Nat) (T T' : Tab), L'.length ≤ T'.length → (bkT L n T L' T').length = T.length + (T'.length - L'.length)
  | [], T, [], _ => by simp [bkT]
  | [], T, o :: T', _ => by simp [bkT]
  | i :: L', T, [], h => by simp at h
  | i :: L', T, o :: T', h => by
    simp only [bkT]
    rw [bkT_len L' _ T' (by simpa using h)]
    simp

theorem bkT_get {L : List Nat} : ∀ (L' : List Nat) (T T' : Tab) (i : Nat) (o : AObj), L'.Nodup → (∀ x ∈ L', x < T.length) → L'.length ≤ T'.length → (bkT L n T L' T')[i]? = some (some o) →
    (∃ j : Nat, L'[j]? = some i ∧ ∃ o', T'[j]? = some o' ∧ bkO L n o' = some o) ∨ (i < T.length ∧ i ∉ L' ∧ T[i]? = some (some o)) ∨ (T.length ≤ i ∧ ∃ o', T'[L'.length + (i - T.length)]? = some o' ∧ bkO L n o' = some o)
  | [], T, [], i, o, _, _, _, e => by
    simp only [bkT] at e
    refine .inr (.inl ⟨?_, by simp, e⟩)
    rcases Nat.lt_or_ge i T.length with hh | hh
    · exact hh
    · simp [List.getElem?_eq_none hh] at e
  | [], T, x :: T', i, o, _, _, _, e => by
    simp only [bkT] at e
    rcases Nat.lt_or_ge i T.length with hh | hh
    · rw [List.getElem?_append_left hh] at e; exact .inr (.inl ⟨hh, by simp, e⟩)
    · rw [List.getElem?_append_right hh, List.getElem?_map] at e
      refine .inr (.inr ⟨hh, ?_⟩)
      simp only [List.length_nil, Nat.zero_add]
      cases hx : (x :: T')[i - T.length]? with
      | none => simp [hx] at e
      | some o' => simp only [hx, Option.map_some, Option.some.injEq] at e; exact ⟨o', rfl, e⟩
  | a :: L', T, [], i, o, _, _, h, _ => by simp at h
  | a :: L', T, x :: T', i, o, hn, hl, hle, e => by
    simp only [bkT] at e
    obtain ⟨hna, hn'⟩ := List.nodup_cons.1 hn
    have ha := hl a (by simp)
    rcases bkT_get L' (T.set a (bkO L n x)) T' i o hn' (fun y hy => by rw [List.length_set]; exact hl y (by simp [hy])) (by simpa using hle) e with ⟨j, hj, h2⟩ | ⟨h1, h2, h3⟩ | ⟨h1, h2⟩
    · exact .inl ⟨j + 1, by simpa using hj, by simpa using h2⟩
    · rw [List.length_set] at h1
      rw [List.getElem?_set] at h3
      split at h3
      · rename_i hai
        subst hai
        injection h3 with h3
        exact .inl ⟨0, by simp, x, by simp, h3⟩
      · rename_i hai
        exact .inr (.inl ⟨h1, by simp; exact ⟨fun e => hai e.symm, h2⟩, h3⟩)
    · rw [List.length_set] at h1 h2
      refine .inr (.inr ⟨h1, ?_⟩)
      obtain ⟨o', h3, h4⟩ := h2
      exact ⟨o', by simp only [List.length_cons]; rw [show L'.length + 1 + (i - T.length) = (L'.length + (i - T.length)) + 1 from by omega, List.getElem?_cons_succ]; exact h3, h4⟩

theorem bkO_some {L : List Nat} {o' : Option AObj} {o : AObj} (e : bkO L n o' = some o) : ∃ x, o' = some x := by
  cases o' with
  | none => simp [bkO] at e
  | some x => exact ⟨x, rfl⟩

/-- BEHIND A CALL that was handed the objects L. -/
theorem ret_bk {L : List Nat} (hL : L.Nodup) {T : Tab} (hlt : ∀ i ∈ L, i < T.length) {w : World} (hI : Inv h φ w T) {T' : Tab} {h' : GH} {φc' : Nat → Value} {w' : World}
    (hφ : Names L φ φc) (hE : Evo h φc (rnT L T) w h' φc' T' w') (hI' : Inv h' φc' w' T') {r : AV} {v : Value} (hr : Rp h' φc' T'.length r v) :
    ∃ φ', Evo h φ T w h' φ' (bkT L T.length T L T') w' ∧ Inv h' φ' w' (bkT L T.length T L T') ∧ Rp h' φ' (bkT L T.length T L T').length (bkA L T.length r) v := by
  have hlen : (rnT L T).length = L.length := by simp [rnT]
  have hle : L.length ≤ T'.length := by have := hE.len; omega
  have htl := bkT_len (L := L) (n := T.length) L T T' hle
  let φ' : Nat → Value := fun i => if i < T.length then φ i else φc' (L.length + (i - T.length))
  have hφ' : ∀ j, j < T'.length → φ' (bk L T.length j) = φc' j ∧ bk L T.length j < (bkT L T.length T L T').length := by
    intro j hj
    rcases Nat.lt_or_ge j L.length with hh | hh
    · have hjg : L[j]? = some L[j] := List.getElem?_eq_getElem hh
      have hmem := hlt _ (List.getElem_mem hh)
      rw [bk_lt hjg]
      refine ⟨?_, by omega⟩
      show (if L[j] < T.length then φ L[j] else _) = _
      rw [if_pos hmem, hE.phi j (by omega), hφ j _ hjg]
    · rw [bk_ge hh]
      refine ⟨?_, by omega⟩
      show (if T.length + (j - L.length) < T.length then _ else φc' (L.length + (T.length + (j - L.length) - T.length))) = _
      rw [if_neg (by omega)]
      congr 1
      omega
  have hold : ∀ i, i < T.length → φ' i = φ i := fun i hi => if_pos hi
  -- blocks that the callee was handed are the caller's
  have own_up : ∀ b, (∃ j o, (rnT L T)[j]? = some (some o) ∧ blk (φc j) = some b) → ∃ i o, i ∈ L ∧ T[i]? = some (some o) ∧ blk (φ i) = some b := by
    rintro b ⟨j, o, hj, hb⟩
    obtain ⟨i, o', h1, h2, _⟩ := rnT_get hj
    exact ⟨i, o', List.mem_of_getElem? h1, h2, by rw [← hφ j i h1]; exact hb⟩
  -- an object beside them stays
  have beside : ∀ i o, i < T.length → i ∉ L → T[i]? = some (some o) → ∀ b, blk (φ i) = some b → b < w.heap.size ∧ h b = none ∧ ¬ ∃ j o, (rnT L T)[j]? = some (some o) ∧ blk (φc j) = some b := by
    intro i o hi hiL ho b hb
    obtain ⟨h1, h2⟩ := objAt_blk (hI.obj i o ho) hb
    refine ⟨h1, h2, fun hx => ?_⟩
    obtain ⟨i', o', hmem, ho', hb'⟩ := own_up b hx
    have := hI.dis i i' o o' b ho ho' hb hb'
    exact hiL (this ▸ hmem)
  have kind : ∀ i o, (bkT L T.length T L T')[i]? = some (some o) →
      (∃ j x, j < T'.length ∧ bk L T.length j = i ∧ T'[j]? = some (some x) ∧ bkO L T.length (some x) = some o) ∨ (i < T.length ∧ i ∉ L ∧ T[i]? = some (some o)) := by
    intro i o e
    rcases bkT_get L T T' i o hL hlt hle e with ⟨j, h1, o', h2, h3⟩ | h1 | ⟨h1, o', h2, h3⟩
    · obtain ⟨x, rfl⟩ := bkO_some h3
      refine .inl ⟨j, x, ?_, bk_lt h1, h2, h3⟩
      rcases Nat.lt_or_ge j T'.length with hh | hh
      · exact hh
      · simp [List.getElem?_eq_none hh] at h2
    · exact .inr h1
    · obtain ⟨x, rfl⟩ := bkO_some h3
      refine .inl ⟨_, x, ?_, ?_, h2, h3⟩
      · rcases Nat.lt_or_ge (L.length + (i - T.length)) T'.length with hh | hh
        · exact hh
        · simp [List.getElem?_eq_none hh] at h2
      · rw [bk_ge (by omega)]; omega
  refine ⟨φ', ⟨hE.os, hE.tape, hE.output, hE.size, ?_, hE.le, ?_, hold, ?_, by omega, hE.drawn⟩, ⟨hI'.gh, ?_, ?_⟩, bkA_ok hφ' hr⟩
  · intro b hb hn
    refine hE.frame b hb fun j o hj hbl => ?_
    obtain ⟨i, o', _, h1, h2⟩ := own_up b ⟨j, o, hj, hbl⟩
    exact hn i o' h1 h2
  · intro b cs e
    rcases hE.gfr b cs e with h1 | h1 | ⟨j, o, hj, hbl⟩
    · exact .inl h1
    · exact .inr (.inl h1)
    · obtain ⟨i, o', _, h1, h2⟩ := own_up b ⟨j, o, hj, hbl⟩
      exact .inr (.inr ⟨i, o', h1, h2⟩)
  · intro i o b e hb
    rcases kind i o e with ⟨j, x, hj, rfl, hx, _⟩ | ⟨h1, h2, h3⟩
    · rw [(hφ' j hj).1] at hb
      rcases hE.org j x b hx hb with h4 | ⟨j', o', h4, h5⟩
      · exact .inl h4
      · obtain ⟨i, o', _, h6, h7⟩ := own_up b ⟨j', o', h4, h5⟩
        exact .inr ⟨i, o', h6, h7⟩
    · rw [hold i h1] at hb
      exact .inr ⟨i, o, h3, hb⟩
  · intro i o e
    rcases kind i o e with ⟨j, x, hj, rfl, hx, ho⟩ | ⟨h1, h2, h3⟩
    · exact bkO_ok hφ' hj ho (hI'.obj j x hx)
    · refine objAt_keep (hI.obj i o h3) hE.le (by omega) (fun j hj => hold j hj) h1 fun g hg => ?_
      obtain ⟨h4, h5, h6⟩ := beside i o h1 h2 h3 g hg
      refine ⟨hE.frame g h4 fun j o hj hbl => h6 ⟨j, o, hj, hbl⟩, ?_⟩
      cases hh : h' g with
      | none => rfl
      | some cs =>
        rcases hE.gfr g cs hh with h7 | h7 | h7
        · rw [h5] at h7; simp at h7
        · omega
        · exact absurd h7 h6
  · intro i i' o o' b e e' hb hb'
    have cross : ∀ {i i' : Nat} {o : AObj} {j : Nat} {x : AObj}, i < T.length → i ∉ L → T[i]? = some (some o) → blk (φ i) = some b → T'[j]? = some (some x) → blk (φc' j) = some b → False := by
      intro i i' o j x h1 h2 h3 hb hx hbx
      obtain ⟨h4, _, h6⟩ := beside i o h1 h2 h3 b hb
      rcases hE.org j x b hx hbx with h7 | h7
      · omega
      · exact h6 h7
    rcases kind i o e with ⟨j, x, hj, rfl, hx, _⟩ | ⟨h1, h2, h3⟩ <;> rcases kind i' o' e' with ⟨j', x', hj', rfl, hx', _⟩ | ⟨h1', h2', h3'⟩
    · rw [(hφ' j hj).1] at hb
      rw [(hφ' j' hj').1] at hb'
      rw [hI'.dis j j' x x' b hx hx' hb hb']
    · rw [(hφ' j hj).1] at hb
      rw [hold i' h1'] at hb'
      exact (cross (i' := 0) h1' h2' h3' hb' hx hb).elim
    · rw [(hφ' j' hj').1] at hb'
      rw [hold i h1] at hb
      exact (cross (i' := 0) h1 h2 h3 hb hx' hb').elim
    · rw [hold i h1] at hb
      rw [hold i' h1'] at hb'
      exact hI.dis i i' o o' b h3 h3' hb hb'
end
end Hud
