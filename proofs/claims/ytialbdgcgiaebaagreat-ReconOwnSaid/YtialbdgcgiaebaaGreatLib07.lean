import Derived.Test.YtialbdgcgiaebaaGreatLib06
set_option linter.all false
section
namespace Hud
open Go
open Classical in
noncomputable def shutG (h : GH) (φ : Nat → Value) (i : Nat) (w : World) : GH := fun b =>
  if blk (φ i) = some b then (match w.heap[b]? with | some (.cells cs _ _) => some cs | _ => none) else h b
section
variable {h : GH} {φ : Nat → Value} {T : Tab} {w : World} {i k : Nat} {es : List (List AV)}
theorem shutG_own (hI : Inv h φ w T) (hi : T[i]? = some (some (.arr k es))) {b : Nat} (hb : blk (φ i) = some b) : ∃ cs E, w.heap[b]? = some (.cells cs E (0, 0)) ∧ shutG h φ i w b = some cs := by
  have : ∃ cs E, w.heap[b]? = some (.cells cs E (0, 0)) := by
    obtain ⟨_, ⟨A, h1⟩ | ⟨g, c, cur, E, h1, h2, _⟩⟩ := hI.obj i _ hi
    · rw [h1.1] at hb; simp [blk] at hb
    · rw [h1] at hb; simp only [blk, Option.some.injEq] at hb; subst hb
      exact ⟨cur, E, h2⟩
  obtain ⟨cs, E, hw⟩ := this
  refine ⟨cs, E, hw, ?_⟩
  unfold shutG
  rw [if_pos hb, hw]
theorem shutG_off {b : Nat} (hb : blk (φ i) ≠ some b) : shutG h φ i w b = h b := by unfold shutG; rw [if_neg hb]
theorem shutG_le (hI : Inv h φ w T) (hi : T[i]? = some (some (.arr k es))) : GLe h (shutG h φ i w) := by
  intro b cs e
  rw [shutG_off]
  · exact e
  · intro hb
    have := (objAt_blk (hI.obj i _ hi) hb).2
    rw [e] at this
    simp at this
theorem shut_full (hI : Inv h φ w T) (hi : T[i]? = some (some (.arr k es))) : (∃ A, φ i = .slice A 0 0 ∧ es = []) ∨ ∃ g c, φ i = .slice (some ⟨g, 0, none⟩) es.length c ∧ es.length ≤ c ∧ c ≤ maxLen ∧ RpDE (shutG h φ i w) g k es 0 := by
  obtain ⟨hl, h1 | ⟨g, c, cur, E, hφ, hw, h2, h3, h4, h5, h6⟩⟩ := hI.obj i _ hi
  · exact .inl h1
  · refine .inr ⟨g, c + 1, hφ, h2, h3, ?_⟩
    obtain ⟨cs', E', hw', hlent⟩ := shutG_own hI hi (b := g) (by rw [hφ]; rfl)
    rw [hw] at hw'
    injection hw' with hw'
    injection hw' with hw'
    subst hw'
    refine RpDE.of_list (h6.mono (shutG_le hI hi)) hl fun j v hj => ?_
    unfold cellG
    rw [hlent]
    rw [List.getElem?_take] at hj
    split at hj
    · simpa using hj
    · simp at hj
mutual
theorem slA_ok (hI : Inv h φ w T) (hi : T[i]? = some (some (.arr k es))) {n : Nat} : ∀ {x : AV} {u : Value}, Rp h φ n x u → Rp (shutG h φ i w) φ n (slA i k es x) u
  | .v _, _, e => by simpa [Rp, slA] using e
  | .ls _ _, _, e => by simp only [Rp, slA] at *; exact e.mono (shutG_le hI hi)
  | .ag cs, _, e => by simp only [Rp, slA] at *; obtain ⟨us, h1, h2⟩ := e; exact ⟨us, h1, slL_ok hI hi h2⟩
  | .own j, u, e => by
    simp only [slA]
    split
    · rename_i hj
      subst hj
      simp only [Rp] at e
      simp only [Rp, RpD]
      rcases shut_full hI hi with ⟨A, h1, h2⟩ | ⟨g, c, h1, h2, h3, h4⟩
      · exact ⟨A, 0, by rw [e.2.1, h1, h2]; rfl, by rw [h2]; simp, by simp, .inl h2⟩
      · exact ⟨_, c, by rw [e.2.1, h1], h2, h3, .inr ⟨g, 0, rfl, h4⟩⟩
    · simpa only [Rp] using e
  | .ptr j o, u, e => by simpa only [Rp, slA] using e
  | .mp j, u, e => by simpa only [Rp, slA] using e
  | .yl j, u, e => by simpa only [Rp, slA] using e
  | .elt j k' m off, u, e => by
    simp only [slA]
    split
    · rename_i hj
      subst hj
      split
      · rename_i hk
        subst hk
        split
        · rename_i d hd
          simp only [Rp] at e ⊢
          obtain ⟨_, g, l, c, hφ, hu⟩ := e
          rcases shut_full hI hi with ⟨A, h1, h2⟩ | ⟨g', c', h1, h2, h3, h4⟩
          · rw [h2] at hd; simp at hd
          · rw [hφ] at h1
            injection h1 with e1 e2 e3
            injection e1 with e1
            injection e1 with e1
            subst e1
            obtain ⟨_, h5⟩ := h4.get hd
            exact ⟨g, m * k' + off, hu, by simpa using h5.drop off⟩
        · simp [Rp]
      · simp [Rp]
    · simpa only [Rp] using e
  | .vw j k' lo m, u, e => by
    simp only [slA]
    split
    · rename_i hj
      subst hj
      split
      · rename_i hk
        obtain ⟨rfl, hlen⟩ := hk
        simp only [Rp] at e
        obtain ⟨_, A, c, hu, hmc, hcm, h0⟩ := e
        have hln : ((es.drop lo).take m).length = m := by rw [List.length_take, List.length_drop]; omega
        simp only [Rp, RpD]
        refine ⟨A, c, by rw [hln]; exact hu, by rw [hln]; exact hmc, hcm, ?_⟩
        rcases h0 with rfl | ⟨g, l, c', hφ, rfl, hle⟩
        · exact .inl (by simp)
        · rcases shut_full hI hi with ⟨A, h1, h2⟩ | ⟨g', c', h1, h2, h3, h4⟩
          · subst h2
            exact .inl (by simp)
          · rw [hφ] at h1
            injection h1 with e1 e2 e3
            injection e1 with e1
            injection e1 with e1
            subst e1
            exact .inr ⟨g, lo * k', rfl, by simpa using (h4.drop lo).take m⟩
      · simp [Rp]
    · simpa only [Rp] using e
  | .rp cs, u, e => by
    simp only [Rp, slA] at *
    obtain ⟨b, o, h1, h2⟩ := e
    exact ⟨b, o, h1, h2.mono (shutG_le hI hi)⟩
  | .cl f cs, _, e => by simp only [Rp, slA] at *; obtain ⟨us, h1, h2⟩ := e; exact ⟨us, h1, slL_ok hI hi h2⟩
  | .bm f kk cs, _, e => by simp only [Rp, slA] at *; obtain ⟨us, h1, h2⟩ := e; exact ⟨us, h1, slL_ok hI hi h2⟩
  | .tup cs, _, e => by simp only [Rp, slA] at *; obtain ⟨us, h1, h2⟩ := e; exact ⟨us, h1, slL_ok hI hi h2⟩
  | .any, _, _ => by simp [Rp, slA]
theorem slL_ok (hI : Inv h φ w T) (hi : T[i]? = some (some (.arr k es))) {n : Nat} : ∀ {cs : List AV} {us : List Value}, RpL h φ n cs us → RpL (shutG h φ i w) φ n (slL i k es cs) us
  | [], _, e => by simpa [RpL, slL] using e
  | c :: cs, us, e => by
    simp only [RpL, slL] at *
    obtain ⟨u, us', h1, h2, h3⟩ := e
    exact ⟨u, us', h1, slA_ok hI hi h2, slL_ok hI hi h3⟩
end
theorem slT_len : ∀ T : Tab, (slT i k es T).length = T.length
  | [] => rfl
  | _ :: r => by simp [slT, slT_len r]
theorem slT_get : ∀ {T : Tab} {j : Nat}, (slT i k es T)[j]? = (T[j]?).map (fun o => Option.bind o (slO i k es))
  | [], j => by simp [slT]
  | o :: r, 0 => by simp [slT]
  | o :: r, j + 1 => by simp only [slT, List.getElem?_cons_succ]; exact slT_get
theorem shut_inv (hI : Inv h φ w T) (hi : T[i]? = some (some (.arr k es))) : Inv (shutG h φ i w) φ w ((slT i k es T).set i none) ∧ Evo h φ T w (shutG h φ i w) φ ((slT i k es T).set i none) w := by
  have get : ∀ {j : Nat} {x : AObj}, ((slT i k es T).set i none)[j]? = some (some x) → j ≠ i ∧ ∃ y, T[j]? = some (some y) ∧ slO i k es y = some x := by
    intro j x e
    rw [List.getElem?_set] at e
    split at e
    · rename_i hh; split at e <;> simp at e
    · rename_i hh
      refine ⟨fun h => hh h.symm, ?_⟩
      rw [slT_get] at e
      cases hT : T[j]? with
      | none => rw [hT] at e; simp at e
      | some o =>
        rw [hT] at e
        cases o with
        | none => simp at e
        | some y =>
          simp only [Option.map_some, Option.bind_some, Option.some.injEq] at e
          exact ⟨y, rfl, e⟩
  have hlen : ((slT i k es T).set i none).length = T.length := by rw [List.length_set, slT_len]
  have hg := shutG_le hI hi
  refine ⟨⟨?_, ?_, ?_⟩, ⟨rfl, rfl, rfl, Nat.le_refl _, fun _ _ _ => rfl, hg, ?_, fun _ _ => rfl, ?_, by rw [hlen]; exact Nat.le_refl _, Nat.le_refl _⟩⟩
  · intro b cs e
    by_cases hb : blk (φ i) = some b
    · obtain ⟨cs', E, hw, hs⟩ := shutG_own hI hi hb
      rw [hs] at e
      injection e with e
      subst e
      exact ⟨E, _, hw⟩
    · rw [shutG_off hb] at e
      exact hI.gh b cs e
  · intro j x e
    obtain ⟨hne, y, hy, hx⟩ := get e
    rw [hlen]
    have ho := hI.obj j y hy
    have hoff : ∀ g, blk (φ j) = some g → shutG h φ i w g = h g := fun g hb => shutG_off fun hb' => hne (hI.dis j i y _ g hy hi hb hb')
    cases y with
    | box cs =>
      simp only [slO, Option.some.injEq] at hx
      subst hx
      obtain ⟨g, us, E, e1, e2, e3, e4⟩ := ho
      exact ⟨g, us, E, e1, e2, by rw [hoff g (by rw [e1]; rfl)]; exact e3, slL_ok hI hi e4⟩
    | arf k' es' =>
      simp only [slO] at hx
      split at hx
      · rename_i hone
        injection hx with hx
        subst hx
        have hfl : ∀ l : List (List AV), (slF i k es l).flatten = slL i k es l.flatten := by
          have app : ∀ (a b : List AV), slL i k es (a ++ b) = slL i k es a ++ slL i k es b := by
            intro a b
            induction a with
            | nil => rfl
            | cons c a ih => simp [slL, ih]
          intro l
          induction l with
          | nil => rfl
          | cons e l ih => simp only [slF, List.flatten_cons, ih, app]
        have hfn : ∀ l : List (List AV), (slF i k es l).length = l.length := by
          intro l
          induction l with
          | nil => rfl
          | cons e l ih => simp [slF, ih]
        have hfe : ∀ (l : List (List AV)) (d : List AV), d ∈ slF i k es l → ∃ e ∈ l, d.length = e.length := by
          have hll : ∀ cs : List AV, (slL i k es cs).length = cs.length := by
            intro cs
            induction cs with
            | nil => rfl
            | cons c cs ih => simp [slL, ih]
          intro l
          induction l with
          | nil => intro d hd; simp [slF] at hd
          | cons e l ih =>
            intro d hd
            simp only [slF] at hd
            rcases List.mem_cons.1 hd with rfl | hd
            · exact ⟨e, by simp, hll e⟩
            · obtain ⟨e', h1, h2⟩ := ih d hd; exact ⟨e', by simp [h1], h2⟩
        obtain ⟨hl, h1⟩ := ho
        refine ⟨fun d hd => ?_, ?_⟩
        · obtain ⟨e', he', hle⟩ := hfe es' d hd
          exact ⟨by rw [hle]; exact (hl e' he').1, fun c hc => List.all_eq_true.1 (List.all_eq_true.1 hone d hd) c hc⟩
        · rcases h1 with ⟨A, hA, rfl⟩ | ⟨g, c, cur, E, e1, e2, e3, e4, e5, e6, e7⟩
          · exact .inl ⟨A, hA, rfl⟩
          · exact .inr ⟨g, c, cur, E, by rw [hfn]; exact e1, e2, by rw [hfn]; exact e3, e4, e5, by rw [hoff g (by rw [e1]; rfl)]; exact e6, by rw [hfl, hfn]; exact slL_ok hI hi e7⟩
      · simp at hx
    | lp r s =>
      simp only [slO, Option.some.injEq] at hx
      subst hx
      have mem : ∀ (l : List (Nat × AV)) (q : Nat × AV), q ∈ slS i k es l → ∃ x, (q.1, x) ∈ l ∧ q.2 = slA i k es x := by
        intro l
        induction l with
        | nil => intro q hq; simp [slS] at hq
        | cons p l ih =>
          intro q hq
          obtain ⟨m, y⟩ := p
          simp only [slS] at hq
          rcases List.mem_cons.1 hq with rfl | hq
          · exact ⟨y, by simp, rfl⟩
          · obtain ⟨x, h1, h2⟩ := ih q hq; exact ⟨x, by simp [h1], h2⟩
      obtain ⟨g, e1, e2, e3, e4, e5⟩ := ho
      refine ⟨g, e1, e2, by rw [hoff g (by rw [e1]; rfl)]; exact e3, fun m x y hx hy => ?_, fun p hp => ?_⟩
      · obtain ⟨x', h1, h2⟩ := mem s _ hx
        obtain ⟨y', h3, h4⟩ := mem s _ hy
        simp only at h2 h4
        rw [h2, h4, e4 m x' y' h1 h3]
      · obtain ⟨x', h1, h2⟩ := mem s _ hp
        rw [h2]
        exact slA_ok hI hi (e5 _ h1)
    | mit m since seen st =>
      simp only [slO, Option.some.injEq] at hx
      subst hx
      obtain ⟨g, mo, e1, e2, e3, e4⟩ := ho
      exact ⟨g, mo, e1, e2, by rw [hoff g (by rw [e1]; rfl)]; exact e3, e4⟩
    | arr k' es' =>
      simp only [slO, Option.some.injEq] at hx
      subst hx
      obtain ⟨hl, h1 | ⟨g, c, cur, E, e1, e2, e3, e4, e5, e6, e7⟩⟩ := ho
      · exact ⟨hl, .inl h1⟩
      · exact ⟨hl, .inr ⟨g, c, cur, E, e1, e2, e3, e4, e5, by rw [hoff g (by rw [e1]; rfl)]; exact e6, e7.mono hg⟩⟩
    | map ag ks vs bs cl =>
      simp only [slO, Option.some.injEq] at hx
      subst hx
      obtain ⟨g, ens, e1, e2, e3, e4, e5, e6⟩ := ho
      exact ⟨g, ens, e1, e2, by rw [hoff g (by rw [e1]; rfl)]; exact e3, e4, e5, slL_ok hI hi e6⟩
  · intro j m oj om b ej em hj hm
    obtain ⟨_, y, hy, _⟩ := get ej
    obtain ⟨_, z, hz, _⟩ := get em
    exact hI.dis j m y z b hy hz hj hm
  · intro b cs e
    by_cases hb : blk (φ i) = some b
    · exact .inr (.inr ⟨i, _, hi, hb⟩)
    · rw [shutG_off hb] at e
      exact .inl e
  · intro j o b e hb
    obtain ⟨_, y, hy, _⟩ := get e
    exact .inr ⟨j, y, hy, hb⟩
end
theorem slS_mem {i k : Nat} {es : List (List AV)} {q : Nat × AV} {l : List (Nat × AV)} (h : q ∈ slS i k es l) : ∃ x, (q.1, x) ∈ l ∧ q.2 = slA i k es x := by
  induction l with
  | nil => simp [slS] at h
  | cons p l ih =>
    obtain ⟨j, y⟩ := p
    simp only [slS] at h
    rcases List.mem_cons.1 h with rfl | h
    · exact ⟨y, by simp, rfl⟩
    · obtain ⟨x, h1, h2⟩ := ih h; exact ⟨x, by simp [h1], h2⟩
theorem slS_get {i k : Nat} {es : List (List AV)} {j : Nat} : ∀ l : List (Nat × AV), getS (slS i k es l) j = slA i k es (getS l j)
  | [] => by simp [slS, getS, slA]
  | (m, x) :: r => by
    simp only [slS, getS]
    split
    · rfl
    · exact slS_get r
theorem SInv.shutI {P : Program} {G : Nat → Option (List AV)} {N : Nat} {h0 : GH} {φ0 : Nat → Value} {T0 : Tab} {w0 : World} {a : Act} {w : World} {st : St} (hS : SInv P G N h0 φ0 T0 w0 st a w) (i : Nat) : SInv P G N h0 φ0 T0 w0 (shutI st i) a w := by
  unfold Hud.shutI
  split
  · rename_i k es hg
    obtain ⟨hr, honce, ⟨h, φ, hG, hE, hI, hSl⟩, hsz, hdf⟩ := hS
    obtain ⟨s1, s2⟩ := shut_inv hI (getT_some hg)
    refine ⟨hr, ?_, ⟨_, φ, hG.mono (shutG_le hI (getT_some hg)), hE.trans s2, s1, fun j => ?_⟩, hsz, hdf⟩
    · intro j x y hx hy
      obtain ⟨x', h1, h2⟩ := slS_mem hx
      obtain ⟨y', h3, h4⟩ := slS_mem hy
      simp only at h2 h4
      rw [h2, h4, honce j x' y' h1 h3]
    · show Rp _ φ ((slT i k es st.T).set i none).length (getS (slS i k es st.s) j) _
      rw [List.length_set, slT_len, slS_get]
      exact slA_ok hI (getT_some hg) (hSl j)
  · exact hS
theorem SInv.shut {P : Program} {G : Nat → Option (List AV)} {N : Nat} {h0 : GH} {φ0 : Nat → Value} {T0 : Tab} {w0 : World} {a : Act} {w : World} {st : St} (hS : SInv P G N h0 φ0 T0 w0 st a w) (j : Nat) : SInv P G N h0 φ0 T0 w0 (gcs [] (shutSt st j)) a w := by
  have : ∀ (l : List Nat) (st : St), SInv P G N h0 φ0 T0 w0 st a w → SInv P G N h0 φ0 T0 w0 (shutN st l) a w := by
    intro l
    induction l with
    | nil => intro st h; exact h
    | cons i r ih => intro st h; exact ih _ (h.shutI i)
  exact gcs_ok [] (this _ _ hS)
end Hud
end
section
namespace Hud
open Go
theorem T_lt {T : Tab} {i : Nat} {o : AObj} (e : T[i]? = some (some o)) : i < T.length := by
  rcases Nat.lt_or_ge i T.length with hh | hh
  · exact hh
  · rw [List.getElem?_eq_none hh] at e; simp at e
theorem heap_lt {w : World} {l : Nat} {o : Obj} (e : w.heap[l]? = some o) : l < w.heap.size := by
  rcases Nat.lt_or_ge l w.heap.size with hh | hh
  · exact hh
  · rw [Array.getElem?_eq_none hh] at e; simp at e
section
variable {h h' h2 : GH} {φ φ' φ2 : Nat → Value} {T T' X : Tab} {w w' w3 : World} {l : Nat}
theorem inv_put (hI : Inv h φ w T) (hl : ∀ i x, T[i]? = some (some x) → blk (φ i) ≠ some l) (hg : h l = none) (o : Obj) : Inv h φ (w.putObj l o) T := by
  refine ⟨fun b cs e => ?_, fun i x e => ?_, hI.dis⟩
  · obtain ⟨E, fr, hw⟩ := hI.gh b cs e
    refine ⟨E, fr, ?_⟩
    rw [World.putObj_heap_other (fun hb => by subst hb; rw [hg] at e; simp at e)]
    exact hw
  · have h1 := hI.obj i x e
    exact objAt_keep h1 (GLe.refl h) (Nat.le_refl _) (fun _ _ => rfl) (T_lt e) fun g hb => ⟨World.putObj_heap_other fun hgl => hl i x e (hgl ▸ hb), (objAt_blk h1 hb).2⟩
theorem evo_put (hE : Evo h φ T w h' φ' T' w') (o : Obj) : Evo h φ T (w.putObj l o) h' φ' T' (w'.putObj l o) := by
  refine ⟨hE.os, hE.tape, hE.output, by simpa using hE.size, fun b hb hn => ?_, hE.le, fun b cs e => ?_, hE.phi, fun i o b e hb => ?_, hE.len, hE.drawn⟩
  · rw [World.putObj_size] at hb
    by_cases hbl : b = l
    · subst hbl
      rw [World.putObj_heap_same hb, World.putObj_heap_same (Nat.lt_of_lt_of_le hb hE.size)]
    · rw [World.putObj_heap_other hbl, World.putObj_heap_other hbl]
      exact hE.frame b hb hn
  · rw [World.putObj_size]; exact hE.gfr b cs e
  · rw [World.putObj_size]; exact hE.org i o b e hb
theorem lp_at (hI : Inv h φ w T) {i : Nat} {r : Loop} {s : List (Nat × AV)} (hi : getT T i = some (.lp r s)) :
    ∃ l : Nat, φ i = .func (.yield l) #[] #[] ∧ w.heap[l]? = some (.loop r) ∧ h l = none ∧ (∀ i x y, (i, x) ∈ s → (i, y) ∈ s → x = y) ∧ ∀ p ∈ s, Rp h φ T.length p.2 (r.tmps.getD p.1 undef) := hI.obj i _ (getT_some hi)
theorem lp_off (hI : Inv h φ w T) {i : Nat} {r : Loop} {s : List (Nat × AV)} (hi : getT T i = some (.lp r s)) (hφ : φ i = .func (.yield l) #[] #[]) : ∀ j x, (T.set i none)[j]? = some (some x) → blk (φ j) ≠ some l := by
  intro j x e hb
  rcases get_set e with ⟨_, e'⟩ | ⟨hne, e'⟩
  · simp at e'
  · exact hne (hI.dis j i x _ l e' (getT_some hi) hb (by rw [hφ]; rfl))
theorem restore (hI : Inv h φ w T) {i : Nat} {r : Loop} {s : List (Nat × AV)} (hi : getT T i = some (.lp r s)) (hφ : φ i = .func (.yield l) #[] #[]) {o0 : Obj}
    (hE : Evo h φ (T.set i none) (w.putObj l o0) h2 φ2 X w3) (hX : Inv h2 φ2 w3 X) (r' : Loop) (hr : r'.tmps = r.tmps) :
    Evo h φ T w h2 φ2 (X.set i (some (.lp r' s))) (w3.putObj l (.loop r')) ∧ Inv h2 φ2 (w3.putObj l (.loop r')) (X.set i (some (.lp r' s))) := by
  obtain ⟨l', e1, e2, e3, e4, e5⟩ := lp_at hI hi
  rw [hφ] at e1
  injection e1 with e1 _ _
  injection e1 with e1
  subst e1
  have hlt : l < w.heap.size := heap_lt e2
  have hilt := getT_lt hi
  have hoff := lp_off hI hi hφ
  have hlen : T.length ≤ X.length := by have := hE.len; rwa [List.length_set] at this
  have hlt3 : l < w3.heap.size := by have := hE.size; rw [World.putObj_size] at this; omega
  have hφ2 : φ2 i = .func (.yield l) #[] #[] := by rw [hE.phi i (by rw [List.length_set]; exact hilt)]; exact hφ
  have up : ∀ j x b, (T.set i none)[j]? = some (some x) → blk (φ j) = some b → ∃ j o, T[j]? = some (some o) ∧ blk (φ j) = some b := by
    intro j x b e hb
    rcases get_set e with ⟨_, e'⟩ | ⟨_, e'⟩
    · simp at e'
    · exact ⟨j, x, e', hb⟩
  have notl : ∀ j o, X[j]? = some (some o) → blk (φ2 j) ≠ some l := by
    intro j o e hb
    rcases hE.org j o l e hb with h1 | ⟨j', o', h1, h2⟩
    · rw [World.putObj_size] at h1; omega
    · exact hoff j' o' h1 h2
  have hgh : h2 l = none := by
    cases hh : h2 l with
    | none => rfl
    | some cs =>
      rcases hE.gfr l cs hh with h1 | h1 | ⟨j, o, h1, h2⟩
      · rw [e3] at h1; simp at h1
      · rw [World.putObj_size] at h1; omega
      · exact absurd h2 (hoff j o h1)
  have hX' := inv_put hX notl hgh (.loop r')
  refine ⟨⟨hE.os, hE.tape, hE.output, by have := hE.size; simpa using this, fun b hb hn => ?_, hE.le, fun b cs e => ?_, fun j hj => hE.phi j (by rw [List.length_set]; exact hj), fun j o b e hb => ?_, by rw [List.length_set]; exact hlen, hE.drawn⟩, ⟨hX'.gh, fun j o e => ?_, fun j k oj ok b ej ek hbj hbk => ?_⟩⟩
  · have hbl : b ≠ l := fun hbl => hn i _ (getT_some hi) (by rw [hφ, hbl]; rfl)
    rw [World.putObj_heap_other hbl, hE.frame b (by rw [World.putObj_size]; exact hb) fun j o ej hbj => ?_, World.putObj_heap_other hbl]
    obtain ⟨j', o', h1, h2⟩ := up j o b ej hbj
    exact hn j' o' h1 h2
  · rcases hE.gfr b cs e with h1 | h1 | ⟨j, o, h1, h2⟩
    · exact .inl h1
    · rw [World.putObj_size] at h1; exact .inr (.inl h1)
    · exact .inr (.inr (up j o b h1 h2))
  · rcases get_set e with ⟨rfl, _⟩ | ⟨_, e'⟩
    · rw [hφ2] at hb
      exact .inr ⟨j, _, getT_some hi, by rw [hφ]; exact hb⟩
    · rcases hE.org j o b e' hb with h1 | ⟨j', o', h1, h2⟩
      · rw [World.putObj_size] at h1; exact .inl h1
      · exact .inr (up j' o' b h1 h2)
  · rw [List.length_set]
    rcases get_set e with ⟨rfl, e'⟩ | ⟨_, e'⟩
    · injection e' with e'
      subst e'
      refine ⟨l, hφ2, World.putObj_heap_same hlt3, hgh, e4, fun p hp => ?_⟩
      rw [hr]
      exact (e5 p hp).mono hE.le hlen fun j hj => hE.phi j (by rw [List.length_set]; exact hj)
    · exact hX'.obj j o e'
  · rcases get_set ej with ⟨rfl, _⟩ | ⟨_, ej'⟩ <;> rcases get_set ek with ⟨rfl, _⟩ | ⟨_, ek'⟩
    · rfl
    · rw [hφ2] at hbj
      simp only [blk, Option.some.injEq] at hbj
      subst hbj
      exact absurd hbk (notl k ok ek')
    · rw [hφ2] at hbk
      simp only [blk, Option.some.injEq] at hbk
      subst hbk
      exact absurd hbj (notl j oj ej')
    · exact hX.dis j k oj ok b ej' ek' hbj hbk
theorem mem_keep {d : List Nat} {q : Nat × AV} : ∀ {s : List (Nat × AV)}, q ∈ keepS d s → q ∈ s
  | [], h => by simp [keepS] at h
  | (i, x) :: s, h => by
    simp only [keepS] at h
    split at h
    · rcases List.mem_cons.1 h with h | h
      · simp [h]
      · simp [mem_keep h]
    · simp [mem_keep h]
theorem sok_of_mem {n : Nat} {s : List (Nat × AV)} {t : Array Value} (hs : ∀ p ∈ s, Rp h φ n p.2 (t.getD p.1 undef)) : SOk h φ n s ⟨t, []⟩ := by
  intro i
  rcases get_mem (l := s) (i := i) with e | e
  · rw [e]; simp [Rp]
  · exact hs _ e
theorem putAll_ok {n : Nat} : ∀ {ps : List Nat} {xs : List AV} {us : List Value} {s : List (Nat × AV)} {t : Array Value}, SOk h φ n s ⟨t, []⟩ → Once s → RpL h φ n xs us → xs.length = ps.length → (∀ p ∈ ps, p < t.size) →
    SOk h φ n (putAll s ps xs) ⟨(ps.zip us).foldl (fun t (p, u) => t.setIfInBounds p u) t, []⟩ ∧ Once (putAll s ps xs) ∧ ((ps.zip us).foldl (fun t (p, u) => t.setIfInBounds p u) t).size = t.size
  | [], [], us, s, t, hs, ho, hr, _, _ => by simpa [putAll] using ⟨hs, ho⟩
  | [], x :: xs, us, s, t, hs, ho, hr, hl, _ => by simp at hl
  | p :: ps, [], us, s, t, hs, ho, hr, hl, _ => by simp at hl
  | p :: ps, x :: xs, us, s, t, hs, ho, hr, hl, hp => by
    simp only [RpL] at hr
    obtain ⟨u, us', rfl, h1, h2⟩ := hr
    have hs' := sok_put (o := some p) hs h1 (fun j hj => by injection hj with hj; subst hj; exact hp p (by simp))
    have := putAll_ok (t := t.setIfInBounds p u) (s := putS s p x) hs' (once_put ho p x) h2 (by simpa using hl) (fun q hq => by rw [Array.size_setIfInBounds]; exact hp q (by simp [hq]))
    simpa only [putAll, List.zip_cons_cons, List.foldl_cons, Array.size_setIfInBounds] using this
end
end Hud
end
section
namespace Hud
open Go
def addU (L : List Nat) : List Nat → List Nat
  | [] => L
  | i :: r => if L.contains i then addU L r else addU (i :: L) r
def subU (L d : List Nat) : List Nat := L.filter fun i => !d.contains i
def useOps (ops : Array Oper) : List Oper → List Nat → List Nat → List Nat → List Nat × List Nat × List Nat
  | [], e, w, a => (e, w, a)
  | o :: os, e, w, a =>
    let g := match o.guard with | some (j, _) => (match (ops[j]?).bind (·.dst) with | some d => [d] | none => []) | none => []
    let rd := subU (g ++ o.op.operands.toList.flatMap opndT) w
    match o.dst with
    | some d => useOps ops os (addU e rd) (d :: w) (d :: a)
    | none => useOps ops os (addU e rd) w a
def atE : List (Nat × List Nat) → Nat → List Nat
  | [], _ => []
  | (i, x) :: r, j => if i = j then x else atE r j
def liveC (ex : List (Nat × List Nat)) (rt : List Nat) : Code → List Nat → List Nat
  | .region _ ops _, out => let u := useOps ops ops.toList [] [] []; addU u.1 (subU out u.2.1)
  | .seq a b, out => liveC ex rt a (liveC ex rt b out)
  | .cond c a b, out => addU (addU (opndT c) (liveC ex rt a out)) (liveC ex rt b out)
  | .block i a, out => liveC ((i, out) :: ex) rt a out
  | .loop a, _ => liveC ex rt a []
  | .exit i, _ => atE ex i
  | .ret, _ => rt
  | .scope a, out => liveC ex rt a out
  | .rangeFunc g ps a b, out =>
    let ex' := ex.map fun p => (p.1, ([] : List Nat))
    addU (addU (addU (opndT g) (subU (liveC ex' [] a (liveC ex' [] b [])) ps.toList)) out) (addU rt (ex.flatMap (·.2)))
  | _, out => out
def killH (d : List Nat) (h : HC) : HC := match d with | [] => h | d => .seq h (.kill d)
def killB (d : List Nat) (h : HC) : HC := match d with | [] => h | d => .seq (.kill d) h
def ownH (wr : List Nat) : List (Nat × Option Nat × Nat) → HC → HC
  | [], h => h
  | (j, c, k) :: r, h => ownH wr r (if wr.contains j && k != 1000 then .seq h (match k with | 0 => .shut (c.getD j) | k => .own j c k) else h)
def shutOf (H : List (Nat × Option Nat × Nat)) : Option Nat → Option Nat
  | none => none
  | some d => match H.find? fun x => x.1 == d && x.2.2 == 1000 with
    | some x => some (x.2.1.getD d)
    | none => none
def cutH (H : List (Nat × Option Nat × Nat)) : List HOper → List HOper → HC
  | acc, [] => .reg acc
  | acc, o :: os => match shutOf H o.dst with
    | some j => .seq (.seq (.reg (acc ++ [o])) (.shut j)) (cutH H [] os)
    | none => cutH H (acc ++ [o]) os
def compCode (P : Program) (N : Nat) (H : List (Nat × Option Nat × Nat)) : Code → List (Nat × List Nat) → List Nat → List Nat → Option HC
  | .skip, _, _, _ => some .skip
  | .region id ops dr, ex, rt, out =>
    let u := useOps ops ops.toList [] [] []
    let k := subU (addU u.2.2 (liveC ex rt (.region id ops dr) out)) out
    if dr then (if P.follows .mixedOrders then (compDraw P N ops).map fun d => ownH (subU u.2.2 k) H (killH k (.regd d)) else none)
    else (compOps P N ops ops.toList).map fun l => ownH (subU u.2.2 k) H (killH k (cutH H [] l))
  | .seq a b, ex, rt, out => match compCode P N H a ex rt (liveC ex rt b out), compCode P N H b ex rt out with
    | some x, some y => some (.seq x y)
    | _, _ => none
  | .cond c a b, ex, rt, out =>
    let la := liveC ex rt a out
    let lb := liveC ex rt b out
    let all := addU (addU (opndT c) la) lb
    match compCode P N H a ex rt out, compCode P N H b ex rt out with
    | some x, some y => some (.cond c (killB (subU all la) x) (killB (subU all lb) y))
    | _, _ => none
  | .block i a, ex, rt, out => (compCode P N H a ((i, out) :: ex) rt out).map fun h => ownH [1000000 + i] H (.block i h)
  | .loop a, ex, rt, _ => (compCode P N H a ex rt (liveC ex rt a [])).map (.loop [])
  | .exit i, _, _, _ => some (.exit i)
  | .ret, _, _, _ => some .ret
  | .scope a, ex, rt, out => compCode P N H a ex rt out
  | .label _, _, _, _ => some .skip
  | .rangeFunc g ps a b, ex, _, _ =>
    let ex' := ex.map fun p => (p.1, ([] : List Nat))
    match compCode P N H a ex' [] (liveC ex' [] b []), compCode P N H b ex' [] [] with
    | some x, some y => if ps.toList.all (· < N) then some (.rng g ps.toList (subU (liveC ex' [] a (liveC ex' [] b [])) ps.toList) x y) else none
    | _, _ => none
  | _, _, _, _ => none
structure HFun where
  nt : Nat
  res : List (Nat × Option (Option Nat))
  code : HC
  deriving Inhabited
def resT (P : Program) : List ResultVar → Option (List (Nat × Option (Option Nat)))
  | [] => some []
  | .tmp t :: r => (resT P r).map ((t, none) :: ·)
  | .cell a t :: r => match aggT P t with
    | some n => (resT P r).map ((a, some n) :: ·)
    | none => none
def compFunH (P : Program) (f : FuncId) (H : List (Nat × Option Nat × Nat)) : Option HFun :=
  match P.funcs[f]? with
  | none => none
  | some fn => if fn.name == "runtime.NumGoroutine" then none else match fn.body, resT P fn.results.toList with
    | some c, some rs => let rt := rs.map (·.1)
      (compCode P fn.ntmps H c [] rt rt).map fun h => ⟨fn.ntmps, rs, killB (subU (List.range (fn.params.size + fn.nfree)) (liveC [] rt c rt)) h⟩
    | _, _ => none
section
variable {P : Program} {G : Nat → Option (List AV)} {N : Nat} {H : List (Nat × Option Nat × Nat)} {h0 : GH} {φ0 : Nat → Value} {T0 : Tab} {w0 : World} {a : Act} {w : World}
def exQ (Q : Ex → St → Prop) : Exit → St → Prop
  | .normal, s => Q .normal s
  | .exit i, s => Q (.exit i) s
  | .ret, s => Q .ret s
  | _, _ => False
theorem least {p : Nat → Prop} (h : ∃ n, p n) : ∃ n, p n ∧ ∀ m, m < n → ¬ p m := by
  obtain ⟨n, hn⟩ := h
  induction n using Nat.strongRecOn with
  | _ n ih =>
    by_cases hx : ∃ m, m < n ∧ p m
    · obtain ⟨m, hm, hp⟩ := hx; exact ih m hm hp
    · exact ⟨n, hn, fun m hm hp => hx ⟨m, hm, hp⟩⟩
theorem SInv.kill {st : St} (hS : SInv P G N h0 φ0 T0 w0 st a w) (d : List Nat) : SInv P G N h0 φ0 T0 w0 ⟨st.r, dropS d st.s, st.T⟩ a w := by
  obtain ⟨hr, honce, ⟨h, φ, hG, hE, hI, hSl⟩, hsz, hdf⟩ := hS
  have ho : Once (dropS d st.s) := fun i x y hx hy => honce i x y (mem_drop hx) (mem_drop hy)
  refine ⟨hr, ho, ⟨h, φ, hG, hE, hI, fun i => ?_⟩, hsz, hdf⟩
  show Rp h φ st.T.length (getS (dropS d st.s) i) _
  rcases get_mem (l := dropS d st.s) (i := i) with e | e
  · rw [e]; simp [Rp]
  · rw [← once_get honce (mem_drop e)]; exact hSl i
theorem killH_any {d : List Nat} {c : HC} {Q : Ex → St → Prop} {st : St} (h : codeW P G (killH d c) Q st) : ∃ R : Ex → St → Prop, codeW P G c R st ∧ ∀ s, R .normal s → Q .normal s ∨ Q .normal ⟨s.r, dropS d s.s, s.T⟩ := by
  cases d with
  | nil => exact ⟨Q, h, fun s hs => .inl hs⟩
  | cons i d => exact ⟨_, h, fun s hs => .inr hs⟩
theorem cut_sound {ro : Option Nat} {ops : Array Oper} {Q : Exit → Act → World → Prop} {K : Ex → St → Prop} : ∀ {os acc : List HOper} {l1 l2 : List Oper} {st : St} {a : Act} {w : World}, compOps P N ops l1 = some acc → compOps P N ops l2 = some os → codeW P G (cutH H acc os) K st → SInv P G N h0 φ0 T0 w0 st a w →
    (∀ st' a' w', K .normal st' → SInv P G N h0 φ0 T0 w0 st' a' w' → Q .normal a' w') → wpListIn (fe ro) 0 P ops Q (l1 ++ l2) a w
  | [], acc, l1, [], st, a, w, h1, h2, hw, hS, hn => by rw [List.append_nil]; exact ops_sound h1 hw hS hn
  | [], acc, l1, o :: l2, st, a, w, h1, h2, hw, hS, hn => by obtain ⟨x, y, _, _, e⟩ := compOps_cons h2; simp at e
  | o :: os, acc, l1, [], st, a, w, h1, h2, hw, hS, hn => by simp [compOps] at h2
  | o :: os, acc, l1, o' :: l2, st, a, w, h1, h2, hw, hS, hn => by
    obtain ⟨x, y, e1, e2, e⟩ := compOps_cons h2
    injection e with ea eb
    subst ea; subst eb
    have h3 : compOps P N ops (l1 ++ [o']) = some (acc ++ [o]) := compOps_app h1 (by simp [compOps, e1])
    have h4 : l1 ++ o' :: l2 = (l1 ++ [o']) ++ l2 := by simp
    rw [h4]
    simp only [cutH] at hw
    split at hw
    · rename_i j hj
      simp only [codeW] at hw
      exact ops_sound2 h3 hw hS fun st' a' w' hk hS' => by
        have := cut_sound (ro := ro) (l1 := []) (acc := []) rfl e2 hk (hS'.shut j) hn
        simpa using this
    · exact cut_sound (ro := ro) h3 e2 hw hS hn
theorem killH_regd {d : List Nat} {l : HD} {Q : Ex → St → Prop} {st : St} (h : codeW P G (killH d (.regd l)) Q st) :
    ∃ K : St → Prop, hdW P G l st K ∧ ∀ s, K s → Q .normal s ∨ Q .normal ⟨s.r, dropS d s.s, s.T⟩ := by
  cases d with
  | nil => exact ⟨Q .normal, h, fun s hs => .inl hs⟩
  | cons i d => exact ⟨_, h, fun s hs => .inr hs⟩
theorem killB_w {d : List Nat} {c : HC} {Q : Ex → St → Prop} {st : St} (h : codeW P G (killB d c) Q st) : codeW P G c Q st ∨ codeW P G c Q ⟨st.r, dropS d st.s, st.T⟩ := by
  cases d with
  | nil => exact .inl h
  | cons i d => exact .inr h
theorem SInv.own {st : St} (hS : SInv P G N h0 φ0 T0 w0 st a w) (j : Nat) (c : Option Nat) (k : Nat) : SInv P G N h0 φ0 T0 w0 (ownSt st j c k) a w := by
  have key : ∀ {h : GH} {φ : Nat → Value}, Inv h φ w st.T → Evo h0 φ0 T0 w0 h φ st.T w →
      Inv h (upd φ st.T.length (.slice none 0 0)) w (st.T ++ [some (.arr k [])]) ∧ Evo h0 φ0 T0 w0 h (upd φ st.T.length (.slice none 0 0)) (st.T ++ [some (.arr k [])]) w := by
    intro h φ hI hE
    have := inv_new (w' := w) (o := .arr k []) (v := .slice none 0 0) hI rfl rfl rfl (Nat.le_refl _) (fun _ _ => rfl) (fun g hg => by simp [blk] at hg) ⟨by simp, .inl ⟨none, upd_self, rfl⟩⟩
    exact ⟨this.1, hE.trans this.2⟩
  cases c with
  | none =>
    simp only [ownSt]
    split
    · rename_i hj
      obtain ⟨hr, honce, ⟨h, φ, hG, hE, hI, hSl⟩, hsz, hdf⟩ := hS
      obtain ⟨k1, k2⟩ := key hI hE
      have hjv := hSl j
      rw [hj] at hjv
      simp only [Rp] at hjv
      refine ⟨hr, once_put honce _ _, ⟨h, _, hG, k2, k1, fun i => ?_⟩, hsz, hdf⟩
      rw [getS_put]
      split
      · rename_i e
        subst e
        simp only [Rp]
        exact ⟨by simp, by rw [hjv, upd_self], none, 0, 0, hjv⟩
      · exact (hSl i).mono (GLe.refl h) (by simp) (fun i hi => upd_lt hi)
    · exact hS
  | some c =>
    simp only [ownSt]
    split
    · rename_i i o hj
      split
      · rename_i cs hg
        split
        · rename_i hc
          obtain ⟨hr, honce, ⟨h, φ, hG, hE, hI, hSl⟩, hsz, hdf⟩ := hS
          obtain ⟨k1, k2⟩ := key hI hE
          have hgt := getT_some hg
          have hlt : i < st.T.length := by
            rcases Nat.lt_or_ge i st.T.length with hh | hh
            · exact hh
            · rw [List.getElem?_eq_none hh] at hgt; simp at hgt
          have hgt' : (st.T ++ [some (.arr k [])])[i]? = some (some (.box cs)) := by rw [List.getElem?_append_left hlt]; exact hgt
          obtain ⟨g, us, E, e1, e2, e3, e4⟩ := k1.obj i _ hgt'
          have hset := inv_set (w' := w) (o' := .box (cs.set c (.own st.T.length))) k1 rfl rfl rfl (Nat.le_refl _) hgt' (fun _ _ _ => rfl) (by
            refine ⟨g, us, E, e1, e2, e3, ?_⟩
            obtain ⟨u, hu1, hu2⟩ := e4.get hc
            simp only [Rp] at hu2
            have := e4.set (m := c) (c := .own st.T.length) (u := u) (by
              simp only [Rp]
              exact ⟨by simp, by rw [hu2, upd_self], none, 0, 0, hu2⟩)
            rwa [show us.toList.set c u = us.toList from by
              apply List.ext_getElem?
              intro m
              rw [List.getElem?_set]
              split
              · rename_i e; subst e; split
                · exact hu1.symm
                · rename_i hh; rw [List.getElem?_eq_none (by omega)]
              · rfl] at this)
          refine ⟨hr, honce, ⟨h, _, hG, k2.trans hset.2, hset.1, fun i => ?_⟩, hsz, hdf⟩
          exact (hSl i).mono (GLe.refl h) (by simp) (fun i hi => upd_lt hi)
        · exact hS
      · exact hS
    · exact hS
theorem ownH_w {wr : List Nat} : ∀ {H : List (Nat × Option Nat × Nat)} {c : HC} {Q : Ex → St → Prop} {st : St}, codeW P G (ownH wr H c) Q st → ∃ R : Ex → St → Prop, codeW P G c R st ∧
    (∀ s, R .normal s → ∀ (a : Act) (w : World), SInv P G N h0 φ0 T0 w0 s a w → ∃ s', Q .normal s' ∧ SInv P G N h0 φ0 T0 w0 s' a w) ∧ (∀ i s, R (.exit i) s → Q (.exit i) s) ∧ (∀ s, R .ret s → Q .ret s)
  | [], c, Q, st, h => ⟨Q, h, fun s hs a w hS => ⟨s, hs, hS⟩, fun _ _ h => h, fun _ h => h⟩
  | (j, d, k) :: r, c, Q, st, h => by
    simp only [ownH] at h
    obtain ⟨R, h1, h2, h3, h4⟩ := ownH_w h
    split at h1
    · cases k with
      | zero =>
        simp only [codeW] at h1
        exact ⟨_, h1, fun s hs a w hS => h2 _ hs a w (hS.shut _), fun i s hs => h3 i s hs, fun s hs => h4 s hs⟩
      | succ k =>
        simp only [codeW] at h1
        exact ⟨_, h1, fun s hs a w hS => h2 _ hs a w (hS.own j d (k + 1)), fun i s hs => h3 i s hs, fun s hs => h4 s hs⟩
    · exact ⟨R, h1, h2, h3, h4⟩
theorem stepR_scope' {b : Frame} {x : Code} {k : List Item} {cs : List Frame} : step P (lone (b.atR a (.code (.scope x) :: k)) cs w) = .next (lone (b.atR a (.code x :: .inScope x :: k)) cs w) :=
  step_lone_go (by simp [stepG, stepG.exec, Frame.atR])
theorem stepR_inScope' {b : Frame} {x : Code} {k : List Item} {cs : List Frame} : step P (lone (b.atR a (.inScope x :: k)) cs w) = .next (lone (b.atR a k) cs w) :=
  step_lone_go (by simp [stepG, stepG.exec, Frame.atR])
theorem wpIn_scope' {F : Fence} {n : Nat} {c : Code} {Q : Exit → Act → World → Prop} (h : c.wpIn F n P Q a w) (hg : ∀ l a w, ¬ Q (.goto l) a w) : (Code.scope c).wpIn F n P Q a w := by
  intro b k cs hro hb hr
  have h0 : (lone (b.atR a (.code (.scope c) :: k)) cs w).fenced P F := fenced_calm hb hr rfl
  obtain ⟨e, a₁, w₁, hq, harr⟩ := h b (.inScope c :: k) cs hro hb hr
  cases e with
  | normal => exact ⟨.normal, a₁, w₁, hq, .head h0 stepR_scope' (StepsIn.trans harr (.one (fenced_calm hb hr rfl) stepR_inScope'))⟩
  | exit id =>
    have hx : exitTo id (.inScope c :: k) = exitTo id k := by simp [exitTo]
    exact ⟨.exit id, a₁, w₁, hq, fun k' hk => .head h0 stepR_scope' (harr.1 k' (by rw [hx]; exact hk)),
      fun hr' hk => let ⟨k₁, h1, h2⟩ := harr.2 hr' (by rw [hx]; exact hk); ⟨k₁, h1, .head h0 stepR_scope' h2⟩⟩
  | goto l => exact absurd hq (hg l a₁ w₁)
  | ret => exact ⟨_, a₁, w₁, hq, .of_steps (.one h0 stepR_scope') harr⟩
  | panic ch => exact ⟨_, a₁, w₁, hq, .of_steps (.one h0 stepR_scope') harr⟩
  | outgrown => exact ⟨_, a₁, w₁, hq, .of_steps (b := b) (k := k) (cs := cs) (e := .outgrown) (.one h0 stepR_scope') harr⟩
def RoOk (ro : Option Nat) (φ0 : Nat → Value) (T0 : Tab) (w0 : World) : Prop := ∀ l, ro = some l → (∃ r, w0.heap[l]? = some (.loop r)) ∧ ∀ i o, T0[i]? = some (some o) → blk (φ0 i) ≠ some l
def SoundC (P : Program) (G : Nat → Option (List AV)) (N : Nat) (H : List (Nat × Option Nat × Nat)) (c : Code) : Prop :=
  ∀ {ro : Option Nat} {h0 : GH} {φ0 : Nat → Value} {T0 : Tab} {w0 : World} {hc : HC} {Q : Ex → St → Prop} {st : St} {a : Act} {w : World} {ex : List (Nat × List Nat)} {rt out : List Nat}, RoOk ro φ0 T0 w0 → compCode P N H c ex rt out = some hc → codeW P G hc Q st → SInv P G N h0 φ0 T0 w0 st a w →
    c.wpIn (fe ro) 0 P (fun e a' w' => ∃ st', exQ Q e st' ∧ SInv P G N h0 φ0 T0 w0 st' a' w') a w
theorem round_sound {ca cb : Code} (iha : SoundC P G N H ca) (ihb : SoundC P G N H cb) {ha hb : HC} {ps : List Nat} {exs : List (Nat × List Nat)} {ra oa rb ob : List Nat} (ea : compCode P N H ca exs ra oa = some ha) (eb : compCode P N H cb exs rb ob = some hb)
    (hps : ∀ p ∈ ps, p < N) {r : Loop} (r1 : r.state = .ready) (r2 : r.pending = none) (r3 : r.params.toList = ps) (r4 : r.assign = ca) (r5 : r.body = cb) (r6 : N ≤ r.tmps.size)
    (i : Nat) (s : List (Nat × AV)) (T : Tab) (args : List AV) (post : AV → Tab → Prop) (hi : getT T i = some (.lp r s)) (hl : args.length = ps.length)
    (hw : codeW P G ha (fun e s1 => match e with | .normal => codeW P G hb (roundQ i r s T.length post) s1 | _ => False) ⟨T.length, putAll s ps args, T.set i none⟩) : YieldOk P G i args T post := by
  intro h φ W vals l hG hI hA hφ
  obtain ⟨l', e1, e2, e3, e4, e5⟩ := lp_at hI hi
  rw [hφ] at e1
  injection e1 with e1 _ _
  injection e1 with e1
  subst e1
  have hlt := heap_lt e2
  have hAl := hA.length
  have hpsz : r.params.size = ps.length := by rw [← r3, Array.length_toList]
  have hoff := lp_off hI hi hφ
  have hilt := getT_lt hi
  refine ⟨_, _, _, _, run_yield e2 (by rw [hpsz, ← hl, hAl, Array.length_toList]), ?_⟩
  obtain ⟨p1, p2, p3⟩ := putAll_ok (h := h) (φ := φ) (n := T.length) (ps := ps) (xs := args) (us := vals.toList) (s := s) (t := r.tmps) (sok_of_mem e5) e4 hA hl (fun p hp => Nat.lt_of_lt_of_le (hps p hp) r6)
  have hfold : (r.params.zip vals).foldl (fun tmps (x : Tmp × Value) => tmps.setIfInBounds x.1 x.2) r.tmps = (ps.zip vals.toList).foldl (fun t (p, u) => t.setIfInBounds p u) r.tmps := by
    rw [← Array.foldl_toList, Array.toList_zip, r3]
  rw [hfold]
  revert p1 p2 p3
  generalize (ps.zip vals.toList).foldl (fun t (p, u) => t.setIfInBounds p u) r.tmps = tm
  intro p1 p2 p3
  obtain ⟨d1, d2⟩ := inv_drop hI i
  have hS0 : SInv P G N h φ (T.set i none) W ⟨T.length, putAll s ps args, T.set i none⟩ ⟨tm, []⟩ W :=
    ⟨by simp, p2, ⟨h, φ, hG, Evo.refl, d1, by simpa using p1⟩, by rw [p3]; exact r6, by simp [DfOk]⟩
  have hro : RoOk (some l) φ (T.set i none) W := by
    intro l2 h2
    injection h2 with h2
    subst h2
    exact ⟨⟨r, e2⟩, hoff⟩
  rw [r4, r5]
  refine roundIn_of_wpIn (F := Fence.wide) trivial (wpIn_mono (iha (ro := some l) hro ea hw hS0) ?_)
  rintro e a1 w1 ⟨st1, hq, hS1⟩
  cases e with
  | normal =>
    simp only [exQ] at hq
    have hl1 : w1.heap[l]? = some (.loop r) := by
      obtain ⟨_, _, ⟨_, _, _, hE, _, _⟩, _, _⟩ := hS1
      rw [hE.frame l hlt hoff]
      exact e2
    refine ⟨_, run_beginRound hl1 r1, ?_⟩
    let rb : Loop := { r with state := .busy }
    have hS2 : SInv P G N h φ (T.set i none) (W.putObj l (.loop rb)) st1 a1 (w1.putObj l (.loop rb)) := by
      obtain ⟨q1, q2, ⟨h1, φ1, q3, q4, q5, q6⟩, q7, q8⟩ := hS1
      have notl : ∀ j o, st1.T[j]? = some (some o) → blk (φ1 j) ≠ some l := by
        intro j o e hb
        rcases q4.org j o l e hb with h1 | ⟨j', o', h1, h2⟩
        · omega
        · exact hoff j' o' h1 h2
      have hgh : h1 l = none := by
        cases hh : h1 l with
        | none => rfl
        | some cs =>
          rcases q4.gfr l cs hh with h1 | h1 | ⟨j, o, h1, h2⟩
          · rw [e3] at h1; simp at h1
          · omega
          · exact absurd h2 (hoff j o h1)
      refine ⟨q1, q2, ⟨h1, φ1, q3, evo_put q4 _, inv_put q5 notl hgh _, q6⟩, q7, q8.1, fun d hd => ?_⟩
      obtain ⟨D, f1, f2, f3⟩ := q8.2 d hd
      refine ⟨D, f1, by simpa using f2, ?_⟩
      rw [World.putObj_heap_other (fun hD => by subst hD; rw [hl1] at f3; simp at f3)]
      exact f3
    have hro2 : RoOk (some l) φ (T.set i none) (W.putObj l (.loop rb)) := by
      intro l2 h2
      injection h2 with h2
      subst h2
      exact ⟨⟨rb, World.putObj_heap_same hlt⟩, hoff⟩
    refine wpIn_mono (ihb (ro := some l) hro2 eb hq hS2) ?_
    rintro e a3 w3 ⟨st3, hq3, hS3⟩
    have hl3 : w3.heap[l]? = some (.loop rb) := by
      obtain ⟨_, _, ⟨_, _, _, hE, _, _⟩, _, _⟩ := hS3
      rw [hE.frame l (by rw [World.putObj_size]; exact hlt) hoff]
      exact World.putObj_heap_same hlt
    have hX : ∀ gc : Bool, ∃ h2 φ2, Evo h φ (T.set i none) (W.putObj l (.loop rb)) h2 φ2 (if gc then (gcs [] ⟨T.length, [], st3.T⟩).T else st3.T) w3 ∧ Inv h2 φ2 w3 (if gc then (gcs [] ⟨T.length, [], st3.T⟩).T else st3.T) := by
      intro gc
      obtain ⟨q1, q2, ⟨h1, φ1, q3, q4, q5, q6⟩, q7, q8⟩ := hS3
      cases gc with
      | false => exact ⟨h1, φ1, q4, q5⟩
      | true =>
        have hS4 : SInv P G 0 h φ (T.set i none) (W.putObj l (.loop rb)) ⟨T.length, [], st3.T⟩ ⟨#[], []⟩ w3 := ⟨by simp, fun _ _ _ hx => by simp at hx, ⟨h1, φ1, q3, q4, q5, fun _ => by simp [getS, Rp]⟩, Nat.zero_le _, by simp [DfOk]⟩
        obtain ⟨_, _, ⟨h4, φ4, _, g1, g2, _⟩, _, _⟩ := gcs_ok (st := ⟨T.length, [], st3.T⟩) [] hS4
        exact ⟨h4, φ4, g1, g2⟩
    cases e with
    | normal =>
      simp only [exQ, roundQ] at hq3
      obtain ⟨gc, hq3⟩ := hq3
      obtain ⟨h2, φ2, x1, x2⟩ := hX gc
      have hrun := run_endRound (P := P) none hl3
      have hr' : ({ rb with state := if (none : Option Code).isNone then .ready else .done, pending := none } : Loop) = r := by
        cases r; simp_all [rb]
      rw [hr'] at hrun
      refine ⟨_, _, hrun, _, rfl, _, _, h2, φ2, hq3, ?_⟩
      obtain ⟨y1, y2⟩ := restore hI hi hφ x1 x2 r rfl
      exact ⟨y1, y2, by simp [Rp]⟩
    | exit id =>
      simp only [exQ, roundQ] at hq3
      obtain ⟨gc, hq3⟩ := hq3
      obtain ⟨h2, φ2, x1, x2⟩ := hX gc
      have hrun := run_endRound (P := P) (some (.exit id)) hl3
      refine ⟨_, _, hrun, _, rfl, _, _, h2, φ2, hq3, ?_⟩
      obtain ⟨y1, y2⟩ := restore hI hi hφ x1 x2 (left r (.exit id)) rfl
      exact ⟨y1, y2, by simp [Rp]⟩
    | ret =>
      simp only [exQ, roundQ] at hq3
      obtain ⟨gc, hq3⟩ := hq3
      obtain ⟨h2, φ2, x1, x2⟩ := hX gc
      have hrun := run_endRound (P := P) (some .ret) hl3
      refine ⟨_, _, hrun, _, rfl, _, _, h2, φ2, hq3, ?_⟩
      obtain ⟨y1, y2⟩ := restore hI hi hφ x1 x2 (left r .ret) rfl
      exact ⟨y1, y2, by simp [Rp]⟩
    | _ => exact hq3.elim
  | exit id => exact hq.elim
  | goto id => exact hq.elim
  | ret => exact hq.elim
  | panic id => exact hq.elim
  | outgrown => exact hq.elim
theorem gobody_enter {f : FuncId} (hb : GoBody P f) (vals : Array Value) (w : World) : (callFunc f vals).run P w = .ok (.enter f vals) w := by
  obtain ⟨fn, c, h1, h2, h3⟩ := hb
  simp [callFunc, h1, h3, h2]
theorem range_sound {ca cb : Code} (iha : SoundC P G N H ca) (ihb : SoundC P G N H cb) {g : Operand} {params : Array Tmp} : SoundC P G N H (.rangeFunc g params ca cb) := by
  intro ro h0 φ0 T0 w0 hc Q st a w exs rt out hroo e hw hS
  simp only [compCode] at e
  split at e
  · rename_i ha hb ea eb
    split at e
    · rename_i hall
      injection e with e
      subst e
      simp only [codeW] at hw
      have hps : ∀ p ∈ params.toList, p < N := fun p hp => by simpa using List.all_eq_true.1 hall p hp
      obtain ⟨hr, honce, ⟨h, φ, hG, hE, hI, hSl⟩, hsz, hdf⟩ := hS
      refine wpIn_rangeFunc ?_
      intro fn _
      rw [fe_round]
      have hent : ∃ (l : Nat) (mark : List Deferred) (w1 : World) (df : Nat), (Instr.enterLoop fn a.tmps params ca cb ro).run P w = .ok (l, mark) w1 ∧ w.heap.size ≤ l ∧ w1.os = w.os ∧ w1.tape = w.tape ∧ w1.output = w.output ∧ w1.drawn = w.drawn ∧ w.heap.size ≤ w1.heap.size ∧
          (∀ b, b < w.heap.size → w1.heap[b]? = w.heap[b]?) ∧ w1.heap[l]? = some (.loop { state := .ready, pending := none, fn, tmps := a.tmps, params, assign := ca, body := cb, defers := df }) ∧
          (mark = [] ∨ ∃ D, mark = [{ target := .collected D, args := #[] }] ∧ w.heap.size ≤ D ∧ w1.heap[D]? = some (.deferred (some []))) := by
        cases ro with
        | none =>
          refine ⟨_, _, _, w.heap.size, run_enterLoop_outer fn a.tmps params ca cb, by omega, rfl, rfl, rfl, rfl, by simp only [World.size_alloc]; omega, fun b hb => ?_, ?_, .inr ⟨_, rfl, Nat.le_refl _, ?_⟩⟩
          · rw [heap_alloc_lt _ _ b (by simp; omega), heap_alloc_lt _ _ b hb]
          · have := World.alloc_heap_new (w.alloc (.deferred (some []))) (.loop { state := .ready, pending := none, fn, tmps := a.tmps, params, assign := ca, body := cb, defers := w.heap.size }); rwa [World.size_alloc] at this
          · rw [heap_alloc_lt _ _ _ (by simp)]; exact World.alloc_heap_new w _
        | some l0 =>
          obtain ⟨⟨r0, e0⟩, hoff0⟩ := hroo l0 rfl
          have hl0 : w.heap[l0]? = some (.loop r0) := by
            rw [hE.frame l0 (heap_lt e0) hoff0]; exact e0
          refine ⟨w.heap.size, [], w.alloc (.loop { state := .ready, pending := none, fn, tmps := a.tmps, params, assign := ca, body := cb, defers := r0.defers }), r0.defers, ?_, Nat.le_refl _, rfl, rfl, rfl, rfl, by simp, fun b hb => heap_alloc_lt _ _ b hb, World.alloc_heap_new w _, .inl rfl⟩
          unfold Instr.enterLoop
          simp only [Sem.run_bind, run_getLoop hl0, Result.andThen_ok, Sem.run_pure, run_newObj_alloc]
      obtain ⟨l, mark, w1, df, n1, n2, n3, n4, n5, n6, n7, n8, n9, n10⟩ := hent
      revert n1 n9
      generalize hrec : ({ state := .ready, pending := none, fn, tmps := a.tmps, params, assign := ca, body := cb, defers := df } : Loop) = r
      intro n1 n9
      have r1 : r.state = .ready := by rw [← hrec]
      have r2 : r.pending = none := by rw [← hrec]
      have r3 : r.params = params := by rw [← hrec]
      have r4 : r.assign = ca := by rw [← hrec]
      have r5 : r.body = cb := by rw [← hrec]
      have r6 : r.tmps = a.tmps := by rw [← hrec]
      have hw := hw r r1 r2 (by rw [r3, Array.length_toList]) (fun i s T args post hi hl hcw => round_sound iha ihb ea eb hps r1 r2 (by rw [r3]) r4 r5 (by rw [r6]; exact hsz) i s T args post hi hl hcw)
      split at hw
      · rename_i f caps hev
        obtain ⟨hgb, hw⟩ := hw
        have hf := ev_ok hG hSl g
        rw [hev] at hf
        simp only [Rp] at hf
        obtain ⟨us, hu, hcs⟩ := hf
        have hk : ∀ q ∈ keepS (subU (liveC (exs.map fun p => (p.1, ([] : List Nat))) [] ca (liveC (exs.map fun p => (p.1, ([] : List Nat))) [] cb [])) params.toList) st.s, q ∈ st.s := fun q hq => mem_keep hq
        revert hk hw
        generalize keepS (subU (liveC (exs.map fun p => (p.1, ([] : List Nat))) [] ca (liveC (exs.map fun p => (p.1, ([] : List Nat))) [] cb [])) params.toList) st.s = s0
        intro hw hk
        obtain ⟨i1, i2⟩ := inv_new (w' := w1) (o := AObj.lp r s0) (v := Value.func (.yield l) #[] #[]) hI n3 n4 n5 n7 n8 (fun g' hg' => by simp only [blk, Option.some.injEq] at hg'; omega)
          ⟨l, upd_self, n9, by
            cases hh : h l with
            | none => rfl
            | some cs => have := ghost_lt hI hh; omega, fun j x y hx hy => honce j x y (hk _ hx) (hk _ hy), fun p hp => by
            rw [r6, ← once_get honce (show (p.1, p.2) ∈ st.s from hk p hp)]
            exact (hSl p.1).mono (GLe.refl h) (by omega) fun i hi => upd_lt hi⟩ (by rw [n6]; exact Nat.le_refl _)
        have hargs : RpL h (upd φ st.T.length (Value.func (.yield l) #[] #[])) (st.T ++ [some (AObj.lp r s0)]).length (.yl st.T.length :: caps) (#[Value.func (.yield l) #[] #[]] ++ us).toList := by
          simp only [Array.toList_append, List.cons_append, List.nil_append, RpL]
          refine ⟨_, _, rfl, ?_, hcs.mono (GLe.refl h) (by simp) fun i hi => upd_lt hi⟩
          simp only [Rp]
          exact ⟨by simp, upd_self.symm, l, rfl⟩
        refine ⟨l, mark, w1, { target := .fn (.func f) us, args := #[.func (.yield l) #[] #[]] }, w1, f, #[.func (.yield l) #[] #[]] ++ us, w1, n1, ?_, fun f' _ => fe_fn ro f', ?_, fun hh => by rw [fe_depth] at hh; simp at hh, ?_⟩
        · simp only [resolve, hu]
          simp [go_sem]
        · simp only [invoke]
          exact gobody_enter hgb _ _
        · rcases callW_ok hw hG i1 hargs with ⟨_, hcall⟩ | ⟨v, w', e', _⟩
          rotate_left
          · rw [gobody_enter hgb] at e'
            simp at e'
          refine (callsIn_fe hcall).mono ?_
          rintro e w3 ⟨v, rfl, rr, T2, h2, φ2, hK, hE2, hI2, _⟩
          simp only [rngEnd] at hK
          split at hK
          · rename_i rec s' hT2
            obtain ⟨hnb, hK⟩ := hK
            obtain ⟨l', e1, e2, e3, e4, e5⟩ := lp_at hI2 hT2
            have hφl : φ2 st.T.length = .func (.yield l) #[] #[] := by rw [hE2.phi _ (by simp), upd_self]
            rw [hφl] at e1
            injection e1 with e1 _ _
            injection e1 with e1
            subst e1
            have hrun := run_endLoop (P := P) e2 hnb
            have hset := inv_set (w' := w3.putObj l (.loop { rec with state := .exhausted })) (o' := .lp { rec with state := .exhausted } s') hI2 rfl rfl rfl (by simp) (getT_some hT2)
              (fun b _ hne => World.putObj_heap_other fun hb => hne (by rw [hφl, hb]; rfl)) ⟨l, hφl, World.putObj_heap_same (heap_lt e2), e3, e4, e5⟩
            have hdrop := inv_drop hset.1 st.T.length
            rw [List.set_set] at hdrop
            have hEE := ((hE.trans i2).trans hE2).trans (hset.2.trans hdrop.2)
            have hdf4 : DfOk w0 { a with defers := mark ++ a.defers } (w3.putObj l (.loop { rec with state := .exhausted })) := by
              have hdf1 : DfOk w0 a w1 := by
                refine ⟨hdf.1, fun d hd => ?_⟩
                obtain ⟨D, f1, f2, f3⟩ := hdf.2 d hd
                exact ⟨D, f1, f2, by rw [n8 D (heap_lt f3)]; exact f3⟩
              have hdf2 : DfOk w0 { a with defers := mark ++ a.defers } w1 := by
                rcases n10 with rfl | ⟨D, rfl, g1, g2⟩
                · exact hdf1
                · refine ⟨?_, fun d hd => ?_⟩
                  · rw [List.singleton_append, List.pairwise_cons]
                    refine ⟨fun d hd => ?_, hdf.1⟩
                    obtain ⟨D', f1, f2, f3⟩ := hdf.2 d hd
                    rw [f1]
                    intro hh
                    injection hh with hh
                    subst hh
                    have := heap_lt f3
                    omega
                  · rcases List.mem_append.1 hd with hd | hd
                    · simp only [List.mem_singleton] at hd
                      subst hd
                      exact ⟨D, rfl, by have := hE.size; omega, g2⟩
                    · exact hdf1.2 d hd
              exact ((hdf2.keep i1 hE2).keep hI2 hset.2)
            have hSf : SInv P G N h0 φ0 T0 w0 ⟨st.r, st.s, T2.set st.T.length none⟩ { a with defers := mark ++ a.defers } (w3.putObj l (.loop { rec with state := .exhausted })) := by
              refine ⟨hr, honce, ⟨h2, φ2, hG.mono hE2.le, hEE, hdrop.1, fun i => ?_⟩, hsz, hdf4⟩
              have hl2 := hE2.len
              exact (hSl i).mono hE2.le (by rw [List.length_set]; simp at hl2; omega) fun j hj => by
                rw [hE2.phi j (by simp; omega), upd_lt hj]
            revert hrun hSf
            generalize w3.putObj l (.loop { rec with state := .exhausted }) = w4
            intro hrun hSf
            refine ⟨rec.pending, _, hrun, ?_⟩
            split at hK
            · rename_i hp
              rw [hp]
              exact ⟨_, hK, hSf⟩
            · rename_i id hp
              rw [hp]
              exact wpIn_exit ⟨_, hK, hSf⟩
            · rename_i hp
              rw [hp]
              exact wpIn_ret ⟨_, hK, hSf⟩
            · exact hK.elim
          · exact hK.elim
      · exact hw.elim
    · simp at e
  · simp at e
theorem code_sound : ∀ (c : Code), SoundC P G N H c := by
  intro c
  induction c with
  | skip =>
    intro ro h0 φ0 T0 w0 hc Q st a w exs rt out hroo e hw hS
    simp only [compCode, Option.some.injEq] at e
    subst e
    exact wpIn_skip ⟨st, hw, hS⟩
  | label l =>
    intro ro h0 φ0 T0 w0 hc Q st a w exs rt out hroo e hw hS
    simp only [compCode, Option.some.injEq] at e
    subst e
    exact wpIn_label ⟨st, hw, hS⟩
  | scope x ih =>
    intro ro h0 φ0 T0 w0 hc Q st a w exs rt out hroo e hw hS
    simp only [compCode] at e
    exact wpIn_scope' (ih hroo e hw hS) fun l a w ⟨_, h, _⟩ => h
  | rangeFunc g ps x y ihx ihy => exact range_sound ihx ihy
  | region id ops draw =>
    intro ro h0 φ0 T0 w0 hc Q st a w exs rt out hroo e hw hS
    cases draw with
    | true =>
      simp only [compCode, if_true] at e
      split at e
      · rename_i hm
        cases ho : compDraw P N ops with
        | none => simp [ho] at e
        | some hd =>
          simp only [ho, Option.map_some, Option.some.injEq] at e
          subst e
          obtain ⟨R, hw, h2, _, _⟩ := ownH_w (N := N) (h0 := h0) (φ0 := φ0) (T0 := T0) (w0 := w0) hw
          obtain ⟨K, hw, hK⟩ := killH_regd hw
          refine wpIn_region_any hm (draw_sound ho hw hS.drawn fun st' a' w' hk hS' => (hK st' hk).elim (fun hq => h2 st' hq a' w' hS') fun hq => h2 _ hq a' w' (hS'.kill _))
      · simp at e
    | false =>
      simp only [compCode, Bool.false_eq_true, if_false] at e
      cases ho : compOps P N ops ops.toList with
      | none => simp [ho] at e
      | some hl =>
        simp only [ho, Option.map_some, Option.some.injEq] at e
        subst e
        obtain ⟨R, hw, h2, _, _⟩ := ownH_w (N := N) (h0 := h0) (φ0 := φ0) (T0 := T0) (w0 := w0) hw
        obtain ⟨K, hw, hK⟩ := killH_any hw
        have := cut_sound (H := H) (ro := ro) (l1 := []) (acc := []) (Q := fun e a' w' => ∃ st', exQ Q e st' ∧ SInv P G N h0 φ0 T0 w0 st' a' w') rfl ho hw hS fun st' a' w' hk hS' => (hK st' hk).elim (fun hq => h2 st' hq a' w' hS') fun hq => h2 _ hq a' w' (hS'.kill _)
        exact wpIn_region_list this
  | seq x y ihx ihy =>
    intro ro h0 φ0 T0 w0 hc Q st a w exs rt out hroo e hw hS
    simp only [compCode] at e
    split at e
    · rename_i hx hy h1 h2
      injection e with e
      subst e
      simp only [codeW] at hw
      refine wpIn_seq (wpIn_mono (ihx hroo h1 hw hS) fun ex a' w' ⟨st', hq, hS'⟩ => ?_)
      cases ex with
      | normal => exact ihy hroo h2 hq hS'
      | exit i => exact ⟨st', hq, hS'⟩
      | ret => exact ⟨st', hq, hS'⟩
      | _ => exact hq.elim
    · simp at e
  | cond c x y ihx ihy =>
    intro ro h0 φ0 T0 w0 hc Q st a w exs rt out hroo e hw hS
    simp only [compCode] at e
    split at e
    · rename_i hx hy h1 h2
      injection e with e
      subst e
      simp only [codeW] at hw
      split at hw
      · rename_i t ht
        have hS' := hS
        obtain ⟨hr, honce, ⟨h, φ, hG, hE, hI, hSl⟩, hsz, hdf⟩ := hS'
        refine wpIn_cond (t := t) (ev_v hG hSl ht) ?_
        cases t
        · rcases killB_w hw with hw | hw
          · exact ihy hroo h2 hw hS
          · exact ihy hroo h2 hw (hS.kill _)
        · rcases killB_w hw with hw | hw
          · exact ihx hroo h1 hw hS
          · exact ihx hroo h1 hw (hS.kill _)
      · exact hw.elim
    · simp at e
  | block id x ih =>
    intro ro h0 φ0 T0 w0 hc Q st a w exs rt out hroo e hw hS
    simp only [compCode] at e
    cases hx : compCode P N H x ((id, out) :: exs) rt out with
    | none => simp [hx] at e
    | some hx' =>
      simp only [hx, Option.map_some, Option.some.injEq] at e
      subst e
      obtain ⟨R, hw, h2, h3, h4⟩ := ownH_w (N := N) (h0 := h0) (φ0 := φ0) (T0 := T0) (w0 := w0) hw
      simp only [codeW] at hw
      refine wpIn_block (wpIn_mono (ih hroo hx hw hS) fun ex a' w' ⟨st', hq, hS'⟩ => ?_)
      cases ex with
      | normal => exact h2 st' hq a' w' hS'
      | exit i =>
        simp only [exQ] at hq
        simp only [Exit.inBlock]
        split
        · rename_i hi
          rw [if_pos hi] at hq
          exact h2 st' hq a' w' hS'
        · rename_i hi
          rw [if_neg hi] at hq
          exact ⟨st', h3 _ _ hq, hS'⟩
      | ret => exact ⟨st', h4 _ hq, hS'⟩
      | _ => exact hq.elim
  | loop x ih =>
    intro ro h0 φ0 T0 w0 hc Q st a w exs rt out hroo e hw hS
    simp only [compCode] at e
    cases hx : compCode P N H x exs rt (liveC exs rt x []) with
    | none => simp [hx] at e
    | some hx' =>
      simp only [hx, Option.map_some, Option.some.injEq] at e
      subst e
      simp only [codeW] at hw
      obtain ⟨I, ⟨n0, hI0⟩, hround⟩ := hw
      let J : Act → World → Nat → Prop := fun a w n => ∃ st, I n st ∧ SInv P G N h0 φ0 T0 w0 st a w
      refine wpIn_loop (fun a w => ∃ n, J a w n) (fun a w => open Classical in if h : ∃ n, J a w n then (least h).choose else 0) ⟨n0, hI0.elim (fun h => ⟨_, h, gcs_ok _ hS⟩) fun h => ⟨_, h, hS⟩⟩ fun a w hJ => ?_
      obtain ⟨st', hI', hS'⟩ := (least hJ).choose_spec.1
      refine wpIn_mono (ih hroo hx (hround _ st' hI') hS') fun ex a' w' ⟨st2, hq, hS2⟩ => ?_
      cases ex with
      | normal =>
        obtain ⟨m, hm, hIm⟩ := hq
        have hJm : J a' w' m := hIm.elim (fun h => ⟨_, h, gcs_ok _ hS2⟩) fun h => ⟨_, h, hS2⟩
        have hJ' : ∃ n, J a' w' n := ⟨m, hJm⟩
        refine ⟨hJ', ?_⟩
        simp only [dif_pos hJ', dif_pos hJ]
        have hle : (least hJ').choose ≤ m := by
          rcases Nat.lt_or_ge m (least hJ').choose with hlt | hge
          · exact absurd hJm ((least hJ').choose_spec.2 m hlt)
          · exact hge
        omega
      | exit i => exact ⟨st2, hq, hS2⟩
      | ret => exact ⟨st2, hq, hS2⟩
      | _ => exact hq.elim
  | exit i =>
    intro ro h0 φ0 T0 w0 hc Q st a w exs rt out hroo e hw hS
    simp only [compCode, Option.some.injEq] at e
    subst e
    exact wpIn_exit ⟨st, hw, hS⟩
  | ret =>
    intro ro h0 φ0 T0 w0 hc Q st a w exs rt out hroo e hw hS
    simp only [compCode, Option.some.injEq] at e
    subst e
    exact wpIn_ret ⟨st, hw, hS⟩
  | _ => intro ro h0 φ0 T0 w0 hc Q st a w exs rt out hroo e; simp [compCode] at e
end
end Hud
end
section
namespace Hud
open Go
def initS : Nat → List AV → List (Nat × AV)
  | _, [] => []
  | i, x :: r => (i, x) :: initS (i + 1) r
def resA : List AV → AV
  | [x] => x
  | l => .tup l
def resE (st : St) (p : Nat × Option (Option Nat)) : Option AV := match p.2 with
  | none => some (getS st.s p.1)
  | some n => match hop st.T (evO (fun _ => none) st.s) (.ld n (.tmp p.1)) with
    | some (x, _) => some x
    | none => none
def resO (st : St) : List (Nat × Option (Option Nat)) → Option (List AV)
  | [] => some []
  | p :: r => match resE st p with
    | some x => match resO st r with
      | some l => some (x :: l)
      | none => none
    | none => none
def retW (rs : List (Nat × Option (Option Nat))) (post : AV → Tab → Prop) (st : St) : Prop :=
  match resO st rs with
  | some l =>
    let r := resA l
    let L := reach st.T (List.range st.r ++ idsA r)
    post (rnA L r) (rnT L st.T) ∨ post r st.T
  | none => False
def bodyW (rs : List (Nat × Option (Option Nat))) (post : AV → Tab → Prop) : Ex → St → Prop
  | .normal, st => retW rs post st
  | .ret, st => retW rs post st
  | _, _ => False
def funW (P : Program) (G : Nat → Option (List AV)) (hf : HFun) (args : List AV) (T : Tab) (post : AV → Tab → Prop) : Prop :=
  codeW P G hf.code (bodyW hf.res post) ⟨T.length, initS 0 args, T⟩
theorem once_init : ∀ (i : Nat) (l : List AV), Once (initS i l) ∧ ∀ j x, (j, x) ∈ initS i l → i ≤ j
  | i, [] => ⟨fun _ _ _ h => by simp [initS] at h, fun _ _ h => by simp [initS] at h⟩
  | i, x :: l => by
    obtain ⟨h1, h2⟩ := once_init (i + 1) l
    refine ⟨fun j a b ha hb => ?_, fun j a ha => ?_⟩
    · simp only [initS, List.mem_cons, Prod.mk.injEq] at ha hb
      rcases ha with ⟨rfl, rfl⟩ | ha <;> rcases hb with ⟨hb1, rfl⟩ | hb
      · rfl
      · have := h2 _ _ hb; omega
      · subst hb1; have := h2 _ _ ha; omega
      · exact h1 j a b ha hb
    · simp only [initS, List.mem_cons, Prod.mk.injEq] at ha
      rcases ha with ⟨rfl, _⟩ | ha
      · exact Nat.le_refl _
      · have := h2 _ _ ha; omega
section
variable {P : Program} {G : Nat → Option (List AV)} {h : GH} {φ : Nat → Value} {n : Nat}
theorem leaves_marks {P : Program} {fn : Func} {tmps : Array Value} {R : Ending → World → Prop} {h0 : GH} {φ0 : Nat → Value} {T0 : Tab} {w0 : World} {h : GH} {φ : Nat → Value} {T : Tab}
    (fin : ∀ w, Inv h φ w T → Evo h0 φ0 T0 w0 h φ T w → ∃ v, (results fn tmps).run P w = .ok v w ∧ R (.returned v) w) : ∀ (ds : List Deferred) (w : World), (ds.Pairwise fun x y => x.target ≠ y.target) →
    (∀ d ∈ ds, ∃ D, d.target = .collected D ∧ w0.heap.size ≤ D ∧ w.heap[D]? = some (.deferred (some []))) → Inv h φ w T → Evo h0 φ0 T0 w0 h φ T w → LeavesInM Fence.wide 0 P fn tmps R ds .returning w
  | [], w, _, _, hI, hE => fin w hI hE
  | d :: ds, w, hp, hd, hI, hE => by
    obtain ⟨D, e1, e2, e3⟩ := hd d (by simp)
    have hk := run_takeDeferred (P := P) e3
    refine ⟨by simp, .inl ⟨D, _, e1, hk, ?_⟩⟩
    obtain ⟨hp1, hp2⟩ := List.pairwise_cons.1 hp
    refine leaves_marks fin ds _ hp2 (fun d' hm => ?_) ?_ ?_
    · obtain ⟨D', f1, f2, f3⟩ := hd d' (by simp [hm])
      refine ⟨D', f1, f2, ?_⟩
      rw [World.putObj_heap_other fun hDD => hp1 d' hm (by rw [e1, f1, hDD])]
      exact f3
    · refine inv_put hI (fun i x hx hb => objAt_kind (hI.obj i x hx) hb _ e3) ?_ _
      cases hh : h D with
      | none => rfl
      | some cs =>
        obtain ⟨E, fr, hw⟩ := hI.gh D cs hh
        rw [e3] at hw
        simp at hw
    · refine ⟨hE.os, hE.tape, hE.output, by simpa using hE.size, fun b hb hn => ?_, hE.le, hE.gfr, hE.phi, hE.org, hE.len, hE.drawn⟩
      rw [World.putObj_heap_other (by omega)]
      exact hE.frame b hb hn
theorem init_ok : ∀ (i : Nat) (l : List AV) (pre us post : List Value), pre.length = i → RpL h φ n l us → SOk h φ n (initS i l) ⟨(pre ++ us ++ post).toArray, []⟩
  | i, [], pre, us, post, _, _ => fun j => by simp [initS, getS, Rp]
  | i, x :: l, pre, us, post, hp, hr => by
    simp only [RpL] at hr
    obtain ⟨u, us', rfl, h1, h2⟩ := hr
    have := init_ok (i + 1) l (pre ++ [u]) us' post (by simp [hp]) h2
    intro j
    simp only [initS, getS]
    split
    · rename_i hij
      subst hij
      have hg : (pre ++ u :: us' ++ post).toArray.getD i undef = u := by
        subst hp
        simp [Array.getD_eq_getD_getElem?]
      rw [hg]
      exact h1
    · have h3 := this j
      simp only [List.append_assoc, List.singleton_append] at h3 ⊢
      exact h3
def resV : List Value → Value
  | [v] => v
  | l => .tuple l.toArray
theorem addr_of_load {t : TypeId} {u v : Value} {w w' : World} (e : (Instr.loadAt t u).run P w = .ok v w') : (do loadVar t (← asAddr u) : Sem Value).run P w = .ok v w' := by
  have key : ∀ (s : String), ¬ ((do loadVar t (← stuck s) : Sem Value).run P w = .ok v w') := by
    intro s h
    simp [stuck] at h
  cases u with
  | pointer a =>
    cases a with
    | none => exact absurd e (key _)
    | some a => exact e
  | _ => exact absurd e (key _)
theorem results_run {fn : Func} {T : Tab} {st : St} {a : Act} {w : World} (hG : GOk G h) (hI : Inv h φ w st.T) (hS : SOk h φ st.T.length st.s a) {rs : List (Nat × Option (Option Nat))} (hr : resT P fn.results.toList = some rs) {l : List AV} (hl : resO st rs = some l) :
    ∃ vs, (results fn a.tmps).run P w = .ok (resV vs) w ∧ RpL h φ st.T.length l vs := by
  have key : ∀ (g : ResultVar → Sem Value), (∀ t, g (.tmp t) = pure (a.tmps.getD t undef)) → (∀ i t, g (.cell i t) = (do loadVar t (← asAddr (a.tmps.getD i undef)) : Sem Value)) →
      ∀ (rv : List ResultVar) (rs : List (Nat × Option (Option Nat))) (l : List AV), resT P rv = some rs → resO st rs = some l → ∃ vs, (rv.mapM g).run P w = .ok vs w ∧ RpL h φ st.T.length l vs := by
    intro g hg hgc rv
    induction rv with
    | nil =>
      intro rs l e1 e2
      simp only [resT, Option.some.injEq] at e1
      subst e1
      simp only [resO, Option.some.injEq] at e2
      subst e2
      exact ⟨[], by simp, by simp [RpL]⟩
    | cons x rv ih =>
      intro rs l e1 e2
      have step : ∀ (p : Nat × Option (Option Nat)) (rs' : List (Nat × Option (Option Nat))), resT P rv = some rs' → rs = p :: rs' → (∀ y, resE st p = some y → ∃ v, (g x).run P w = .ok v w ∧ Rp h φ st.T.length y v) → ∃ vs, ((x :: rv).mapM g).run P w = .ok vs w ∧ RpL h φ st.T.length l vs := by
        intro p rs' h1 h2 h3
        subst h2
        simp only [resO] at e2
        split at e2
        · rename_i y hy
          split at e2
          · rename_i l' hl'
            injection e2 with e2
            subst e2
            obtain ⟨v, hv, hrv⟩ := h3 y hy
            obtain ⟨vs, hvs, hrs⟩ := ih rs' l' h1 hl'
            refine ⟨v :: vs, ?_, ?_⟩
            · rw [List.mapM_cons]
              simp [hv, hvs]
            · simp only [RpL]
              exact ⟨v, vs, rfl, hrv, hrs⟩
          · simp at e2
        · simp at e2
      cases x with
      | tmp t =>
        simp only [resT] at e1
        cases hq : resT P rv with
        | none => simp [hq] at e1
        | some rs' =>
          simp only [hq, Option.map_some, Option.some.injEq] at e1
          refine step (t, none) rs' hq e1.symm fun y hy => ?_
          simp only [resE, Option.some.injEq] at hy
          subst hy
          exact ⟨_, by rw [hg]; simp, hS t⟩
      | cell i t =>
        simp only [resT] at e1
        split at e1
        · rename_i n hn
          cases hq : resT P rv with
          | none => simp [hq] at e1
          | some rs' =>
            simp only [hq, Option.map_some, Option.some.injEq] at e1
            refine step (i, some n) rs' hq e1.symm fun y hy => ?_
            simp only [resE] at hy
            split at hy
            · rename_i y' T' he
              injection hy with hy
              subst hy
              have he' : hop st.T (evO G st.s) (.ld n (.tmp i)) = some (y', T') := he
              obtain ⟨_, v, h1, h2⟩ := load_gives (P := P) (w := w) hn hG hI hS he'
              exact ⟨v, by rw [hgc]; exact addr_of_load h1, h2⟩
            · simp at hy
        · simp at e1
  obtain ⟨vs, h1, h2⟩ := key (fun | .tmp t => pure (a.tmps.getD t undef) | .cell a' t => do loadVar t (← asAddr (a.tmps.getD a' undef))) (fun t => rfl) (fun i t => rfl) _ _ _ hr hl
  refine ⟨vs, ?_, h2⟩
  unfold results
  rw [Sem.run_bind, Array.mapM_eq_mapM_toList, Sem.run_map]
  erw [h1]
  simp only [Result.andThen_ok, Sem.run_pure]
  match vs with
  | [] => rfl
  | [t] => rfl
  | t :: t' :: l => rfl
theorem resA_ok {l : List AV} {vs : List Value} (hs : RpL h φ n l vs) : Rp h φ n (resA l) (resV vs) := by
  match l, vs, hs with
  | [], vs, hs => simp only [RpL] at hs; subst hs; simp only [resA, resV, Rp]; exact ⟨_, rfl, by simp [RpL]⟩
  | [x], vs, hs => simp only [RpL] at hs; obtain ⟨u, us, rfl, h1, rfl⟩ := hs; exact h1
  | x :: y :: l, vs, hs =>
    have hs' := hs
    simp only [RpL] at hs
    obtain ⟨u, us, rfl, h1, u', us', rfl, h2, h3⟩ := hs
    simp only [resA, resV, Rp]
    exact ⟨_, rfl, by simpa using hs'⟩
theorem fun_okS {f : FuncId} {hf : HFun} {H : List (Nat × Option Nat × Nat)} (hc : compFunH P f H = some hf) {args : List AV} {T : Tab} {post : AV → Tab → Prop} (hT : True) (hw : funW P G hf args T post) : CallOk P G f args T post := by
  unfold compFunH at hc
  split at hc
  · simp at hc
  · rename_i fn hfn
    split at hc
    · simp at hc
    · rename_i hname
      split at hc
      · rename_i c rs hb hrs
        cases hcc : compCode P fn.ntmps H c [] (rs.map (·.1)) (rs.map (·.1)) with
        | none => simp [hcc] at hc
        | some hcode =>
          simp only [hcc, Option.map_some, Option.some.injEq] at hc
          subst hc
          intro h φ w vals hG hI hA
          refine .inl ⟨?_, ?_⟩
          · have hn : ¬ fn.name = "runtime.NumGoroutine" := by simpa using hname
            simp [callFunc, hfn, hn, hb]
          · have hS0 : SInv P G fn.ntmps h φ T w ⟨T.length, initS 0 args, T⟩ ⟨vals ++ Array.replicate (fn.ntmps - vals.size) undef, []⟩ w := by
              refine ⟨rfl, (once_init 0 args).1, ⟨h, φ, hG, Evo.refl, hI, ?_⟩, by simp; omega, by simp [DfOk]⟩
              have := init_ok (h := h) (φ := φ) (n := T.length) 0 args [] vals.toList (List.replicate (fn.ntmps - vals.size) undef) rfl hA
              have e : vals ++ Array.replicate (fn.ntmps - vals.size) undef = (vals.toList ++ List.replicate (fn.ntmps - vals.size) undef).toArray := by
                apply Array.toList_inj.1; simp
              rw [e]
              simpa only [List.nil_append] using this
            have hwp : c.wpIn Fence.wide 0 P (fun e a' w' => ∃ st', exQ (bodyW rs post) e st' ∧ SInv P G fn.ntmps h φ T w st' a' w') ⟨vals ++ Array.replicate (fn.ntmps - vals.size) undef, []⟩ w := by
              have hro : RoOk none φ T w := fun l hl => by simp at hl
              rcases killB_w hw with hw | hw
              · exact code_sound (N := fn.ntmps) c (ro := none) hro hcc hw hS0
              · exact code_sound (N := fn.ntmps) c (ro := none) hro hcc hw (hS0.kill _)
            refine callsIn_wide.1 (callsIn_of_wp_marks (n := 0) hfn hb trivial (wpIn_mono hwp ?_))
            · rintro e a' w' ⟨st, hq, hS⟩
              have fin : retW rs post st → bodyPostM Fence.wide 0 P fn (fun e w' => ∃ v, e = .returned v ∧ Ret h φ T w post v w') .ret a' w' := by
                intro hq
                obtain ⟨hr, honce, ⟨h2, φ2, hG2, hE2, hI2, hSl⟩, hsz, hdf⟩ := hS
                simp only [retW] at hq
                split at hq
                rotate_left
                · exact hq.elim
                rename_i lr hlr
                refine leaves_marks (fun wf hI2 hE2 => ?_) a'.defers w' hdf.1 hdf.2 hI2 hE2
                obtain ⟨vs, hrun, hrl⟩ := results_run (T := st.T) hG2 hI2 hSl hrs hlr
                refine ⟨_, hrun, _, rfl, ?_⟩
                have hres := resA_ok hrl
                revert hres
                generalize resV vs = v
                intro hres
                rcases hq with hq | hq
                · have hS3 : SInv P G 0 h φ T w ⟨st.r, [(0, resA lr)], st.T⟩ ⟨#[v], []⟩ wf := by
                    refine ⟨hr, fun i x y hx hy => ?_, ⟨h2, φ2, hG2, hE2, hI2, fun i => ?_⟩, by simp, by simp [DfOk]⟩
                    · simp only [List.mem_singleton, Prod.mk.injEq] at hx hy; rw [hx.2, hy.2]
                    · simp only [getS]
                      split
                      · rename_i hi; subst hi; exact hres
                      · simp [Rp]
                  obtain ⟨_, _, ⟨h4, φ4, _, hE4, hI4, hS4⟩, _, _⟩ := gcs_ok (st := ⟨st.r, [(0, resA lr)], st.T⟩) [] hS3
                  have h5 := hS4 0
                  have hg : gcs [] ⟨st.r, [(0, resA lr)], st.T⟩ = ⟨st.r, [(0, rnA (reach st.T (List.range st.r ++ idsA (resA lr))) (resA lr))], rnT (reach st.T (List.range st.r ++ idsA (resA lr))) st.T⟩ := by
                    simp [gcs, dropS, sortS, insS, idsS, rnS]
                  rw [hg] at hE4 hI4 h5
                  exact ⟨_, _, h4, φ4, hq, hE4, hI4, h5⟩
                · exact ⟨_, _, h2, φ2, hq, hE2, hI2, hres⟩
              cases e with
              | normal => exact fin hq
              | ret => exact fin hq
              | _ => exact hq.elim
      · simp at hc
end
end Hud
end
