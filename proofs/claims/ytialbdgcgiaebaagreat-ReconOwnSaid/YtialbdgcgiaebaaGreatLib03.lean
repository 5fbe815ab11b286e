import Derived.Test.YtialbdgcgiaebaaGreatLib02
set_option linter.all false
section
namespace Hud
open Go
theorem flat_groups {k : Nat} : ∀ (n : Nat) (cs : List AV), cs.length = n * k → (groups k n cs).flatten = cs ∧ (groups k n cs).length = n ∧ ∀ e ∈ groups k n cs, e.length = k
  | 0, cs, hl => by
    have : cs = [] := List.eq_nil_of_length_eq_zero (by simpa using hl)
    subst this
    simp [groups]
  | n + 1, cs, hl => by
    rw [Nat.succ_mul] at hl
    obtain ⟨h1, h2, h3⟩ := flat_groups (k := k) n (cs.drop k) (by rw [List.length_drop]; omega)
    refine ⟨by simp [groups, h1], by simp [groups, h2], fun e he => ?_⟩
    simp only [groups, List.mem_cons] at he
    rcases he with rfl | he
    · rw [List.length_take]; omega
    · exact h3 e he
theorem closed_ok {h : GH} {φ : Nat → Value} {n : Nat} : ∀ {x : AV} {u : Value}, Rp h φ n x u → closedA x = true → RpD h x u
  | .v _, u, e, _ => by simpa [Rp, RpD] using e
  | .ls k es, u, e, _ => by simpa only [Rp] using e
  | .ag _, _, _, hc => by simp [closedA] at hc
  | .own _, _, _, hc => by simp [closedA] at hc
  | .ptr _ _, _, _, hc => by simp [closedA] at hc
  | .elt _ _ _ _, _, _, hc => by simp [closedA] at hc
  | .vw _ _ _ _, _, _, hc => by simp [closedA] at hc
  | .mp _, _, _, hc => by simp [closedA] at hc
  | .yl _, _, _, hc => by simp [closedA] at hc
  | .rp _, _, _, hc => by simp [closedA] at hc
  | .cl _ _, _, _, hc => by simp [closedA] at hc
  | .bm _ _ _, _, _, hc => by simp [closedA] at hc
  | .tup _, _, _, hc => by simp [closedA] at hc
  | .any, _, _, hc => by simp [closedA] at hc
theorem closedL_ok {h : GH} {φ : Nat → Value} {n : Nat} {cs : List AV} {us : List Value} (e : RpL h φ n cs us) (hc : ∀ c ∈ cs, closedA c = true) : RpDL h cs us :=
  RpDL.mk e.length fun i c u hi hu => by
    obtain ⟨u', h1, h2⟩ := e.get hi
    rw [hu] at h1
    injection h1 with h1
    subst h1
    exact closed_ok h2 (hc c (List.mem_of_getElem? hi))
theorem repZ_len (z : List Value) : ∀ n, (repZ z n).length = n * z.length
  | 0 => by simp [repZ]
  | n + 1 => by simp [repZ, repZ_len z n, Nat.succ_mul]; omega
theorem repZ_get (z : List Value) (hz : 0 < z.length) : ∀ (n i : Nat), i < n * z.length → (repZ z n)[i]? = z[i % z.length]?
  | 0, i, hi => by simp at hi
  | n + 1, i, hi => by
    simp only [repZ]
    by_cases hlt : i < z.length
    · rw [List.getElem?_append_left hlt, Nat.mod_eq_of_lt hlt]
    · rw [List.getElem?_append_right (by omega), repZ_get z hz n (i - z.length) (by rw [Nat.add_mul, Nat.one_mul] at hi; omega)]
      congr 1
      exact (Nat.mod_eq_sub_mod (by omega)).symm
theorem rep_range (z : Array Value) (hz : 0 < z.size) (n : Nat) : ((Array.range (n * z.size)).map fun i => z[i % z.size]!).toList = repZ z.toList n := by
  apply List.ext_getElem?
  intro i
  rcases Nat.lt_or_ge i (n * z.size) with hi | hi
  · rw [repZ_get z.toList (by simpa using hz) n i (by simpa using hi)]
    have hm : i % z.size < z.size := Nat.mod_lt _ hz
    simp [hi, hm]
  · rw [List.getElem?_eq_none (by simp; omega), List.getElem?_eq_none (by rw [repZ_len]; simpa using hi)]
theorem RpDL.app {h : GH} {cs ds : List AV} {us vs : List Value} (a : RpDL h cs us) (b : RpDL h ds vs) : RpDL h (cs ++ ds) (us ++ vs) := by
  induction cs generalizing us with
  | nil => simp only [RpDL] at a; subst a; simpa using b
  | cons c cs ih =>
    simp only [RpDL] at a
    obtain ⟨u, us', rfl, h1, h2⟩ := a
    simp only [List.cons_append, RpDL]
    exact ⟨u, us' ++ vs, rfl, h1, ih h2⟩
theorem RpDL.take {h : GH} {cs : List AV} {us : List Value} (a : RpDL h cs us) (m : Nat) : RpDL h (cs.take m) (us.take m) := by simpa using a.sub 0 m
theorem RpDL.drop {h : GH} {cs : List AV} {us : List Value} (a : RpDL h cs us) (m : Nat) : RpDL h (cs.drop m) (us.drop m) := by
  have := a.sub m cs.length
  rwa [List.take_of_length_le (by simp), List.take_of_length_le (by rw [List.length_drop, a.length]; omega)] at this
theorem flat_set {k : Nat} : ∀ {es : List (List AV)}, (∀ e ∈ es, e.length = k) → ∀ {j : Nat} {e : List AV}, es[j]? = some e → ∀ {off n : Nat} {x : List AV}, off + n ≤ k →
    (es.set j (e.take off ++ x ++ e.drop (off + n))).flatten = es.flatten.take (j * k + off) ++ x ++ es.flatten.drop (j * k + off + n)
  | [], _, j, e, hj, _, _, _, _ => by simp at hj
  | d :: es, hl, j, e, hj, off, n, x, hle => by
    have hd := hl d (by simp)
    cases j with
    | zero =>
      simp only [List.getElem?_cons_zero, Option.some.injEq] at hj
      subst hj
      simp only [List.set_cons_zero, List.flatten_cons, Nat.zero_mul, Nat.zero_add]
      rw [List.take_append_of_le_length (by omega), List.drop_append_of_le_length (by omega)]
      simp [List.append_assoc]
    | succ j =>
      simp only [List.getElem?_cons_succ] at hj
      simp only [List.set_cons_succ, List.flatten_cons]
      rw [flat_set (fun e he => hl e (by simp [he])) hj hle]
      have e1 : (j + 1) * k + off = d.length + (j * k + off) := by rw [Nat.add_mul, Nat.one_mul, hd]; omega
      rw [e1, Nat.add_assoc d.length, List.take_length_add_append, List.drop_length_add_append]
      simp [List.append_assoc]
theorem take_mid {α : Type} (L vals : List α) (p n m : Nat) (h1 : p + n ≤ m) (h2 : m ≤ L.length) (hv : vals.length = n) :
    (L.take p ++ vals ++ L.drop (p + n)).take m = (L.take m).take p ++ vals ++ (L.take m).drop (p + n) := by
  rw [List.take_append, List.take_of_length_le (by simp; omega), List.drop_take, List.take_take]
  congr 2
  · congr 1; omega
  · simp; omega
section
variable {P : Program} {G : Nat → Option (List AV)} {h : GH} {φ : Nat → Value} {T : Tab} {w : World} {s : List (Nat × AV)} {a : Act}
theorem ghost_new (hI : Inv h φ w T) : h w.heap.size = none := by
  cases e : h w.heap.size with
  | none => rfl
  | some cs => have := ghost_lt hI e; omega
theorem RpB.mono {h h' : GH} {φ φ' : Nat → Value} {n n' : Nat} {b : Bool} {cs : List AV} {us : List Value} (g : GLe h h') (hn : n ≤ n') (hp : ∀ i, i < n → φ' i = φ i) (a : RpB h φ n b cs us) : RpB h' φ' n' b cs us := by
  cases b with
  | true => exact RpDL.mono g a
  | false => exact RpL.mono g hn hp a
theorem RpB.app {h : GH} {φ : Nat → Value} {n : Nat} {b : Bool} {cs ds : List AV} {us vs : List Value} (x : RpB h φ n b cs us) (y : RpB h φ n b ds vs) : RpB h φ n b (cs ++ ds) (us ++ vs) := by
  cases b with
  | true => exact RpDL.app x y
  | false => exact RpL.app x y
theorem RpB.take {h : GH} {φ : Nat → Value} {n : Nat} {b : Bool} {cs : List AV} {us : List Value} (x : RpB h φ n b cs us) (m : Nat) : RpB h φ n b (cs.take m) (us.take m) := by
  cases b with
  | true => exact RpDL.take x m
  | false => exact RpL.take x m
theorem RpB.drop {h : GH} {φ : Nat → Value} {n : Nat} {b : Bool} {cs : List AV} {us : List Value} (x : RpB h φ n b cs us) (m : Nat) : RpB h φ n b (cs.drop m) (us.drop m) := by
  cases b with
  | true => exact RpDL.drop x m
  | false => exact RpL.drop x m
theorem RpB.length {h : GH} {φ : Nat → Value} {n : Nat} {b : Bool} {cs : List AV} {us : List Value} (x : RpB h φ n b cs us) : cs.length = us.length := by
  cases b with
  | true => exact RpDL.length x
  | false => exact RpL.length x
theorem RpB.of {h : GH} {φ : Nat → Value} {n : Nat} {b : Bool} {cs : List AV} {us : List Value} (e : RpL h φ n cs us) (hc : ∀ c ∈ cs, okC b c = true) : RpB h φ n b cs us := by
  cases b with
  | true => exact closedL_ok e hc
  | false => exact e
theorem RpB.weaken {h : GH} {φ : Nat → Value} {n : Nat} {b c : Bool} {cs : List AV} {us : List Value} (x : RpB h φ n b cs us) (hbc : c = true → b = true) : RpB h φ n c cs us := by
  cases c with
  | true => rw [hbc rfl] at x; exact x
  | false => exact x.toL
theorem okC_weaken {b c : Bool} {x : AV} (hx : okC b x = true) (hbc : c = true → b = true) : okC c x = true := by
  cases c with
  | true => rw [hbc rfl] at hx; exact hx
  | false => exact okC_one hx
theorem new_rows (hI : Inv h φ w T) {w1 : World} (h1 : w1.heap = w.heap) (hos : w1.os = w.os) (htp : w1.tape = w.tape) (hout : w1.output = w.output) {b : Bool} {k n c : Nat} {es : List (List AV)} (hes : ∀ e ∈ es, e.length = k ∧ ∀ c ∈ e, okC b c = true) (hn : es.length = n) {cur : Array Value} (hc : n ≤ c) (hcm : c ≤ maxLen) (hcs : cur.size = c * k)
    (hr : RpB h φ T.length b es.flatten (cur.toList.take (n * k))) (E : TypeId) (hdr : w.drawn ≤ w1.drawn := by first | exact Nat.le_refl _ | exact Nat.le_succ _ | assumption) :
    Makes h φ T w (.ok (.slice (some ⟨w.heap.size, 0, none⟩) n c) (w1.alloc (.cells cur E))) (.own T.length) (T ++ [some (mkRows b k es)]) := by
  subst hn
  have hsz : w1.heap.size = w.heap.size := by rw [h1]
  have hnew : (w1.alloc (.cells cur E)).heap[w.heap.size]? = some (.cells cur E (0, 0)) := by rw [← hsz]; exact heap_alloc_new w1 _
  have := inv_new (w' := w1.alloc (.cells cur E)) (o := mkRows b k es) (v := .slice (some ⟨w.heap.size, 0, none⟩) es.length c) hI hos htp hout (by simp [hsz]) (fun b hb => by rw [heap_alloc_lt w1 _ b (by omega), h1])
    (fun g hg => by
      cases c with
      | zero => simp [blk] at hg
      | succ c => simp only [blk, Option.some.injEq] at hg; omega)
    (objAt_rows.2 (by
      cases c with
      | zero => exact ⟨hes, .inl ⟨_, by rw [upd_self, Nat.le_zero.1 hc], List.eq_nil_of_length_eq_zero (Nat.le_zero.1 hc)⟩⟩
      | succ c => exact ⟨hes, .inr ⟨w.heap.size, c, cur, E, upd_self, hnew, hc, hcm, hcs, ghost_new hI, hr.mono (GLe.refl h) (by omega) fun i hi => upd_lt hi⟩⟩))
  refine ⟨_, _, h, _, rfl, this.2, this.1, ?_⟩
  simp only [Rp]
  exact ⟨by simp, upd_self.symm, _, _, _, rfl⟩
theorem new_arr (hI : Inv h φ w T) {w1 : World} (h1 : w1.heap = w.heap) (hos : w1.os = w.os) (htp : w1.tape = w.tape) (hout : w1.output = w.output) {k n c : Nat} {es : List (List AV)} (hes : ∀ e ∈ es, e.length = k ∧ ∀ c ∈ e, closedA c = true) (hn : es.length = n) {cur : Array Value} (hc : n ≤ c) (hcm : c ≤ maxLen) (hcs : cur.size = c * k)
    (hr : RpDL h es.flatten (cur.toList.take (n * k))) (E : TypeId) (hdr : w.drawn ≤ w1.drawn := by first | exact Nat.le_refl _ | exact Nat.le_succ _ | assumption) :
    Makes h φ T w (.ok (.slice (some ⟨w.heap.size, 0, none⟩) n c) (w1.alloc (.cells cur E))) (.own T.length) (T ++ [some (.arr k es)]) := new_rows (b := true) hI h1 hos htp hout hes hn hc hcm hcs hr E hdr
theorem bsl_makes {t e : TypeId} (ht : P.underlying t = some (.slice e)) {i : TypeInfo} (hi : P.info? e = some i) {z : Value} (hz : i.zero = some z) (hzs : z.cells.size = i.size) (h0 : 0 < i.size) {len : Nat} (hlen : len * i.size ≤ 2 ^ 20) (hpos : 0 < len) {parts : Array (Nat × Operand)}
    (hG : GOk G h) (hI : Inv h φ w T) (hS : SOk h φ T.length s a) {x : AV} {T' : Tab}
    (he : hop T (evO G s) (.bsl i.size (repZ z.cells.toList len) (partsA i.size parts.toList) len) = some (x, T')) :
    Makes h φ T w ((Instr.buildSlice t len (parts.map fun (i, x) => (i, a.eval x))).run P w) x T' := by
  simp only [hop] at he
  split at he
  · rename_i cs hcs
    obtain ⟨b, hcl, hx⟩ : ∃ b : Bool, (∀ c ∈ cs, okC b c = true) ∧ (some (AV.own T.length, T ++ [some (mkRows b i.size (groups i.size len cs))]) = some (x, T')) := by
      split at he
      · rename_i hcl; exact ⟨true, fun c hc => List.all_eq_true.1 hcl c hc, he⟩
      · split at he
        · rename_i hcl; exact ⟨false, fun c hc => List.all_eq_true.1 hcl c hc, he⟩
        · simp at he
    clear he
    have he := hx
    · injection he with he; injection he with e1 e2; subst e1; subst e2
      obtain ⟨vs, h1, h2⟩ := lay_ok hG hS (partsA i.size parts.toList) (rpl_v h φ T.length (repZ z.cells.toList len)) hcs
      have hrange := rep_range z.cells (by omega) len
      have hfill := fill_ok (place := fun j => some (j * i.size, i.size)) (fun j => (j * i.size, i.size)) (parts.toList.map fun p => (p.1, a.eval p.2)) ((Array.range (len * z.cells.size)).map fun j => z.cells[j % z.cells.size]!) vs (fun p _ => rfl)
        (by rw [hrange, ← h1, partsA_eq]; simp [partsV, List.map_map, Function.comp_def])
      have hl : cs.length = len * i.size := by
        have lay_len : ∀ (l : List (Nat × Nat × AV)) (cells cs : List AV), layA cells l = some cs → cs.length = cells.length := by
          intro l
          induction l with
          | nil => intro cells cs e; simp only [layA, Option.some.injEq] at e; rw [e]
          | cons p l ih =>
            intro cells cs e
            obtain ⟨off, n, y⟩ := p
            simp only [layA] at e
            split at e
            · rename_i hc
              rw [ih _ _ e]
              simp only [List.length_append, List.length_take, List.length_drop]
              omega
            · simp at e
        rw [lay_len _ _ _ hcs, List.length_map, repZ_len, Array.length_toList, hzs]
      obtain ⟨g1, g2, g3⟩ := flat_groups len cs hl
      have hvl := h2.length
      have hrun : (Instr.buildSlice t len (parts.map fun (i, x) => (i, a.eval x))).run P w = .ok (.slice (some ⟨w.heap.size, 0, none⟩) len len) (w.alloc (.cells vs.toArray e)) := by
        have hne : ¬ (len * i.size = 0) := by
          have := Nat.mul_pos hpos h0; omega
        have hsz : ¬ (16777216 < len * i.size) := by omega
        rw [hzs] at hfill
        simp only [Instr.buildSlice, Sem.run_bind, run_underlying ht, Result.andThen_ok, Go.sizeOf, typeInfo, run_program, hi, Sem.run_pure, zeroValue, hz]
        simp only [Sem.run_ite, hne, if_false, gt_iff_lt, Nat.reducePow, hsz, Sem.run_bind, run_program, Result.andThen_ok, hi, hz, Sem.run_pure, Array.toList_map, hzs]
        simp [hfill, newRow]
      rw [hrun]
      have hlm : len ≤ maxLen := by
        have h' : len ≤ len * i.size := Nat.le_mul_of_pos_right _ h0
        unfold maxLen; omega
      have hvs : vs.toArray.size = len * i.size := by rw [List.size_toArray]; omega
      refine new_rows hI rfl rfl rfl rfl (fun d hd => ⟨g3 d hd, fun c hc => hcl c (by rw [← g1]; exact List.mem_flatten.2 ⟨d, hd, hc⟩)⟩) g2 (Nat.le_refl _) hlm hvs ?_ e
      rw [g1]
      have : (vs.toArray.toList.take (len * i.size)) = vs := List.take_of_length_le (by show vs.length ≤ _; rw [← hvl, hl]; exact Nat.le_refl _)
      rw [this]
      exact RpB.of h2 hcl
  · simp at he
theorem set_row {i : Nat} {o o' : AObj} (hI : Inv h φ w T) (hi : T[i]? = some (some o)) {g : Nat} {cur new : Array Value} {E : TypeId} (hw : w.heap[g]? = some (.cells cur E (0, 0))) (hbl : blk (φ i) = some g)
    (ho : objAt h φ T.length (w.setRow g new) i o') : Inv h φ (w.setRow g new) (T.set i (some o')) ∧ Evo h φ T w h φ (T.set i (some o')) (w.setRow g new) :=
  inv_set (w' := w.setRow g new) hI rfl rfl rfl (by simp) hi (fun b _ hne => setRow_other w g b new fun e => hne (by rw [hbl, e])) ho
theorem st_makes {t : TypeId} {n : Nat} (ht : sizeT P t = some n) (hG : GOk G h) (hI : Inv h φ w T) (hS : SOk h φ T.length s a) {p q : Operand} {x : AV} {T' : Tab} (he : hop T (evO G s) (.st n p q) = some (x, T')) :
    ∃ w', (Instr.storeAt t (a.eval p) (a.eval q)).run P w = .ok () w' ∧ x = .v undef ∧ Evo h φ T w h φ T' w' ∧ Inv h φ w' T' := by
  have hp := ev_ok hG hS p
  have run : ∀ (g o : Nat) (cur : Array Value) (E : TypeId), w.heap[g]? = some (.cells cur E (0, 0)) → (∀ c ∈ cellsA (evO G s q), oneC c = true) → (cellsA (evO G s q)).length = n → o + n ≤ cur.size →
      (Instr.storeAt t (.pointer (some ⟨g, o, none⟩)) (a.eval q)).run P w = .ok () (w.setRow g (cur.toList.take o ++ (a.eval q).cells.toList ++ cur.toList.drop (o + n)).toArray) := by
    intro g o cur E hw hone hlen hle
    have hx := cellsA_ok (ev_ok hG hS q) hone
    have hl := hx.length
    rw [hlen] at hl
    have h1 : ∀ v ∈ (a.eval q).cells.toList, v.oneCell' = true := by
      intro v hv
      obtain ⟨j, hj⟩ := List.getElem?_of_mem hv
      have hjl : j < (cellsA (evO G s q)).length := by
        rw [hx.length]
        rcases Nat.lt_or_ge j (a.eval q).cells.toList.length with hh | hh
        · exact hh
        · rw [List.getElem?_eq_none hh] at hj; simp at hj
      obtain ⟨u, h2, h3⟩ := hx.get (List.getElem?_eq_getElem hjl)
      rw [hj] at h2
      injection h2 with h2
      subst h2
      exact oneC_ok h3 (hone _ (List.getElem_mem hjl))
    have := run_storeCells_at P g o E (a.eval q).cells.toList 0 cur w hw (by omega) h1
    have hsz : (a.eval q).cells.size = n := by rw [← Array.length_toList]; exact hl.symm
    simp only [Nat.add_zero] at this
    rw [← hl] at this
    simp [Instr.storeAt, Instr.sureAddr, storeVar, sizeT_some ht, hsz, this]
  simp only [hop] at he
  split at he
  · rename_i i off hev
    rw [hev] at hp; simp only [Rp] at hp
    obtain ⟨_, g, hφ, hu⟩ := hp
    split at he
    · rename_i cs hg
      split at he
      · rename_i hc
        obtain ⟨c1, c2, c3⟩ := hc
        injection he with he; injection he with e1 e2; subst e1; subst e2
        obtain ⟨g', us, E, hφ', hw, hgh, hr⟩ := box_cells hI hg
        rw [hφ] at hφ'
        injection hφ' with hφ'; injection hφ' with hφ'; injection hφ' with hφ'
        subst hφ'
        have hone : ∀ c ∈ cellsA (evO G s q), oneC c = true := fun c hc => List.all_eq_true.1 c3 c hc
        have hrl := hr.length
        rw [hu, run g off us E hw hone c1 (by simp only [Array.length_toList] at hrl; omega)]
        have hx := cellsA_ok (ev_ok hG hS q) hone
        have := set_row (o' := .box (cs.take off ++ cellsA (evO G s q) ++ cs.drop (off + n))) hI (getT_some hg) hw (by rw [hφ]; rfl)
          (new := (us.toList.take off ++ (a.eval q).cells.toList ++ us.toList.drop (off + n)).toArray)
          ⟨g, _, E, hφ, setRow_heap w g us _ E _ hw, hgh, by simpa using ((hr.take off).app hx).app (hr.drop (off + n))⟩
        exact ⟨_, rfl, rfl, this.2, this.1⟩
      · simp at he
    · simp at he
  · rename_i i k j off hev
    rw [hev] at hp; simp only [Rp] at hp
    obtain ⟨_, g, l, c, hφ, hu⟩ := hp
    split at he
    · rename_i k' es b hg
      split at he
      · rename_i hk
        subst hk
        split at he
        · rename_i e hj
          split at he
          · rename_i hc
            obtain ⟨c1, c2, c3⟩ := hc
            injection he with he; injection he with e1 e2; subst e1; subst e2
            have hclosed : ∀ c ∈ cellsA (evO G s q), okC b c = true := fun c hc => List.all_eq_true.1 c3 c hc
            have hone : ∀ c ∈ cellsA (evO G s q), oneC c = true := fun c hc => okC_one (hclosed c hc)
            obtain ⟨hl0, h1 | ⟨g', c', cur, E, hφ', hw, h2, h3, h4, h5, h6⟩⟩ := row_cells hI hg
            · rw [h1.choose_spec.2] at hj; simp at hj
            · rw [hφ] at hφ'
              injection hφ' with hφ' hl1 hc1; injection hφ' with hφ'; injection hφ' with hφ'
              subst hφ'; subst hc1
              have hl : ∀ e ∈ es, e.length = k := fun e he => (hl0 e he).1
              have hjl : j < es.length := by
                rcases Nat.lt_or_ge j es.length with hh | hh
                · exact hh
                · simp [List.getElem?_eq_none hh] at hj
              have hel : e.length = k := hl e (List.mem_of_getElem? hj)
              have hjk : (j + 1) * k ≤ es.length * k := Nat.mul_le_mul_right k hjl
              have hck : es.length * k ≤ (c' + 1) * k := Nat.mul_le_mul_right k h2
              rw [Nat.succ_mul] at hjk
              rw [hu, run g _ cur E hw hone c1 (by omega)]
              have hx := RpB.of (b := b) (cellsA_ok (ev_ok hG hS q) hone) hclosed
              have hflat := flat_set (x := cellsA (evO G s q)) hl hj (off := off) (n := n) (by omega)
              have hnl : ∀ d ∈ es.set j (e.take off ++ cellsA (evO G s q) ++ e.drop (off + n)), d.length = k ∧ ∀ c ∈ d, okC b c = true := by
                intro d hd
                rcases List.mem_or_eq_of_mem_set hd with hd | rfl
                · exact hl0 d hd
                · refine ⟨by simp only [List.length_append, List.length_take, List.length_drop]; omega, fun c hc => ?_⟩
                  have he0 := (hl0 e (List.mem_of_getElem? hj)).2
                  simp only [List.mem_append] at hc
                  rcases hc with (hc | hc) | hc
                  · exact he0 c (List.mem_of_mem_take hc)
                  · exact hclosed c hc
                  · exact he0 c (List.mem_of_mem_drop hc)
              have hxl := hx.length
              have hcl : (a.eval q).cells.toList.length = n := by omega
              have h6l := h6.length
              rw [flat_len hl] at h6l
              have hcur : es.length * k ≤ cur.toList.length := by rw [show cur.toList.length = cur.size from Array.length_toList, h4]; exact hck
              have hpm : j * k + off + n ≤ es.length * k := by omega
              have hnew : (cur.toList.take (j * k + off) ++ (a.eval q).cells.toList ++ cur.toList.drop (j * k + off + n)).length = (c' + 1) * k := by
                have e1 : cur.toList.length = (c' + 1) * k := by rw [show cur.toList.length = cur.size from Array.length_toList, h4]
                simp only [List.length_append, List.length_take, List.length_drop, hcl]
                omega
              have := set_row (o' := mkRows b k (es.set j (e.take off ++ cellsA (evO G s q) ++ e.drop (off + n)))) hI (getT_some (rowsA_some hg)) hw (by rw [hφ]; rfl)
                (new := (cur.toList.take (j * k + off) ++ (a.eval q).cells.toList ++ cur.toList.drop (j * k + off + n)).toArray)
                (objAt_rows.2 ⟨hnl, .inr ⟨g, c', _, E, by rw [hφ, List.length_set, hl1], setRow_heap w g cur _ E _ hw, by rw [List.length_set]; omega, by omega, by
                  rw [List.size_toArray]; exact hnew, h5, by
                  rw [hflat, List.length_set]
                  have := take_mid cur.toList (a.eval q).cells.toList (j * k + off) n (es.length * k) hpm hcur hcl
                  show RpB h φ T.length b _ (List.take _ (cur.toList.take (j * k + off) ++ (a.eval q).cells.toList ++ cur.toList.drop (j * k + off + n)))
                  rw [this]
                  exact ((h6.take _).app hx).app (h6.drop _)⟩⟩)
              exact ⟨_, rfl, rfl, this.2, this.1⟩
          · simp at he
        · simp at he
      · simp at he
    · simp at he
  · simp at he
end
end Hud
end
section
namespace Hud
open Go
theorem RpDE.vals {h : GH} {b k : Nat} : ∀ {es : List (List AV)} {o : Nat}, RpDE h b k es o →
    (∀ e ∈ es, e.length = k ∧ ∀ c ∈ e, closedA c = true) ∧ ∃ us, RpDL h es.flatten us ∧ ∀ j u, us[j]? = some u → cellG h b (o + j) = some u
  | [], o, _ => ⟨by simp, [], by simp [RpDL], fun j u hj => by simp at hj⟩
  | e :: es, o, hh => by
    simp only [RpDE] at hh
    obtain ⟨h1, h2, h3⟩ := hh
    obtain ⟨us, h4, h5⟩ := h2.vals
    obtain ⟨h6, vs, h7, h8⟩ := h3.vals
    refine ⟨fun d hd => ?_, us ++ vs, by rw [List.flatten_cons]; exact h4.app h7, fun j u hj => ?_⟩
    · rcases List.mem_cons.1 hd with rfl | hd
      · refine ⟨h1, fun c hc => ?_⟩
        obtain ⟨i, hi⟩ := List.getElem?_of_mem hc
        exact (h2.get hi).choose_spec.1
      · exact h6 d hd
    · have hl := h4.length
      rcases Nat.lt_or_ge j us.length with hlt | hge
      · rw [List.getElem?_append_left hlt] at hj; exact h5 j u hj
      · rw [List.getElem?_append_right hge] at hj
        have := h8 _ _ hj
        rw [← this]
        congr 1
        omega
section
variable {P : Program} {G : Nat → Option (List AV)} {h : GH} {φ : Nat → Value} {T : Tab} {w : World} {s : List (Nat × AV)} {a : Act}
theorem flat_drop {α : Type} {k : Nat} : ∀ {es : List (List α)}, (∀ e ∈ es, e.length = k) → ∀ (l : Nat), (es.drop l).flatten = es.flatten.drop (l * k)
  | [], _, l => by simp
  | e :: es, he, 0 => by simp
  | e :: es, he, l + 1 => by
    have h1 : e.length = k := he e (by simp)
    rw [List.drop_succ_cons, flat_drop (fun d hd => he d (by simp [hd])) l, List.flatten_cons, Nat.succ_mul, Nat.add_comm, ← List.drop_drop, ← h1]
    simp
theorem flat_take {α : Type} {k : Nat} : ∀ {es : List (List α)}, (∀ e ∈ es, e.length = k) → ∀ (l : Nat), (es.take l).flatten = es.flatten.take (l * k)
  | [], _, l => by simp
  | e :: es, he, 0 => by simp
  | e :: es, he, l + 1 => by
    have h1 : e.length = k := he e (by simp)
    rw [List.take_succ_cons, List.flatten_cons, flat_take (fun d hd => he d (by simp [hd])) l, List.flatten_cons, Nat.succ_mul, List.take_append, ← h1]
    congr 1
    · rw [List.take_of_length_le (by omega)]
    · congr 1; omega
theorem flat_sub {α : Type} {k : Nat} {es : List (List α)} (he : ∀ e ∈ es, e.length = k) (l m : Nat) : ((es.drop l).take m).flatten = (es.flatten.drop (l * k)).take (m * k) := by
  rw [flat_take (fun d hd => he d (List.mem_of_mem_drop hd)), flat_drop he]
def srcA (T : Tab) (k : Nat) : AV → Option (List (List AV) × Bool)
  | .ls k' es => if k = k' then some (es, true) else none
  | .own a => match rowsA (getT T a) with
    | some (k', es, b) => if k = k' then some (es, b) else none
    | _ => none
  | .v (.slice none 0 0) => some ([], true)
  | .vw a k' lo m => match rowsA (getT T a) with
    | some (k'', es, b) => if k = k' ∧ k = k'' ∧ lo + m ≤ es.length then some ((es.drop lo).take m, b) else none
    | _ => none
  | _ => none
theorem src_ok (hI : Inv h φ w T) {k : Nat} {x : AV} {u : Value} (hx : Rp h φ T.length x u) {new : List (List AV)} {b : Bool} (e : srcA T k x = some (new, b)) :
    (∀ e ∈ new, e.length = k ∧ ∀ c ∈ e, okC b c = true) ∧ ∃ A c news, u = .slice A new.length c ∧ RpB h φ T.length b new.flatten news ∧
      (new = [] ∨ ∃ b o, A = some ⟨b, o, none⟩ ∧ ∀ j v, news[j]? = some v → w.cell? ⟨b, o + j, none⟩ = some v) := by
  unfold srcA at e
  split at e
  · rename_i k' es
    split at e
    · rename_i hk
      subst hk
      injection e with e
      injection e with e1 e2
      subst e1; subst e2
      simp only [Rp, RpD] at hx
      obtain ⟨A, c, hu, _, _, h3⟩ := hx
      rcases h3 with rfl | ⟨b, o, rfl, hE⟩
      · exact ⟨by simp, A, c, [], hu, by simp [RpB, RpDL], .inl rfl⟩
      · obtain ⟨h4, us, h5, h6⟩ := hE.vals
        exact ⟨h4, _, c, us, hu, h5, .inr ⟨b, o, rfl, fun j v hj => cellG_of hI (h6 j v hj)⟩⟩
    · simp at e
  · rename_i i
    split at e
    · rename_i k' es b' hg
      split at e
      · rename_i hk
        subst hk
        injection e with e
        injection e with e1 e2
        subst e1; subst e2
        simp only [Rp] at hx
        obtain ⟨hl, h1 | ⟨g, c, cur, E, hφ, hw, h2, h3, h4, h5, h6⟩⟩ := row_cells hI hg
        · obtain ⟨A, h1, h2⟩ := h1
          rw [h2]
          exact ⟨by simp, A, 0, [], by rw [hx.2.1, h1]; rfl, by cases b' <;> simp [RpB, RpDL, RpL], .inl rfl⟩
        · refine ⟨hl, _, c + 1, _, by rw [hx.2.1, hφ], h6, .inr ⟨g, 0, rfl, fun j v hj => ?_⟩⟩
          rw [cell_of hw]
          rw [List.getElem?_take] at hj
          split at hj
          · rw [← hj]; simp
          · simp at hj
      · simp at e
    · simp at e
  · injection e with e
    injection e with e1 e2
    subst e1; subst e2
    simp only [Rp] at hx
    exact ⟨by simp, none, 0, [], hx, by simp [RpB, RpDL], .inl rfl⟩
  · rename_i i k' lo m
    split at e
    · rename_i k'' es b' hg
      split at e
      · rename_i hk
        obtain ⟨rfl, rfl, hlen⟩ := hk
        injection e with e
        injection e with e1 e2
        subst e1; subst e2
        simp only [Rp] at hx
        obtain ⟨_, A, c, hu, _, _, h0⟩ := hx
        obtain ⟨hl, h1⟩ := row_cells hI hg
        have hl' : ∀ d ∈ (es.drop lo).take m, d.length = k ∧ ∀ c ∈ d, okC b' c = true := fun d hd => hl d (List.mem_of_mem_drop (List.mem_of_mem_take hd))
        have hln : ((es.drop lo).take m).length = m := by rw [List.length_take, List.length_drop]; omega
        refine ⟨hl', ?_⟩
        have hnil : RpB h φ T.length b' [] [] := by cases b' <;> simp [RpB, RpDL, RpL]
        rcases h0 with rfl | ⟨g, l, c', hφ, rfl, hle⟩
        · exact ⟨A, c, [], by simpa using hu, by simpa using hnil, .inl (by simp)⟩
        · by_cases hm : m = 0
          · subst hm
            exact ⟨_, c, [], by simpa using hu, by simpa using hnil, .inl (by simp)⟩
          · rcases h1 with h1 | ⟨g', c2, cur, E, hφ', hw, h2, h3, h4, h5, h6⟩
            · obtain ⟨A, h1, rfl⟩ := h1
              simp at hlen
              omega
            · rw [hφ] at hφ'
              injection hφ' with e1 e2 e3
              injection e1 with e1
              injection e1 with e1
              subst e1
              refine ⟨_, c, ((cur.toList.take (es.length * k)).drop (lo * k)).take (m * k), by rw [hu, hln], ?_, .inr ⟨g, lo * k, rfl, fun j v hj => ?_⟩⟩
              · rw [flat_sub (fun d hd => (hl d hd).1)]
                exact (h6.drop _).take _
              · rw [cell_of hw]
                rw [List.getElem?_take] at hj
                split at hj
                · rw [List.getElem?_drop, List.getElem?_take] at hj
                  split at hj
                  · rw [← hj]; simp
                  · simp at hj
                · simp at hj
      · simp at e
    · simp at e
  · simp at e
theorem hop_app {ev : Operand → AV} {x y : Operand} {k bytes : Nat} {r : AV} {T' : Tab} (he : hop T ev (.app x y k bytes) = some (r, T')) :
    ∃ new b, srcA T k (ev y) = some (new, b) ∧
      ((ev x = .v (.slice none 0 0) ∧ new.length * bytes ≤ 140737488355328 ∧ new.length ≤ maxLen ∧ r = .own T.length ∧ T' = T ++ [some (mkRows b k new)]) ∨
       ∃ i es b', ev x = .own i ∧ rowsA (getT T i) = some (k, es, b') ∧ (es.length + new.length) * bytes ≤ 140737488355328 ∧ es.length + new.length ≤ maxLen ∧ r = .own T.length ∧ T' = T.set i none ++ [some (mkRows (b && b') k (es ++ new))]) := by
  simp only [hop] at he
  split at he
  · simp at he
  · rename_i new b hs
    refine ⟨new, b, ?_, ?_⟩
    · unfold srcA
      exact hs
    · split at he
      · rename_i hx
        split at he
        · rename_i hc
          injection he with he; injection he with e1 e2
          exact .inl ⟨hx, hc.1, hc.2, e1.symm, e2.symm⟩
        · simp at he
      · rename_i i hx
        split at he
        · rename_i k' es b' hg
          split at he
          · rename_i hc
            obtain ⟨rfl, hc1, hc2⟩ := hc
            injection he with he; injection he with e1 e2
            exact .inr ⟨i, es, b', hx, hg, hc1, hc2, e1.symm, e2.symm⟩
          · simp at he
        · simp at he
      · simp at he
theorem app_makes {t e ty : TypeId} (ht : P.underlying t = some (.slice e)) {i : TypeInfo} (hi : P.info? e = some i) {z : Value} (hz : i.zero = some z) (hzs : z.cells.size = i.size) (h0 : 0 < i.size)
    (hG : GOk G h) (hI : Inv h φ w T) (hS : SOk h φ T.length s a) {p q : Operand} {x : AV} {T' : Tab} (he : hop T (evO G s) (.app p q i.size i.bytes) = some (x, T')) :
    Makes h φ T w ((Builtin.append_ #[t, t] ty #[a.eval p, a.eval q]).run P w) x T' := by
  obtain ⟨new, fb, hsrc, hcase⟩ := hop_app he
  have hp := ev_ok hG hS p
  have hq := ev_ok hG hS q
  obtain ⟨hnew, A, c, news, hu, hnl, hcells⟩ := src_ok hI hq hsrc
  have hnlen : news.length = new.length * i.size := by rw [← hnl.length, flat_len fun d hd => (hnew d hd).1]
  have hone : ∀ v ∈ news, v.oneCell' = true := by
    intro v hv
    obtain ⟨j, hj⟩ := List.getElem?_of_mem hv
    have hjl : j < new.flatten.length := by
      rw [hnl.length]
      rcases Nat.lt_or_ge j news.length with hh | hh
      · exact hh
      · rw [List.getElem?_eq_none hh] at hj; simp at hj
    obtain ⟨u, h1, h2⟩ := hnl.toL.get (List.getElem?_eq_getElem hjl)
    rw [hj] at h1
    injection h1 with h1
    subst h1
    obtain ⟨d, hd, hcd⟩ := List.mem_flatten.1 (List.getElem_mem hjl)
    exact oneC_ok h2 (okC_one ((hnew d hd).2 _ hcd))
  have cap_cells : ∀ (m old : Nat) (xs : List Value), xs.length = m * i.size → m ≤ maxLen →
      (xs.toArray ++ Builtin.zeroCells z.cells (grownCap w m old e - m)).size = grownCap w m old e * i.size ∧ (xs.toArray ++ Builtin.zeroCells z.cells (grownCap w m old e - m)).toList.take (m * i.size) = xs ∧ m ≤ grownCap w m old e ∧ grownCap w m old e ≤ maxLen := by
    intro m old xs hxs hm
    have hge := grownCap_ge w m old e
    refine ⟨?_, ?_, hge, grownCap_le_maxLen w m old e hm⟩
    · simp only [Array.size_append, List.size_toArray, size_zeroCells, hzs, hxs, ← Nat.add_mul]
      congr 1
      omega
    · simp only [Array.toList_append]
      rw [← hxs]
      exact List.take_left
  rcases hcase with ⟨hx, hb, hm, rfl, rfl⟩ | ⟨j, es, b', hx, hg, hb, hm, rfl, rfl⟩
  ·
    rw [ev_v hG hS hx, hu]
    rcases hcells with rfl | ⟨b, o, rfl, hcell⟩
    · have : (Builtin.append_ #[t, t] ty #[.slice none 0 0, .slice A ([] : List (List AV)).length c]).run P w = .ok (.slice none 0 0) w := by
        cases A <;> simp [Builtin.append_, run_underlying ht, Go.sizeOf, typeInfo, hi, Builtin.lenOf, Builtin.firstCells, loadCells, loadCellsFrom]
      rw [this]
      have := inv_new (w' := w) (o := mkRows fb i.size []) (v := .slice none 0 0) hI rfl rfl rfl (Nat.le_refl _) (fun _ _ => rfl) (fun g hg => by simp [blk] at hg) (objAt_rows.2 ⟨by simp, .inl ⟨none, upd_self, rfl⟩⟩)
      refine ⟨_, w, h, _, rfl, this.2, this.1, ?_⟩
      simp only [Rp]
      exact ⟨by simp, upd_self.symm, _, _, _, rfl⟩
    · by_cases hn0 : new = []
      · subst hn0
        have : (Builtin.append_ #[t, t] ty #[.slice none 0 0, .slice (some ⟨b, o, none⟩) ([] : List (List AV)).length c]).run P w = .ok (.slice none 0 0) w := by
          simp [Builtin.append_, run_underlying ht, Go.sizeOf, typeInfo, hi, Builtin.lenOf, Builtin.firstCells, loadCells, loadCellsFrom]
        rw [this]
        have := inv_new (w' := w) (o := mkRows fb i.size []) (v := .slice none 0 0) hI rfl rfl rfl (Nat.le_refl _) (fun _ _ => rfl) (fun g hg => by simp [blk] at hg) (objAt_rows.2 ⟨by simp, .inl ⟨none, upd_self, rfl⟩⟩)
        refine ⟨_, w, h, _, rfl, this.2, this.1, ?_⟩
        simp only [Rp]
        exact ⟨by simp, upd_self.symm, _, _, _, rfl⟩
      · have hpos : 0 < new.length := List.length_pos_iff.2 hn0
        have hr := run_append_nil (P := P) w t ty e i z ht hi hz ⟨b, o, none⟩ new.length c news hnlen (fun j v hj => by rw [add_none]; exact hcell j v hj) hpos (by unfold maxLen at hm; omega) (by omega)
        rw [hr]
        obtain ⟨c1, c2, c3, c4⟩ := cap_cells new.length 0 news hnlen hm
        exact new_rows (w1 := w.drew) hI rfl rfl rfl rfl hnew rfl c3 c4 c1 (by rw [c2]; exact hnl) e
  ·
    rw [hx] at hp
    simp only [Rp] at hp
    obtain ⟨hl, h1 | ⟨g, cap, cur, E, hφ, hw, h2, h3, h4, h5, h6⟩⟩ := row_cells hI hg
    ·
      obtain ⟨A0, hφ, rfl⟩ := h1
      rw [hp.2.1, hφ, hu]
      simp only [List.nil_append, List.length_nil, Nat.zero_add] at hb hm ⊢
      obtain ⟨hI', hE'⟩ := inv_drop hI j
      have comb : ∀ {r : Result Value}, Makes h φ (T.set j none) w r (.own (T.set j none).length) (T.set j none ++ [some (mkRows (fb && b') i.size new)]) → Makes h φ T w r (.own T.length) (T.set j none ++ [some (mkRows (fb && b') i.size new)]) := by
        rintro r ⟨v, w', h', φ', m1, m2, m3, m4⟩
        rw [List.length_set] at m4
        exact ⟨v, w', h', φ', m1, hE'.trans m2, m3, m4⟩
      apply comb
      by_cases hn0 : new = []
      · subst hn0
        have : (Builtin.append_ #[t, t] ty #[.slice A0 0 0, .slice A ([] : List (List AV)).length c]).run P w = .ok (.slice A0 0 0) w := by
          cases A0 <;> cases A <;> simp [Builtin.append_, run_underlying ht, Go.sizeOf, typeInfo, hi, Builtin.lenOf, Builtin.firstCells, loadCells, loadCellsFrom, storeCells]
        rw [this]
        have := inv_new (w' := w) (o := mkRows (fb && b') i.size []) (v := .slice A0 0 0) hI' rfl rfl rfl (Nat.le_refl _) (fun _ _ => rfl) (fun g hg => by simp [blk] at hg) (objAt_rows.2 ⟨by simp, .inl ⟨A0, upd_self, rfl⟩⟩)
        refine ⟨_, w, h, _, rfl, this.2, this.1, ?_⟩
        simp only [Rp]
        exact ⟨by simp, upd_self.symm, _, _, _, rfl⟩
      · have hpos : 0 < new.length := List.length_pos_iff.2 hn0
        rcases hcells with rfl | ⟨b, o, rfl, hcell⟩
        · exact absurd rfl hn0
        · cases A0 with
          | none =>
            have hr := run_append_nil (P := P) w t ty e i z ht hi hz ⟨b, o, none⟩ new.length c news hnlen (fun j v hj => by rw [add_none]; exact hcell j v hj) hpos (by unfold maxLen at hm; omega) (by omega)
            rw [hr]
            obtain ⟨c1, c2, c3, c4⟩ := cap_cells new.length 0 news hnlen hm
            exact new_rows (w1 := w.drew) hI' rfl rfl rfl rfl (fun d hd => ⟨(hnew d hd).1, fun c hc => okC_weaken ((hnew d hd).2 c hc) (fun hh => (Bool.and_eq_true _ _ ▸ hh : fb = true ∧ b' = true).1)⟩) rfl c3 c4 c1 (by rw [c2, List.length_set]; exact hnl.weaken (fun hh => (Bool.and_eq_true _ _ ▸ hh : fb = true ∧ b' = true).1)) e
          | some a0 =>
            have hr := run_append_grow (P := P) w t ty e i z ht hi hz a0 0 0 [] (by simp) (fun j v hj => by simp at hj) ⟨b, o, none⟩ new.length c news hnlen (fun j v hj => by rw [add_none]; exact hcell j v hj) (by omega) (by unfold maxLen at hm; omega) (growslice_fits (by omega) (by simpa using hb))
            rw [hr]
            obtain ⟨c1, c2, c3, c4⟩ := cap_cells new.length 0 news hnlen hm
            simp only [Nat.zero_add, Array.empty_append] at *
            exact new_rows (w1 := w.drew) hI' rfl rfl rfl rfl (fun d hd => ⟨(hnew d hd).1, fun c hc => okC_weaken ((hnew d hd).2 c hc) (fun hh => (Bool.and_eq_true _ _ ▸ hh : fb = true ∧ b' = true).1)⟩) rfl c3 c4 c1 (by rw [c2, List.length_set]; exact hnl.weaken (fun hh => (Bool.and_eq_true _ _ ▸ hh : fb = true ∧ b' = true).1)) e
    · rw [hp.2.1, hφ, hu]
      have holen : (cur.toList.take (es.length * i.size)).length = es.length * i.size := by rw [← h6.length, flat_len fun d hd => (hl d hd).1]
      have hbb : (fb && b') = true → fb = true ∧ b' = true := fun hh => by simpa using hh
      have hboth : ∀ d ∈ es ++ new, d.length = i.size ∧ ∀ c ∈ d, okC (fb && b') c = true := by
        intro d hd
        rcases List.mem_append.1 hd with hd | hd
        · exact ⟨(hl d hd).1, fun c hc => okC_weaken ((hl d hd).2 c hc) fun hh => (hbb hh).2⟩
        · exact ⟨(hnew d hd).1, fun c hc => okC_weaken ((hnew d hd).2 c hc) fun hh => (hbb hh).1⟩
      have hbothL : RpB h φ T.length (fb && b') (es ++ new).flatten (cur.toList.take (es.length * i.size) ++ news) := by rw [List.flatten_append]; exact (h6.weaken fun hh => (hbb hh).2).app (hnl.weaken fun hh => (hbb hh).1)
      by_cases hroom : es.length + new.length ≤ cap + 1
      ·
        have hf : (Builtin.firstCells i.size new.length (.slice A new.length c)).run P w = .ok news.toArray w := by
          rcases hcells with rfl | ⟨b, o, rfl, hcell⟩
          · have : news = [] := List.eq_nil_of_length_eq_zero (by simpa using hnlen)
            subst this
            cases A <;> simp [Builtin.firstCells, loadCells, loadCellsFrom]
          · exact run_firstCells_some w i.size new.length ⟨b, o, none⟩ _ _ news hnlen fun j v hj => by rw [add_none]; exact hcell j v hj
        have hfit : es.length * i.size + news.length ≤ cur.size := by rw [hnlen, h4, ← Nat.add_mul]; exact Nat.mul_le_mul_right _ hroom
        have hst := run_storeCells_at P g (es.length * i.size) E news 0 cur w hw (by simpa using hfit) hone
        simp only [Nat.add_zero] at hst
        have hrun : (Builtin.append_ #[t, t] ty #[.slice (some ⟨g, 0, none⟩) es.length (cap + 1), .slice A new.length c]).run P w =
            .ok (.slice (some ⟨g, 0, none⟩) (es.length + new.length) (cap + 1)) (w.setRow g (cur.toList.take (es.length * i.size) ++ news ++ cur.toList.drop (es.length * i.size + news.length)).toArray) := by
          simp [Builtin.append_, run_underlying ht, Go.sizeOf, typeInfo, hi, Builtin.lenOf, hroom, hf, add_none, hst]
        rw [hrun]
        have hI1 := inv_drop hI j
        have hgt := getT_some (rowsA_some hg)
        refine ⟨_, _, h, upd φ T.length (.slice (some ⟨g, 0, none⟩) (es.length + new.length) (cap + 1)), rfl, ?_, ?_, ?_⟩
        · refine ⟨rfl, rfl, rfl, by simp, fun b hb hne => setRow_other w g b _ fun e => hne j _ hgt (by rw [hφ, e]; rfl), GLe.refl h, fun _ _ e => .inl e, fun m hm => upd_lt hm, fun m o b em hbl => ?_, by simp, Nat.le_refl _⟩
          rcases get_append em with ⟨hm', em'⟩ | ⟨rfl, em'⟩
          · rw [List.length_set] at hm'
            rw [upd_lt hm'] at hbl
            rcases get_set em' with ⟨_, e'⟩ | ⟨_, e'⟩
            · simp at e'
            · exact .inr ⟨m, o, e', hbl⟩
          · rw [List.length_set, upd_self] at hbl
            simp only [blk, Option.some.injEq] at hbl
            exact .inr ⟨j, _, hgt, by rw [hφ]; simp [blk, hbl]⟩
        · refine ⟨fun b cs eb => ?_, fun m o em => ?_, fun m m' o o' b em em' hbm hbm' => ?_⟩
          · obtain ⟨E', fr, hb'⟩ := hI.gh b cs eb
            refine ⟨E', fr, ?_⟩
            rw [setRow_other w g b _ fun e => by subst e; rw [h5] at eb; simp at eb]
            exact hb'
          · rcases get_append em with ⟨hm', em'⟩ | ⟨rfl, em'⟩
            · rw [List.length_set] at hm'
              rcases get_set em' with ⟨_, e'⟩ | ⟨hne, e'⟩
              · simp at e'
              · rw [List.length_append, List.length_set]
                have h7 := hI.obj m o e'
                refine objAt_keep h7 (GLe.refl h) (by simp) (fun j hj => upd_lt hj) hm' fun b hb' => ?_
                obtain ⟨h8, h9⟩ := objAt_blk h7 hb'
                refine ⟨setRow_other w g b _ fun e => hne (hI.dis m j o _ b e' hgt hb' (by rw [hφ, e]; rfl)), h9⟩
            · injection em' with em'
              subst em'
              rw [List.length_set, List.length_append, List.length_set]
              refine objAt_rows.2 ⟨hboth, .inr ⟨g, cap, _, E, by rw [upd_self, List.length_append], setRow_heap w g cur _ E _ hw, by rw [List.length_append]; exact hroom, h3, ?_, h5, ?_⟩⟩
              · rw [List.size_toArray]
                simp only [List.length_append, List.length_drop, holen]
                rw [show cur.toList.length = cur.size from Array.length_toList, ← h4]
                omega
              · have hlen2 : (cur.toList.take (es.length * i.size) ++ news).length = (es ++ new).length * i.size := by rw [List.length_append, holen, hnlen, List.length_append, Nat.add_mul]
                show RpB h _ _ (fb && b') _ (List.take _ (cur.toList.take (es.length * i.size) ++ news ++ cur.toList.drop (es.length * i.size + news.length)))
                rw [← hlen2, List.take_left]
                exact hbothL.mono (GLe.refl h) (by simp) fun i hi => upd_lt hi
          · rcases get_append em with ⟨hm1, em1⟩ | ⟨rfl, em1⟩ <;> rcases get_append em' with ⟨hm2, em2⟩ | ⟨rfl, em2⟩
            · rw [List.length_set] at hm1 hm2
              rw [upd_lt hm1] at hbm; rw [upd_lt hm2] at hbm'
              exact hI1.1.dis m m' o o' b em1 em2 hbm hbm'
            · rw [List.length_set] at hm1 hbm'
              rw [upd_lt hm1] at hbm; rw [upd_self] at hbm'
              simp only [blk, Option.some.injEq] at hbm'
              rcases get_set em1 with ⟨_, e'⟩ | ⟨hne, e'⟩
              · simp at e'
              · exact absurd (hI.dis m j o _ b e' hgt hbm (by rw [hφ, ← hbm']; rfl)) hne
            · rw [List.length_set] at hm2 hbm
              rw [upd_lt hm2] at hbm'; rw [upd_self] at hbm
              simp only [blk, Option.some.injEq] at hbm
              rcases get_set em2 with ⟨_, e'⟩ | ⟨hne, e'⟩
              · simp at e'
              · exact absurd (hI.dis m' j o' _ b e' hgt hbm' (by rw [hφ, ← hbm]; rfl)) hne
            · rfl
        · simp only [Rp]
          rw [List.length_append, List.length_set]
          exact ⟨by simp, by rw [upd_self], _, _, _, rfl⟩
      ·
        have hne : new ≠ [] := by rintro rfl; simp at hroom; omega
        rcases hcells with rfl | ⟨b, o, rfl, hcell⟩
        · exact absurd rfl hne
        · have holds : ∀ j v, (cur.toList.take (es.length * i.size))[j]? = some v → w.cell? ((⟨g, 0, none⟩ : Addr).add j) = some v := by
            intro j v hj
            rw [add_none, cell_of hw]
            rw [List.getElem?_take] at hj
            split at hj
            · rw [← hj]; simp
            · simp at hj
          have hr := run_append_grow (P := P) w t ty e i z ht hi hz ⟨g, 0, none⟩ es.length (cap + 1) _ holen holds ⟨b, o, none⟩ new.length c news hnlen (fun j v hj => by rw [add_none]; exact hcell j v hj) (by omega) (by unfold maxLen at hm; omega) (growslice_fits (by omega) hb)
          rw [hr]
          obtain ⟨hI', hE'⟩ := inv_drop hI j
          have comb : ∀ {r : Result Value}, Makes h φ (T.set j none) w r (.own (T.set j none).length) (T.set j none ++ [some (mkRows (fb && b') i.size (es ++ new))]) → Makes h φ T w r (.own T.length) (T.set j none ++ [some (mkRows (fb && b') i.size (es ++ new))]) := by
            rintro r ⟨v, w', h', φ', m1, m2, m3, m4⟩
            rw [List.length_set] at m4
            exact ⟨v, w', h', φ', m1, hE'.trans m2, m3, m4⟩
          apply comb
          have hxs : (cur.toList.take (es.length * i.size) ++ news).length = (es.length + new.length) * i.size := by rw [List.length_append, holen, hnlen, Nat.add_mul]
          obtain ⟨c1, c2, c3, c4⟩ := cap_cells (es.length + new.length) (cap + 1) (cur.toList.take (es.length * i.size) ++ news) hxs hm
          have heq : (cur.toList.take (es.length * i.size)).toArray ++ news.toArray = (cur.toList.take (es.length * i.size) ++ news).toArray := by simp
          rw [heq]
          exact new_rows (w1 := w.drew) hI' rfl rfl rfl rfl hboth (by simp) c3 c4 c1 (by rw [c2, List.length_set]; exact hbothL) e
end
end Hud
end
section
namespace Hud
open Go
theorem addN_pre : ∀ (xs L : List Nat), ∃ l, addN L xs = L ++ l
  | [], L => ⟨[], by simp [addN]⟩
  | i :: r, L => by
    simp only [addN]
    split
    · exact addN_pre r L
    · obtain ⟨l, h⟩ := addN_pre r (L ++ [i])
      exact ⟨i :: l, by rw [h]; simp⟩
theorem addN_nodup : ∀ (xs L : List Nat), L.Nodup → (addN L xs).Nodup
  | [], L, h => h
  | i :: r, L, h => by
    simp only [addN]
    split
    · exact addN_nodup r L h
    · rename_i hc
      refine addN_nodup r _ (List.nodup_append.2 ⟨h, by simp, fun a ha b hb => ?_⟩)
      simp only [List.mem_singleton] at hb
      subst hb
      rintro rfl
      exact hc (by simpa using ha)
theorem rounds_pre (T : Tab) : ∀ (R : Tab) (L : List Nat), ∃ l, rounds T R L = L ++ l
  | [], L => ⟨[], by simp [rounds]⟩
  | _ :: R, L => by
    obtain ⟨l, h⟩ := addN_pre (idsM T L) L
    obtain ⟨l', h'⟩ := rounds_pre T R (addN L (idsM T L))
    exact ⟨l ++ l', by simp only [rounds]; rw [h', h]; simp⟩
theorem rounds_nodup (T : Tab) : ∀ (R : Tab) (L : List Nat), L.Nodup → (rounds T R L).Nodup
  | [], _, h => h
  | _ :: R, L, h => by
    simp only [rounds]
    exact rounds_nodup T R _ (addN_nodup _ _ h)
theorem reach_nodup (T : Tab) (ids : List Nat) : (reach T ids).Nodup := rounds_nodup T T _ (addN_nodup _ _ (by simp))
theorem addN_range : ∀ (m k : Nat) (more : List Nat), ∃ l, addN (List.range k) (List.range' k m ++ more) = List.range (k + m) ++ l
  | 0, k, more => by simpa using addN_pre more (List.range k)
  | m + 1, k, more => by
    simp only [List.range'_succ, List.cons_append, addN]
    rw [if_neg (by simp)]
    have := addN_range m (k + 1) more
    rw [List.range_succ] at this
    rw [show k + (m + 1) = k + 1 + m from by omega]
    exact this
theorem reach_range (T : Tab) (r : Nat) (more : List Nat) : ∃ l, reach T (List.range r ++ more) = List.range r ++ l := by
  obtain ⟨l, h⟩ := addN_range r 0 more
  obtain ⟨l', h'⟩ := rounds_pre T T (addN [] (List.range r ++ more))
  refine ⟨l ++ l', ?_⟩
  unfold reach
  rw [h']
  simp only [List.range_zero, Nat.zero_add] at h
  rw [List.range_eq_range', h, ← List.range_eq_range']
  simp
theorem idx_some {L : List Nat} {i j : Nat} (e : idx L i = some j) : L[j]? = some i := by
  unfold idx at e
  induction L generalizing j with
  | nil => simp at e
  | cons a L ih =>
    rw [List.idxOf?_cons] at e
    split at e
    · rename_i ha
      injection e with e
      subst e
      simp at ha
      simp [ha]
    · cases h : List.idxOf? i L with
      | none => simp [h] at e
      | some k => simp [h] at e; subst e; simp [ih h]
theorem idx_lt {L : List Nat} {i j : Nat} (e : idx L i = some j) : j < L.length := by
  have := idx_some e
  rcases Nat.lt_or_ge j L.length with h | h
  · exact h
  · simp [List.getElem?_eq_none h] at this
section
variable {h h' : GH} {φ φc : Nat → Value} {n : Nat}
def Names (L : List Nat) (φ φc : Nat → Value) : Prop := ∀ j i, L[j]? = some i → φc j = φ i
mutual
theorem rnA_ok {L : List Nat} (hφ : Names L φ φc) : ∀ {x : AV} {u : Value}, Rp h φ n x u → Rp h φc L.length (rnA L x) u
  | .v _, _, e => by simpa [Rp, rnA] using e
  | .ls _ _, _, e => by simp only [Rp, rnA] at *; exact e
  | .ag cs, _, e => by simp only [Rp, rnA] at *; obtain ⟨us, h1, h2⟩ := e; exact ⟨us, h1, rnL_ok hφ h2⟩
  | .own i, _, e => by
    simp only [Rp, rnA] at *
    split
    · rename_i j hj
      simp only [Rp]
      exact ⟨idx_lt hj, by rw [hφ _ _ (idx_some hj)]; exact e.2.1, e.2.2⟩
    · simp [Rp]
  | .ptr i o, _, e => by
    simp only [Rp, rnA] at *
    split
    · rename_i j hj
      simp only [Rp]
      exact ⟨idx_lt hj, by rw [hφ _ _ (idx_some hj)]; exact e.2⟩
    · simp [Rp]
  | .elt i k m o, _, e => by
    simp only [Rp, rnA] at *
    split
    · rename_i j hj
      simp only [Rp]
      exact ⟨idx_lt hj, by rw [hφ _ _ (idx_some hj)]; exact e.2⟩
    · simp [Rp]
  | .vw i k m o, _, e => by
    simp only [Rp, rnA] at *
    split
    · rename_i j hj
      simp only [Rp]
      exact ⟨idx_lt hj, by rw [hφ _ _ (idx_some hj)]; exact e.2⟩
    · simp [Rp]
  | .mp i, _, e => by
    simp only [Rp, rnA] at *
    split
    · rename_i j hj
      simp only [Rp]
      exact ⟨idx_lt hj, by rw [hφ _ _ (idx_some hj)]; exact e.2.1, e.2.2⟩
    · simp [Rp]
  | .yl i, _, e => by
    simp only [Rp, rnA] at *
    split
    · rename_i j hj
      simp only [Rp]
      exact ⟨idx_lt hj, by rw [hφ _ _ (idx_some hj)]; exact e.2.1, e.2.2⟩
    · simp [Rp]
  | .rp _, _, e => by simp only [Rp, rnA] at *; exact e
  | .cl f cs, _, e => by simp only [Rp, rnA] at *; obtain ⟨us, h1, h2⟩ := e; exact ⟨us, h1, rnL_ok hφ h2⟩
  | .bm f kk cs, _, e => by simp only [Rp, rnA] at *; obtain ⟨us, h1, h2⟩ := e; exact ⟨us, h1, rnL_ok hφ h2⟩
  | .tup cs, _, e => by simp only [Rp, rnA] at *; obtain ⟨us, h1, h2⟩ := e; exact ⟨us, h1, rnL_ok hφ h2⟩
  | .any, _, _ => by simp [Rp, rnA]
theorem rnL_ok {L : List Nat} (hφ : Names L φ φc) : ∀ {cs : List AV} {us : List Value}, RpL h φ n cs us → RpL h φc L.length (rnL L cs) us
  | [], _, e => by simpa [RpL, rnL] using e
  | c :: cs, us, e => by
    simp only [RpL, rnL] at *
    obtain ⟨u, us', h1, h2, h3⟩ := e
    exact ⟨u, us', h1, rnA_ok hφ h2, rnL_ok hφ h3⟩
end
theorem rnS_ok {L : List Nat} (hφ : Names L φ φc) {f : Nat → Value} : ∀ {s : List (Nat × AV)}, (∀ p ∈ s, Rp h φ n p.2 (f p.1)) → ∀ p ∈ rnS L s, Rp h φc L.length p.2 (f p.1)
  | [], _, p, hp => by simp [rnS] at hp
  | (i, x) :: s, hs, p, hp => by
    simp only [rnS] at hp
    rcases List.mem_cons.1 hp with rfl | hp
    · exact rnA_ok hφ (hs (i, x) (by simp))
    · exact rnS_ok hφ (fun q hq => hs q (by simp [hq])) p hp
theorem mem_rnS {L : List Nat} {i : Nat} {y : AV} : ∀ {s : List (Nat × AV)}, (i, y) ∈ rnS L s → ∃ x, (i, x) ∈ s ∧ y = rnA L x
  | [], h => by simp [rnS] at h
  | (j, x) :: s, h => by
    simp only [rnS] at h
    rcases List.mem_cons.1 h with h | h
    · injection h with h1 h2; subst h1; subst h2; exact ⟨x, by simp, rfl⟩
    · obtain ⟨x', h1, h2⟩ := mem_rnS h; exact ⟨x', by simp [h1], h2⟩
theorem rnL_len {L : List Nat} : ∀ (cs : List AV), (rnL L cs).length = cs.length
  | [] => rfl
  | c :: cs => by simp [rnL, rnL_len cs]
theorem rnF_flat {L : List Nat} : ∀ (es : List (List AV)), (rnF L es).flatten = rnL L es.flatten
  | [] => rfl
  | e :: es => by
    have app : ∀ (a b : List AV), rnL L (a ++ b) = rnL L a ++ rnL L b := by
      intro a b
      induction a with
      | nil => rfl
      | cons c a ih => simp [rnL, ih]
    simp only [rnF, List.flatten_cons, rnF_flat es, app]
theorem rnF_len {L : List Nat} : ∀ (es : List (List AV)), (rnF L es).length = es.length
  | [] => rfl
  | e :: es => by simp [rnF, rnF_len es]
theorem mem_rnF {L : List Nat} {d : List AV} : ∀ {es : List (List AV)}, d ∈ rnF L es → ∃ e ∈ es, d = rnL L e
  | [], h => by simp [rnF] at h
  | e :: es, h => by
    simp only [rnF] at h
    rcases List.mem_cons.1 h with rfl | h
    · exact ⟨e, by simp, rfl⟩
    · obtain ⟨e', h1, h2⟩ := mem_rnF h; exact ⟨e', by simp [h1], h2⟩
theorem rnO_ok {L : List Nat} (hφ : Names L φ φc) {w : World} {i j : Nat} {o o' : AObj} (hj : L[j]? = some i) (ho : rnO L o = some o') (e : objAt h φ n w i o) : objAt h φc L.length w j o' := by
  have hij := hφ j i hj
  cases o with
  | box cs =>
    simp only [rnO, Option.some.injEq] at ho
    subst ho
    obtain ⟨g, us, E, h1, h2, h3, h4⟩ := e
    exact ⟨g, us, E, by rw [hij]; exact h1, h2, h3, rnL_ok hφ h4⟩
  | arr k es =>
    simp only [rnO, Option.some.injEq] at ho
    subst ho
    obtain ⟨h0, h1 | ⟨g, c, cur, E, h1, h2⟩⟩ := e
    · exact ⟨h0, .inl (by rw [hij]; exact h1)⟩
    · exact ⟨h0, .inr ⟨g, c, cur, E, by rw [hij]; exact h1, h2⟩⟩
  | arf k es =>
    simp only [rnO] at ho
    split at ho
    · rename_i hone
      injection ho with ho
      subst ho
      obtain ⟨h0, h1 | ⟨g, c, cur, E, h1, h2, h3, h4, h5, h6, h7⟩⟩ := e
      · refine ⟨fun d hd => ?_, .inl (by rw [hij]; obtain ⟨A, hA, rfl⟩ := h1; exact ⟨A, hA, rfl⟩)⟩
        obtain ⟨_, _, rfl⟩ := h1
        simp [rnF] at hd
      · refine ⟨fun d hd => ?_, .inr ⟨g, c, cur, E, by rw [hij, rnF_len]; exact h1, h2, by rw [rnF_len]; exact h3, h4, h5, h6, by rw [rnF_flat, rnF_len]; exact rnL_ok hφ h7⟩⟩
        obtain ⟨e', he', rfl⟩ := mem_rnF hd
        refine ⟨by rw [rnL_len]; exact (h0 e' he').1, fun c hc => ?_⟩
        exact List.all_eq_true.1 (List.all_eq_true.1 hone _ hd) c hc
    · simp at ho
  | map ag ks vs bs cl =>
    simp only [rnO, Option.some.injEq] at ho
    subst ho
    obtain ⟨g, ens, h1, h2, h3, h4, h5, h6⟩ := e
    exact ⟨g, ens, by rw [hij]; exact h1, h2, h3, h4, h5, rnL_ok hφ h6⟩
  | lp r s =>
    simp only [rnO, Option.some.injEq] at ho
    subst ho
    obtain ⟨g, h1, h2, h3, h4, h5⟩ := e
    refine ⟨g, by rw [hij]; exact h1, h2, h3, fun a x y hx hy => ?_, rnS_ok (f := fun j => r.tmps.getD j undef) hφ h5⟩
    obtain ⟨x', h6, rfl⟩ := mem_rnS hx
    obtain ⟨y', h7, rfl⟩ := mem_rnS hy
    rw [h4 a x' y' h6 h7]
  | mit m since seen st =>
    obtain ⟨g, mo, h1, h2, h3, h4⟩ := e
    cases m with
    | none =>
      simp only [rnO, Option.some.injEq] at ho
      subst ho
      exact ⟨g, mo, by rw [hij]; exact h1, h2, h3, h4⟩
    | some m =>
      simp only [rnO] at ho
      split at ho
      · rename_i m' hm
        injection ho with ho
        subst ho
        obtain ⟨b, h5, h6, h7⟩ := h4
        exact ⟨g, mo, by rw [hij]; exact h1, h2, h3, b, h5, idx_lt hm, by rw [hφ _ _ (idx_some hm)]; exact h7⟩
      · simp at ho
theorem rnT_get {L : List Nat} {T : Tab} {j : Nat} {o : AObj} (e : (rnT L T)[j]? = some (some o)) : ∃ i o', L[j]? = some i ∧ T[i]? = some (some o') ∧ rnO L o' = some o := by
  unfold rnT at e
  rw [List.getElem?_map] at e
  cases hj : L[j]? with
  | none => simp [hj] at e
  | some i =>
    simp only [hj, Option.map_some, Option.some.injEq] at e
    cases hg : getT T i with
    | none => simp [hg] at e
    | some o' =>
      simp only [hg, Option.bind_some] at e
      exact ⟨i, o', rfl, getT_some hg, e⟩
theorem inv_rn {L : List Nat} (hL : L.Nodup) {T : Tab} {w : World} (hI : Inv h φ w T) (hφ : Names L φ φc) : Inv h φc w (rnT L T) := by
  have hlen : (rnT L T).length = L.length := by simp [rnT]
  refine ⟨hI.gh, fun j o e => ?_, fun j j' o o' b e e' hb hb' => ?_⟩
  · obtain ⟨i, o', hj, hi, ho⟩ := rnT_get e
    rw [hlen]
    exact rnO_ok hφ hj ho (hI.obj i o' hi)
  · obtain ⟨i, x, hj, hi, _⟩ := rnT_get e
    obtain ⟨i', x', hj', hi', _⟩ := rnT_get e'
    rw [hφ _ _ hj] at hb
    rw [hφ _ _ hj'] at hb'
    have := hI.dis i i' x x' b hi hi' hb hb'
    subst this
    have hlt : j < L.length := by
      rcases Nat.lt_or_ge j L.length with hh | hh
      · exact hh
      · simp [List.getElem?_eq_none hh] at hj
    exact (List.getElem?_inj hlt hL).1 (by rw [hj, hj'])
theorem bk_lt {L : List Nat} {j i : Nat} (hj : L[j]? = some i) : bk L n j = i := by
  have hlt : j < L.length := by
    rcases Nat.lt_or_ge j L.length with hh | hh
    · exact hh
    · simp [List.getElem?_eq_none hh] at hj
  unfold bk
  rw [if_pos hlt, List.getD_eq_getElem?_getD, hj]
  rfl
theorem bk_ge {L : List Nat} {j : Nat} (hj : L.length ≤ j) : bk L n j = n + (j - L.length) := by unfold bk; rw [if_neg (by omega)]
mutual
theorem bkA_ok {L : List Nat} {m m' : Nat} (hφ : ∀ j, j < m → φ (bk L n j) = φc j ∧ bk L n j < m') : ∀ {x : AV} {u : Value}, Rp h φc m x u → Rp h φ m' (bkA L n x) u
  | .v _, _, e => by simpa [Rp, bkA] using e
  | .ls _ _, _, e => by simp only [Rp, bkA] at *; exact e
  | .ag cs, _, e => by simp only [Rp, bkA] at *; obtain ⟨us, h1, h2⟩ := e; exact ⟨us, h1, bkL_ok hφ h2⟩
  | .own i, _, e => by
    simp only [Rp, bkA] at *
    obtain ⟨h1, h2⟩ := hφ i e.1
    exact ⟨h2, by rw [h1]; exact e.2.1, e.2.2⟩
  | .ptr i o, _, e => by
    simp only [Rp, bkA] at *
    obtain ⟨h1, h2⟩ := hφ i e.1
    exact ⟨h2, by rw [h1]; exact e.2⟩
  | .elt i k j o, _, e => by
    simp only [Rp, bkA] at *
    obtain ⟨h1, h2⟩ := hφ i e.1
    exact ⟨h2, by rw [h1]; exact e.2⟩
  | .vw i k j o, _, e => by
    simp only [Rp, bkA] at *
    obtain ⟨h1, h2⟩ := hφ i e.1
    exact ⟨h2, by rw [h1]; exact e.2⟩
  | .mp i, _, e => by
    simp only [Rp, bkA] at *
    obtain ⟨h1, h2⟩ := hφ i e.1
    exact ⟨h2, by rw [h1]; exact e.2.1, e.2.2⟩
  | .yl i, _, e => by
    simp only [Rp, bkA] at *
    obtain ⟨h1, h2⟩ := hφ i e.1
    exact ⟨h2, by rw [h1]; exact e.2.1, e.2.2⟩
  | .rp _, _, e => by simp only [Rp, bkA] at *; exact e
  | .cl f cs, _, e => by simp only [Rp, bkA] at *; obtain ⟨us, h1, h2⟩ := e; exact ⟨us, h1, bkL_ok hφ h2⟩
  | .bm f kk cs, _, e => by simp only [Rp, bkA] at *; obtain ⟨us, h1, h2⟩ := e; exact ⟨us, h1, bkL_ok hφ h2⟩
  | .tup cs, _, e => by simp only [Rp, bkA] at *; obtain ⟨us, h1, h2⟩ := e; exact ⟨us, h1, bkL_ok hφ h2⟩
  | .any, _, _ => by simp [Rp, bkA]
theorem bkL_ok {L : List Nat} {m m' : Nat} (hφ : ∀ j, j < m → φ (bk L n j) = φc j ∧ bk L n j < m') : ∀ {cs : List AV} {us : List Value}, RpL h φc m cs us → RpL h φ m' (bkL L n cs) us
  | [], _, e => by simpa [RpL, bkL] using e
  | c :: cs, us, e => by
    simp only [RpL, bkL] at *
    obtain ⟨u, us', h1, h2, h3⟩ := e
    exact ⟨u, us', h1, bkA_ok hφ h2, bkL_ok hφ h3⟩
end
theorem bkS_ok {L : List Nat} {m m' : Nat} (hφ : ∀ j, j < m → φ (bk L n j) = φc j ∧ bk L n j < m') {f : Nat → Value} : ∀ {s : List (Nat × AV)}, (∀ p ∈ s, Rp h φc m p.2 (f p.1)) → ∀ p ∈ bkS L n s, Rp h φ m' p.2 (f p.1)
  | [], _, p, hp => by simp [bkS] at hp
  | (i, x) :: s, hs, p, hp => by
    simp only [bkS] at hp
    rcases List.mem_cons.1 hp with rfl | hp
    · exact bkA_ok hφ (hs (i, x) (by simp))
    · exact bkS_ok hφ (fun q hq => hs q (by simp [hq])) p hp
theorem mem_bkS {L : List Nat} {i : Nat} {y : AV} : ∀ {s : List (Nat × AV)}, (i, y) ∈ bkS L n s → ∃ x, (i, x) ∈ s ∧ y = bkA L n x
  | [], h => by simp [bkS] at h
  | (j, x) :: s, h => by
    simp only [bkS] at h
    rcases List.mem_cons.1 h with h | h
    · injection h with h1 h2; subst h1; subst h2; exact ⟨x, by simp, rfl⟩
    · obtain ⟨x', h1, h2⟩ := mem_bkS h; exact ⟨x', by simp [h1], h2⟩
theorem bkL_len {L : List Nat} : ∀ (cs : List AV), (bkL L n cs).length = cs.length
  | [] => rfl
  | c :: cs => by simp [bkL, bkL_len cs]
theorem one_bk {L : List Nat} : ∀ {c : AV}, oneC (bkA L n c) = oneC c := by
  intro c
  cases c <;> simp only [bkA] <;> simp [oneC]
theorem bkF_flat {L : List Nat} : ∀ (es : List (List AV)), (bkF L n es).flatten = bkL L n es.flatten
  | [] => rfl
  | e :: es => by
    have app : ∀ (a b : List AV), bkL L n (a ++ b) = bkL L n a ++ bkL L n b := by
      intro a b
      induction a with
      | nil => rfl
      | cons c a ih => simp [bkL, ih]
    simp only [bkF, List.flatten_cons, bkF_flat es, app]
theorem bkF_len {L : List Nat} : ∀ (es : List (List AV)), (bkF L n es).length = es.length
  | [] => rfl
  | e :: es => by simp [bkF, bkF_len es]
theorem mem_bkF {L : List Nat} {d : List AV} : ∀ {es : List (List AV)}, d ∈ bkF L n es → ∃ e ∈ es, d = bkL L n e
  | [], h => by simp [bkF] at h
  | e :: es, h => by
    simp only [bkF] at h
    rcases List.mem_cons.1 h with rfl | h
    · exact ⟨e, by simp, rfl⟩
    · obtain ⟨e', h1, h2⟩ := mem_bkF h; exact ⟨e', by simp [h1], h2⟩
theorem mem_bkL {L : List Nat} {d : AV} : ∀ {es : List AV}, d ∈ bkL L n es → ∃ e ∈ es, d = bkA L n e
  | [], h => by simp [bkL] at h
  | e :: es, h => by
    simp only [bkL] at h
    rcases List.mem_cons.1 h with rfl | h
    · exact ⟨e, by simp, rfl⟩
    · obtain ⟨e', h1, h2⟩ := mem_bkL h; exact ⟨e', by simp [h1], h2⟩
theorem bkO_ok {L : List Nat} {m m' : Nat} (hφ : ∀ j, j < m → φ (bk L n j) = φc j ∧ bk L n j < m') {w : World} {j : Nat} (hj : j < m) {o o' : AObj} (ho : bkO L n (some o) = some o') (e : objAt h φc m w j o) : objAt h φ m' w (bk L n j) o' := by
  have hij := (hφ j hj).1
  cases o with
  | box cs =>
    simp only [bkO, Option.some.injEq] at ho
    subst ho
    obtain ⟨g, us, E, h1, h2, h3, h4⟩ := e
    exact ⟨g, us, E, by rw [hij]; exact h1, h2, h3, bkL_ok hφ h4⟩
  | arr k es =>
    simp only [bkO, Option.some.injEq] at ho
    subst ho
    obtain ⟨h0, h1 | ⟨g, c, cur, E, h1, h2⟩⟩ := e
    · exact ⟨h0, .inl (by rw [hij]; exact h1)⟩
    · exact ⟨h0, .inr ⟨g, c, cur, E, by rw [hij]; exact h1, h2⟩⟩
  | arf k es =>
    simp only [bkO, Option.some.injEq] at ho
    subst ho
    obtain ⟨h0, h1⟩ := e
    refine ⟨fun d hd => ?_, ?_⟩
    · obtain ⟨e', he', rfl⟩ := mem_bkF hd
      refine ⟨by rw [bkL_len]; exact (h0 e' he').1, fun c hc => ?_⟩
      obtain ⟨c', hc', rfl⟩ := mem_bkL hc
      rw [one_bk]
      exact (h0 e' he').2 c' hc'
    · rcases h1 with ⟨A, hA, rfl⟩ | ⟨g, c, cur, E, h1, h2, h3, h4, h5, h6, h7⟩
      · exact .inl ⟨A, by rw [hij]; exact hA, rfl⟩
      · exact .inr ⟨g, c, cur, E, by rw [hij, bkF_len]; exact h1, h2, by rw [bkF_len]; exact h3, h4, h5, h6, by rw [bkF_flat, bkF_len]; exact bkL_ok hφ h7⟩
  | lp r s =>
    simp only [bkO, Option.some.injEq] at ho
    subst ho
    obtain ⟨g, h1, h2, h3, h4, h5⟩ := e
    refine ⟨g, by rw [hij]; exact h1, h2, h3, fun a x y hx hy => ?_, bkS_ok (f := fun j => r.tmps.getD j undef) hφ h5⟩
    obtain ⟨x', h6, rfl⟩ := mem_bkS hx
    obtain ⟨y', h7, rfl⟩ := mem_bkS hy
    rw [h4 a x' y' h6 h7]
  | mit m0 since seen st =>
    obtain ⟨g, mo, h1, h2, h3, h4⟩ := e
    cases m0 with
    | none =>
      simp only [bkO, Option.some.injEq] at ho
      subst ho
      exact ⟨g, mo, by rw [hij]; exact h1, h2, h3, h4⟩
    | some m0 =>
      simp only [bkO, Option.some.injEq] at ho
      subst ho
      obtain ⟨b, h5, h6, h7⟩ := h4
      exact ⟨g, mo, by rw [hij]; exact h1, h2, h3, b, h5, (hφ m0 h6).2, by rw [(hφ m0 h6).1]; exact h7⟩
  | map ag ks vs bs cl =>
    simp only [bkO, Option.some.injEq] at ho
    subst ho
    obtain ⟨g, ens, h1, h2, h3, h4, h5, h6⟩ := e
    exact ⟨g, ens, by rw [hij]; exact h1, h2, h3, h4, h5, bkL_ok hφ h6⟩
theorem bkT_len {L : List Nat} : ∀ (L' : List Nat) (T T' : Tab), L'.length ≤ T'.length → (bkT L n T L' T').length = T.length + (T'.length - L'.length)
  | [], T, [], _ => by simp [bkT]
  | [], T, o :: T', _ => by simp [bkT]
  | i :: L', T, [], h => by simp at h
  | i :: L', T, o :: T', h => by
    simp only [bkT]
    rw [bkT_len L' _ T' (by simpa using h)]
    simp
theorem bkT_get {L : List Nat} : ∀ (L' : List Nat) (T T' : Tab) (i : Nat) (o : AObj), L'.Nodup → (∀ x ∈ L', x < T.length) → L'.length ≤ T'.length → (bkT L n T L' T')[i]? = some (some o) →
    (∃ j : Nat, L'[j]? = some i ∧ ∃ o', T'[j]? = some o' ∧ bkO L n o' = some o) ∨ (i < T.length ∧ i ∉ L' ∧ T[i]? = some (some o)) ∨ (T.length ≤ i ∧ ∃ o', T'[L'.length + (i - T.length)]? = some o' ∧ bkO L n o' = some o)
  | [], T, [], i, o, _, _, _, e => by
    simp only [bkT] at e
    refine .inr (.inl ⟨?_, by simp, e⟩)
    rcases Nat.lt_or_ge i T.length with hh | hh
    · exact hh
    · simp [List.getElem?_eq_none hh] at e
  | [], T, x :: T', i, o, _, _, _, e => by
    simp only [bkT] at e
    rcases Nat.lt_or_ge i T.length with hh | hh
    · rw [List.getElem?_append_left hh] at e; exact .inr (.inl ⟨hh, by simp, e⟩)
    · rw [List.getElem?_append_right hh, List.getElem?_map] at e
      refine .inr (.inr ⟨hh, ?_⟩)
      simp only [List.length_nil, Nat.zero_add]
      cases hx : (x :: T')[i - T.length]? with
      | none => simp [hx] at e
      | some o' => simp only [hx, Option.map_some, Option.some.injEq] at e; exact ⟨o', rfl, e⟩
  | a :: L', T, [], i, o, _, _, h, _ => by simp at h
  | a :: L', T, x :: T', i, o, hn, hl, hle, e => by
    simp only [bkT] at e
    obtain ⟨hna, hn'⟩ := List.nodup_cons.1 hn
    have ha := hl a (by simp)
    rcases bkT_get L' (T.set a (bkO L n x)) T' i o hn' (fun y hy => by rw [List.length_set]; exact hl y (by simp [hy])) (by simpa using hle) e with ⟨j, hj, h2⟩ | ⟨h1, h2, h3⟩ | ⟨h1, h2⟩
    · exact .inl ⟨j + 1, by simpa using hj, by simpa using h2⟩
    · rw [List.length_set] at h1
      rw [List.getElem?_set] at h3
      split at h3
      · rename_i hai
        subst hai
        injection h3 with h3
        exact .inl ⟨0, by simp, x, by simp, h3⟩
      · rename_i hai
        exact .inr (.inl ⟨h1, by simp; exact ⟨fun e => hai e.symm, h2⟩, h3⟩)
    · rw [List.length_set] at h1 h2
      refine .inr (.inr ⟨h1, ?_⟩)
      obtain ⟨o', h3, h4⟩ := h2
      exact ⟨o', by simp only [List.length_cons]; rw [show L'.length + 1 + (i - T.length) = (L'.length + (i - T.length)) + 1 from by omega, List.getElem?_cons_succ]; exact h3, h4⟩
theorem bkO_some {L : List Nat} {o' : Option AObj} {o : AObj} (e : bkO L n o' = some o) : ∃ x, o' = some x := by
  cases o' with
  | none => simp [bkO] at e
  | some x => exact ⟨x, rfl⟩
theorem ret_bk {L : List Nat} (hL : L.Nodup) {T : Tab} (hlt : ∀ i ∈ L, i < T.length) {w : World} (hI : Inv h φ w T) {T' : Tab} {h' : GH} {φc' : Nat → Value} {w' : World}
    (hφ : Names L φ φc) (hE : Evo h φc (rnT L T) w h' φc' T' w') (hI' : Inv h' φc' w' T') {r : AV} {v : Value} (hr : Rp h' φc' T'.length r v) :
    ∃ φ', Evo h φ T w h' φ' (bkT L T.length T L T') w' ∧ Inv h' φ' w' (bkT L T.length T L T') ∧ Rp h' φ' (bkT L T.length T L T').length (bkA L T.length r) v := by
  have hlen : (rnT L T).length = L.length := by simp [rnT]
  have hle : L.length ≤ T'.length := by have := hE.len; omega
  have htl := bkT_len (L := L) (n := T.length) L T T' hle
  let φ' : Nat → Value := fun i => if i < T.length then φ i else φc' (L.length + (i - T.length))
  have hφ' : ∀ j, j < T'.length → φ' (bk L T.length j) = φc' j ∧ bk L T.length j < (bkT L T.length T L T').length := by
    intro j hj
    rcases Nat.lt_or_ge j L.length with hh | hh
    · have hjg : L[j]? = some L[j] := List.getElem?_eq_getElem hh
      have hmem := hlt _ (List.getElem_mem hh)
      rw [bk_lt hjg]
      refine ⟨?_, by omega⟩
      show (if L[j] < T.length then φ L[j] else _) = _
      rw [if_pos hmem, hE.phi j (by omega), hφ j _ hjg]
    · rw [bk_ge hh]
      refine ⟨?_, by omega⟩
      show (if T.length + (j - L.length) < T.length then _ else φc' (L.length + (T.length + (j - L.length) - T.length))) = _
      rw [if_neg (by omega)]
      congr 1
      omega
  have hold : ∀ i, i < T.length → φ' i = φ i := fun i hi => if_pos hi
  have own_up : ∀ b, (∃ j o, (rnT L T)[j]? = some (some o) ∧ blk (φc j) = some b) → ∃ i o, i ∈ L ∧ T[i]? = some (some o) ∧ blk (φ i) = some b := by
    rintro b ⟨j, o, hj, hb⟩
    obtain ⟨i, o', h1, h2, _⟩ := rnT_get hj
    exact ⟨i, o', List.mem_of_getElem? h1, h2, by rw [← hφ j i h1]; exact hb⟩
  have beside : ∀ i o, i < T.length → i ∉ L → T[i]? = some (some o) → ∀ b, blk (φ i) = some b → b < w.heap.size ∧ h b = none ∧ ¬ ∃ j o, (rnT L T)[j]? = some (some o) ∧ blk (φc j) = some b := by
    intro i o hi hiL ho b hb
    obtain ⟨h1, h2⟩ := objAt_blk (hI.obj i o ho) hb
    refine ⟨h1, h2, fun hx => ?_⟩
    obtain ⟨i', o', hmem, ho', hb'⟩ := own_up b hx
    have := hI.dis i i' o o' b ho ho' hb hb'
    exact hiL (this ▸ hmem)
  have kind : ∀ i o, (bkT L T.length T L T')[i]? = some (some o) →
      (∃ j x, j < T'.length ∧ bk L T.length j = i ∧ T'[j]? = some (some x) ∧ bkO L T.length (some x) = some o) ∨ (i < T.length ∧ i ∉ L ∧ T[i]? = some (some o)) := by
    intro i o e
    rcases bkT_get L T T' i o hL hlt hle e with ⟨j, h1, o', h2, h3⟩ | h1 | ⟨h1, o', h2, h3⟩
    · obtain ⟨x, rfl⟩ := bkO_some h3
      refine .inl ⟨j, x, ?_, bk_lt h1, h2, h3⟩
      rcases Nat.lt_or_ge j T'.length with hh | hh
      · exact hh
      · simp [List.getElem?_eq_none hh] at h2
    · exact .inr h1
    · obtain ⟨x, rfl⟩ := bkO_some h3
      refine .inl ⟨_, x, ?_, ?_, h2, h3⟩
      · rcases Nat.lt_or_ge (L.length + (i - T.length)) T'.length with hh | hh
        · exact hh
        · simp [List.getElem?_eq_none hh] at h2
      · rw [bk_ge (by omega)]; omega
  refine ⟨φ', ⟨hE.os, hE.tape, hE.output, hE.size, ?_, hE.le, ?_, hold, ?_, by omega, hE.drawn⟩, ⟨hI'.gh, ?_, ?_⟩, bkA_ok hφ' hr⟩
  · intro b hb hn
    refine hE.frame b hb fun j o hj hbl => ?_
    obtain ⟨i, o', _, h1, h2⟩ := own_up b ⟨j, o, hj, hbl⟩
    exact hn i o' h1 h2
  · intro b cs e
    rcases hE.gfr b cs e with h1 | h1 | ⟨j, o, hj, hbl⟩
    · exact .inl h1
    · exact .inr (.inl h1)
    · obtain ⟨i, o', _, h1, h2⟩ := own_up b ⟨j, o, hj, hbl⟩
      exact .inr (.inr ⟨i, o', h1, h2⟩)
  · intro i o b e hb
    rcases kind i o e with ⟨j, x, hj, rfl, hx, _⟩ | ⟨h1, h2, h3⟩
    · rw [(hφ' j hj).1] at hb
      rcases hE.org j x b hx hb with h4 | ⟨j', o', h4, h5⟩
      · exact .inl h4
      · obtain ⟨i, o', _, h6, h7⟩ := own_up b ⟨j', o', h4, h5⟩
        exact .inr ⟨i, o', h6, h7⟩
    · rw [hold i h1] at hb
      exact .inr ⟨i, o, h3, hb⟩
  · intro i o e
    rcases kind i o e with ⟨j, x, hj, rfl, hx, ho⟩ | ⟨h1, h2, h3⟩
    · exact bkO_ok hφ' hj ho (hI'.obj j x hx)
    · refine objAt_keep (hI.obj i o h3) hE.le (by omega) (fun j hj => hold j hj) h1 fun g hg => ?_
      obtain ⟨h4, h5, h6⟩ := beside i o h1 h2 h3 g hg
      refine ⟨hE.frame g h4 fun j o hj hbl => h6 ⟨j, o, hj, hbl⟩, ?_⟩
      cases hh : h' g with
      | none => rfl
      | some cs =>
        rcases hE.gfr g cs hh with h7 | h7 | h7
        · rw [h5] at h7; simp at h7
        · omega
        · exact absurd h7 h6
  · intro i i' o o' b e e' hb hb'
    have cross : ∀ {i i' : Nat} {o : AObj} {j : Nat} {x : AObj}, i < T.length → i ∉ L → T[i]? = some (some o) → blk (φ i) = some b → T'[j]? = some (some x) → blk (φc' j) = some b → False := by
      intro i i' o j x h1 h2 h3 hb hx hbx
      obtain ⟨h4, _, h6⟩ := beside i o h1 h2 h3 b hb
      rcases hE.org j x b hx hbx with h7 | h7
      · omega
      · exact h6 h7
    rcases kind i o e with ⟨j, x, hj, rfl, hx, _⟩ | ⟨h1, h2, h3⟩ <;> rcases kind i' o' e' with ⟨j', x', hj', rfl, hx', _⟩ | ⟨h1', h2', h3'⟩
    · rw [(hφ' j hj).1] at hb
      rw [(hφ' j' hj').1] at hb'
      rw [hI'.dis j j' x x' b hx hx' hb hb']
    · rw [(hφ' j hj).1] at hb
      rw [hold i' h1'] at hb'
      exact (cross (i' := 0) h1' h2' h3' hb' hx hb).elim
    · rw [(hφ' j' hj').1] at hb'
      rw [hold i h1] at hb
      exact (cross (i' := 0) h1 h2 h3 hb hx' hb').elim
    · rw [hold i h1] at hb
      rw [hold i' h1'] at hb'
      exact hI.dis i i' o o' b h3 h3' hb hb'
end
end Hud
end
section
namespace Hud
open Go
theorem RpDE.drop {h : GH} {b k : Nat} : ∀ {es : List (List AV)} {o : Nat}, RpDE h b k es o → ∀ l, RpDE h b k (es.drop l) (o + l * k)
  | [], _, _, l => by simp [RpDE]
  | e :: es, o, hh, 0 => by simpa using hh
  | e :: es, o, hh, l + 1 => by
    simp only [RpDE] at hh
    have := RpDE.drop hh.2.2 l
    rw [List.drop_succ_cons, Nat.succ_mul, Nat.add_comm (l * k) k, ← Nat.add_assoc]
    exact this
theorem RpDE.take {h : GH} {b k : Nat} : ∀ {es : List (List AV)} {o : Nat}, RpDE h b k es o → ∀ l, RpDE h b k (es.take l) o
  | [], _, _, l => by simp [RpDE]
  | e :: es, o, hh, 0 => by simp [RpDE]
  | e :: es, o, hh, l + 1 => by
    simp only [RpDE] at hh
    rw [List.take_succ_cons]
    simp only [RpDE]
    exact ⟨hh.1, hh.2.1, RpDE.take hh.2.2 l⟩
mutual
theorem flatA_ok {h h' : GH} {φ : Nat → Value} {n : Nat} : ∀ {x : AV} {u : Value}, flatA x → Rp h φ n x u → Rp h' φ n x u
  | .v _, _, _, e => by simpa [Rp] using e
  | .ls k es, u, hf, e => by
    simp only [flatA] at hf
    subst hf
    simp only [Rp, RpD] at e ⊢
    obtain ⟨A, c, h1, h2, h3, _⟩ := e
    exact ⟨A, c, h1, h2, h3, .inl trivial⟩
  | .ag cs, _, hf, e => by simp only [Rp, flatA] at *; obtain ⟨us, h1, h2⟩ := e; exact ⟨us, h1, flatL_ok hf h2⟩
  | .own _, _, _, e => by simpa [Rp] using e
  | .ptr _ _, _, _, e => by simpa [Rp] using e
  | .elt _ _ _ _, _, _, e => by simpa [Rp] using e
  | .vw _ _ _ _, _, _, e => by simpa [Rp] using e
  | .mp _, _, _, e => by simpa [Rp] using e
  | .yl _, _, _, e => by simpa [Rp] using e
  | .rp cs, u, hf, e => by
    simp only [flatA] at hf
    subst hf
    simp only [Rp] at e ⊢
    obtain ⟨b, o, h1, _⟩ := e
    exact ⟨b, o, h1, by simp [RpDC]⟩
  | .cl f cs, _, hf, e => by simp only [Rp, flatA] at *; obtain ⟨us, h1, h2⟩ := e; exact ⟨us, h1, flatL_ok hf h2⟩
  | .bm f kk cs, _, hf, e => by simp only [Rp, flatA] at *; obtain ⟨us, h1, h2⟩ := e; exact ⟨us, h1, flatL_ok hf h2⟩
  | .tup cs, _, hf, e => by simp only [Rp, flatA] at *; obtain ⟨us, h1, h2⟩ := e; exact ⟨us, h1, flatL_ok hf h2⟩
  | .any, _, _, _ => by simp [Rp]
theorem flatL_ok {h h' : GH} {φ : Nat → Value} {n : Nat} : ∀ {cs : List AV} {us : List Value}, flatL cs → RpL h φ n cs us → RpL h' φ n cs us
  | [], _, _, e => by simpa [RpL] using e
  | c :: cs, us, hf, e => by
    simp only [RpL, flatL] at *
    obtain ⟨u, us', h1, h2, h3⟩ := e
    exact ⟨u, us', h1, flatA_ok hf.1 h2, flatL_ok hf.2 h3⟩
end
theorem flatD_ok {h h' : GH} : ∀ {cs : List AV} {us : List Value}, (∀ c ∈ cs, ∃ x, c = .v x) → RpDL h cs us → RpDL h' cs us
  | [], _, _, e => by simpa [RpDL] using e
  | c :: cs, us, hf, e => by
    simp only [RpDL] at *
    obtain ⟨u, us', h1, h2, h3⟩ := e
    obtain ⟨x, rfl⟩ := hf c (by simp)
    refine ⟨u, us', h1, ?_, flatD_ok (fun d hd => hf d (by simp [hd])) h3⟩
    simpa only [RpD] using h2
theorem flatO_ok {h h' : GH} {φ : Nat → Value} {n : Nat} {w : World} {i : Nat} {o : AObj} (hf : flatO (some o)) (hg : ∀ g, blk (φ i) = some g → h' g = none) (e : objAt h φ n w i o) : objAt h' φ n w i o := by
  cases o with
  | box cs =>
    obtain ⟨g, us, E, h1, h2, _, h4⟩ := e
    exact ⟨g, us, E, h1, h2, hg g (by rw [h1]; rfl), flatL_ok hf h4⟩
  | arr k es =>
    obtain ⟨h0, h1 | ⟨g, c, cur, E, h1, h2, h3, h4, h5, _, h7⟩⟩ := e
    · exact ⟨h0, .inl h1⟩
    · refine ⟨h0, .inr ⟨g, c, cur, E, h1, h2, h3, h4, h5, hg g (by rw [h1]; rfl), flatD_ok (fun c hc => ?_) h7⟩⟩
      obtain ⟨d, hd, hcd⟩ := List.mem_flatten.1 hc
      exact hf d hd c hcd
  | arf k es =>
    obtain ⟨h0, h1 | ⟨g, c, cur, E, h1, h2, h3, h4, h5, _, h7⟩⟩ := e
    · exact ⟨h0, .inl h1⟩
    · refine ⟨h0, .inr ⟨g, c, cur, E, h1, h2, h3, h4, h5, hg g (by rw [h1]; rfl), flatL_ok ?_ h7⟩⟩
      have app : ∀ {a b : List AV}, flatL a → flatL b → flatL (a ++ b) := by
        intro a b ha hb
        induction a with
        | nil => exact hb
        | cons c a ih => simp only [flatL, List.cons_append] at ha ⊢; exact ⟨ha.1, ih ha.2⟩
      have key : ∀ l : List (List AV), (∀ e ∈ l, flatL e) → flatL l.flatten := by
        intro l
        induction l with
        | nil => intro _; simp [flatL]
        | cons e l ih => intro hl; rw [List.flatten_cons]; exact app (hl e (by simp)) (ih fun d hd => hl d (by simp [hd]))
      exact key es hf
  | lp r s =>
    obtain ⟨g, h1, h2, h3, h4, h5⟩ := e
    exact ⟨g, h1, h2, hg g (by rw [h1]; rfl), h4, fun p hp => flatA_ok (hf p hp) (h5 p hp)⟩
  | mit m since seen st =>
    obtain ⟨g, mo, h1, h2, h3, h4⟩ := e
    exact ⟨g, mo, h1, h2, hg g (by rw [h1]; rfl), h4⟩
  | map ag ks vs bs cl =>
    obtain ⟨g, ens, h1, h2, h3, h4, h5, h6⟩ := e
    exact ⟨g, ens, h1, h2, hg g (by rw [h1]; rfl), h4, h5, flatL_ok hf h6⟩
theorem RpDC.of_list {h : GH} {b : Nat} : ∀ {cs : List AV} {us : List Value} {o : Nat}, RpDL h cs us → (∀ c ∈ cs, closedA c = true) → (∀ j u, us[j]? = some u → cellG h b (o + j) = some u) → RpDC h b cs o
  | cs, us, o, e, hc, hu => RpDC.mk fun i c hi => by
    obtain ⟨u, h1, h2⟩ := e.get hi
    exact ⟨u, hc c (List.mem_of_getElem? hi), hu i u h1, h2⟩
theorem RpDE.of_list {h : GH} {b k : Nat} : ∀ {es : List (List AV)} {us : List Value} {o : Nat}, RpDL h es.flatten us → (∀ e ∈ es, e.length = k ∧ ∀ c ∈ e, closedA c = true) → (∀ j u, us[j]? = some u → cellG h b (o + j) = some u) → RpDE h b k es o
  | es, us, o, e, hc, hu => RpDE.mk fun j d hj => by
    have hd := hc d (List.mem_of_getElem? hj)
    refine ⟨hd.1, ?_⟩
    have hs := e.sub (j * k) k
    rw [flat_get (fun e he => (hc e he).1) hj] at hs
    refine RpDC.of_list hs hd.2 fun i u hi => ?_
    rw [List.getElem?_take] at hi
    split at hi
    · rw [List.getElem?_drop] at hi
      rw [← hu _ _ hi]
      congr 1
      omega
    · simp at hi
open Classical in
noncomputable def lentG (h : GH) (φ : Nat → Value) (T : Tab) (w : World) : GH := fun b =>
  if ∃ i o, T[i]? = some (some o) ∧ blk (φ i) = some b then (match w.heap[b]? with | some (.cells cs _ _) => some cs | _ => none) else h b
open Classical in
noncomputable def unlentG (h : GH) (φ : Nat → Value) (T : Tab) : GH := fun b => if ∃ i o, T[i]? = some (some o) ∧ blk (φ i) = some b then none else h b
section
variable {h : GH} {φ : Nat → Value} {T : Tab} {w : World}
theorem lentG_own (hI : Inv h φ w T) {i : Nat} {k : Nat} {es : List (List AV)} (hi : T[i]? = some (some (.arr k es))) {b : Nat} (hb : blk (φ i) = some b) : ∃ cs E, w.heap[b]? = some (.cells cs E (0, 0)) ∧ lentG h φ T w b = some cs := by
  have : ∃ cs E, w.heap[b]? = some (.cells cs E (0, 0)) := by
    obtain ⟨_, ⟨A, h1⟩ | ⟨g, c, cur, E, h1, h2, _⟩⟩ := hI.obj i _ hi
    · rw [h1.1] at hb; simp [blk] at hb
    · rw [h1] at hb; simp only [blk, Option.some.injEq] at hb; subst hb
      exact ⟨cur, E, h2⟩
  obtain ⟨cs, E, hw⟩ := this
  refine ⟨cs, E, hw, ?_⟩
  unfold lentG
  rw [if_pos ⟨i, _, hi, hb⟩, hw]
theorem lentG_le (hI : Inv h φ w T) : GLe h (lentG h φ T w) := by
  intro b cs e
  unfold lentG
  rw [if_neg]
  · exact e
  · rintro ⟨i, o, hi, hb⟩
    have := (objAt_blk (hI.obj i o hi) hb).2
    rw [e] at this
    simp at this
theorem lent_inv (hI : Inv h φ w T) (φ' : Nat → Value) : Inv (lentG h φ T w) φ' w [] := by
  refine ⟨fun b cs e => ?_, fun i o e => by simp at e, fun i j oi oj b e => by simp at e⟩
  by_cases hx : ∃ i o, T[i]? = some (some o) ∧ blk (φ i) = some b
  · unfold lentG at e
    rw [if_pos hx] at e
    split at e
    · rename_i cs' E fr hw
      injection e with e
      subst e
      exact ⟨E, _, hw⟩
    · simp at e
  · unfold lentG at e
    rw [if_neg hx] at e
    exact hI.gh b cs e
mutual
theorem lendA_ok (hI : Inv h φ w T) {φ' : Nat → Value} : ∀ {x : AV} {u : Value}, idsA (lendA T x) = [] → Rp h φ T.length x u → Rp (lentG h φ T w) φ' 0 (lendA T x) u
  | .v _, _, _, e => by simpa [Rp, lendA] using e
  | .ls _ _, _, _, e => by simp only [Rp, lendA] at *; exact e.mono (lentG_le hI)
  | .ag cs, _, hd, e => by simp only [Rp, lendA, idsA] at *; obtain ⟨us, h1, h2⟩ := e; exact ⟨us, h1, lendL_ok hI hd h2⟩
  | .own i, u, _, e => by
    simp only [Rp, lendA] at *
    split
    · rename_i k es hg
      simp only [Rp, RpD]
      obtain ⟨hl, ⟨A0, h1⟩ | ⟨g, c, cur, E, hφ, hw, h2, h3, h4, h5, h6⟩⟩ := arr_cells hI hg
      · exact ⟨A0, 0, by rw [e.2.1, h1.1, h1.2]; rfl, by rw [h1.2]; simp, by simp, .inl h1.2⟩
      · refine ⟨_, c + 1, by rw [e.2.1, hφ], h2, h3, .inr ⟨g, 0, rfl, ?_⟩⟩
        obtain ⟨cs', E', hw', hlent⟩ := lentG_own hI (getT_some hg) (b := g) (by rw [hφ]; rfl)
        rw [hw] at hw'
        injection hw' with hw'
        injection hw' with hw'
        subst hw'
        refine RpDE.of_list (h6.mono (lentG_le hI)) hl fun j v hj => ?_
        unfold cellG
        rw [hlent]
        rw [List.getElem?_take] at hj
        split at hj
        · simpa using hj
        · simp at hj
    · simp [Rp]
  | .ptr _ _, _, hd, _ => by simp [idsA, lendA] at hd
  | .elt _ _ _ _, _, hd, _ => by simp [idsA, lendA] at hd
  | .mp _, _, hd, _ => by simp [idsA, lendA] at hd
  | .yl _, _, hd, _ => by simp [idsA, lendA] at hd
  | .vw i k lo m, u, _, e => by
    simp only [Rp, lendA] at *
    split
    · rename_i k' es hg
      split
      · rename_i hk
        obtain ⟨rfl, hlen⟩ := hk
        obtain ⟨_, A, c, hu, hmc, hcm, h0⟩ := e
        have hln : ((es.drop lo).take m).length = m := by rw [List.length_take, List.length_drop]; omega
        simp only [Rp, RpD]
        refine ⟨A, c, by rw [hln]; exact hu, by rw [hln]; exact hmc, hcm, ?_⟩
        rcases h0 with rfl | ⟨g, l, c', hφ, rfl, hle⟩
        · exact .inl (by simp)
        · obtain ⟨hl, h1 | ⟨g', c2, cur, E, hφ', hw, h2, h3, h4, h5, h6⟩⟩ := arr_cells hI hg
          · obtain ⟨A0, _, rfl⟩ := h1
            exact .inl (by simp)
          · rw [hφ] at hφ'
            injection hφ' with e1 e2 e3
            injection e1 with e1
            injection e1 with e1
            subst e1
            subst e3
            refine .inr ⟨g, lo * k, rfl, ?_⟩
            obtain ⟨cs', E', hw', hlent⟩ := lentG_own hI (getT_some hg) (b := g) (by rw [hφ]; rfl)
            rw [hw] at hw'
            injection hw' with hw'
            injection hw' with hw'
            subst hw'
            have hfull : RpDE (lentG h φ T w) g k es 0 := RpDE.of_list (h6.mono (lentG_le hI)) hl fun j v hj => by
              unfold cellG
              rw [hlent]
              rw [List.getElem?_take] at hj
              split at hj
              · simpa using hj
              · simp at hj
            simpa using (hfull.drop lo).take m
      · simp [Rp]
    · simp [Rp]
  | .rp cs, u, _, e => by
    simp only [Rp, lendA] at *
    obtain ⟨b, o, h1, h2⟩ := e
    exact ⟨b, o, h1, h2.mono (lentG_le hI)⟩
  | .cl f cs, _, hd, e => by
    simp only [Rp, lendA, idsA] at *
    obtain ⟨us, h1, h2⟩ := e
    exact ⟨us, h1, noIds_ok hI hd h2⟩
  | .bm f kk cs, _, hd, e => by
    simp only [Rp, lendA, idsA] at *
    obtain ⟨us, h1, h2⟩ := e
    exact ⟨us, h1, noIds_ok hI hd h2⟩
  | .tup cs, _, hd, e => by
    simp only [Rp, lendA, idsA] at *
    obtain ⟨us, h1, h2⟩ := e
    exact ⟨us, h1, noIds_ok hI hd h2⟩
  | .any, _, _, _ => by simp [Rp, lendA]
theorem lendL_ok (hI : Inv h φ w T) {φ' : Nat → Value} : ∀ {cs : List AV} {us : List Value}, idsL (lendL T cs) = [] → RpL h φ T.length cs us → RpL (lentG h φ T w) φ' 0 (lendL T cs) us
  | [], _, _, e => by simpa [RpL, lendL] using e
  | c :: cs, us, hd, e => by
    simp only [RpL, lendL, idsL, List.append_eq_nil_iff] at *
    obtain ⟨u, us', h1, h2, h3⟩ := e
    exact ⟨u, us', h1, lendA_ok hI hd.1 h2, lendL_ok hI hd.2 h3⟩
theorem noId_ok (hI : Inv h φ w T) {φ' : Nat → Value} : ∀ {x : AV} {u : Value}, idsA x = [] → Rp h φ T.length x u → Rp (lentG h φ T w) φ' 0 x u
  | .v _, _, _, e => by simpa [Rp] using e
  | .ls _ _, _, _, e => by simp only [Rp] at *; exact e.mono (lentG_le hI)
  | .ag cs, _, hd, e => by simp only [Rp, idsA] at *; obtain ⟨us, h1, h2⟩ := e; exact ⟨us, h1, noIds_ok hI hd h2⟩
  | .own _, _, hd, _ => by simp [idsA] at hd
  | .ptr _ _, _, hd, _ => by simp [idsA] at hd
  | .elt _ _ _ _, _, hd, _ => by simp [idsA] at hd
  | .vw _ _ _ _, _, hd, _ => by simp [idsA] at hd
  | .mp _, _, hd, _ => by simp [idsA] at hd
  | .yl _, _, hd, _ => by simp [idsA] at hd
  | .rp cs, u, _, e => by
    simp only [Rp] at *
    obtain ⟨b, o, h1, h2⟩ := e
    exact ⟨b, o, h1, h2.mono (lentG_le hI)⟩
  | .cl f cs, _, hd, e => by simp only [Rp, idsA] at *; obtain ⟨us, h1, h2⟩ := e; exact ⟨us, h1, noIds_ok hI hd h2⟩
  | .bm f kk cs, _, hd, e => by simp only [Rp, idsA] at *; obtain ⟨us, h1, h2⟩ := e; exact ⟨us, h1, noIds_ok hI hd h2⟩
  | .tup cs, _, hd, e => by simp only [Rp, idsA] at *; obtain ⟨us, h1, h2⟩ := e; exact ⟨us, h1, noIds_ok hI hd h2⟩
  | .any, _, _, _ => by simp [Rp]
theorem noIds_ok (hI : Inv h φ w T) {φ' : Nat → Value} : ∀ {cs : List AV} {us : List Value}, idsL cs = [] → RpL h φ T.length cs us → RpL (lentG h φ T w) φ' 0 cs us
  | [], _, _, e => by simpa [RpL] using e
  | c :: cs, us, hd, e => by
    simp only [RpL, idsL, List.append_eq_nil_iff] at *
    obtain ⟨u, us', h1, h2, h3⟩ := e
    exact ⟨u, us', h1, noId_ok hI hd.1 h2, noIds_ok hI hd.2 h3⟩
end
theorem ret_lend (hI : Inv h φ w T) {φc : Nat → Value} {T' : Tab} {h1 : GH} {φc' : Nat → Value} {w' : World} (hE : Evo (lentG h φ T w) φc [] w h1 φc' T' w') (hI' : Inv h1 φc' w' T') {r : AV} {v : Value} (hr : Rp h1 φc' T'.length r v)
    (hfr : flatA r) (hfT : ∀ o ∈ T', flatO o) :
    ∃ h' φ', Evo h φ T w h' φ' (T ++ T'.map (bkO [] T.length)) w' ∧ Inv h' φ' w' (T ++ T'.map (bkO [] T.length)) ∧ Rp h' φ' (T ++ T'.map (bkO [] T.length)).length (bkA [] T.length r) v := by
  have hframe : ∀ b, b < w.heap.size → w'.heap[b]? = w.heap[b]? := fun b hb => hE.frame b hb fun i o e => by simp at e
  let h' : GH := unlentG h1 φ T
  have hle : GLe h h' := by
    intro b cs e
    have h2 := hE.le b cs (lentG_le hI b cs e)
    show unlentG h1 φ T b = some cs
    unfold unlentG
    rw [if_neg]
    · exact h2
    · rintro ⟨i, o, hi, hb⟩
      have := (objAt_blk (hI.obj i o hi) hb).2
      rw [e] at this
      simp at this
  have hun : ∀ b cs, h' b = some cs → h1 b = some cs ∧ ¬ ∃ i o, T[i]? = some (some o) ∧ blk (φ i) = some b := by
    intro b cs e
    change unlentG h1 φ T b = some cs at e
    unfold unlentG at e
    split at e
    · simp at e
    · rename_i hx; exact ⟨e, hx⟩
  have hI2 : Inv h' φc' w' T' := by
    refine ⟨fun b cs e => hI'.gh b cs (hun b cs e).1, fun i o e => ?_, hI'.dis⟩
    have ho := hI'.obj i o e
    refine flatO_ok (hfT _ (List.mem_of_getElem? e)) (fun g hg => ?_) ho
    have hn := (objAt_blk ho hg).2
    cases hh : h' g with
    | none => rfl
    | some cs => rw [(hun g cs hh).1] at hn; simp at hn
  have hE2 : Evo h φc [] w h' φc' T' w' := by
    refine ⟨hE.os, hE.tape, hE.output, hE.size, hE.frame, hle, fun b cs e => ?_, fun i hi => by simp at hi, hE.org, by simp, hE.drawn⟩
    obtain ⟨e1, hx⟩ := hun b cs e
    rcases hE.gfr b cs e1 with h2 | h2 | ⟨i, o, h3, _⟩
    · unfold lentG at h2
      rw [if_neg hx] at h2
      exact .inl h2
    · exact .inr (.inl h2)
    · simp at h3
  have hnil : rnT ([] : List Nat) T = [] := rfl
  have := ret_bk (L := []) (φc := φc) (by simp) (fun i hi => by simp at hi) hI (fun j i e => by simp at e) (by rw [hnil]; exact hE2) hI2 (flatA_ok (h' := h') hfr hr)
  have hbk : bkT [] T.length T [] T' = T ++ T'.map (bkO [] T.length) := by
    cases T' with
    | nil => simp [bkT]
    | cons x T' => rfl
  rw [hbk] at this
  exact ⟨h', this⟩
end
section
variable {P : Program} {G : Nat → Option (List AV)} {h : GH} {φ : Nat → Value} {T : Tab} {w : World}
mutual
theorem subA_ok {h : GH} {φ : Nat → Value} {n : Nat} : ∀ {x y : AV} {u : Value}, subA x y → Rp h φ n x u → Rp h φ n y u
  | .ag cs, y, u, hs, e => by
    simp only [subA] at hs
    rcases hs with rfl | ⟨ds, rfl, hs⟩
    · exact e
    · simp only [Rp] at e ⊢
      obtain ⟨us, h1, h2⟩ := e
      exact ⟨us, h1, subL_ok hs h2⟩
  | .v x, y, u, hs, e => by
    simp only [subA] at hs
    rcases hs with rfl | ⟨rfl, k, rfl⟩ | ⟨us, rfl, rfl⟩
    · exact e
    · simp only [Rp] at e
      subst e
      simp only [Rp, RpD]
      exact ⟨none, 0, rfl, Nat.le_refl _, Nat.zero_le _, by simp⟩
    · simp only [Rp] at e
      subst e
      simp only [Rp]
      refine ⟨us, rfl, ?_⟩
      have : ∀ l : List Value, RpL h φ n (l.map .v) l := by
        intro l
        induction l with
        | nil => simp [RpL]
        | cons c l ih => simp only [List.map_cons, RpL]; exact ⟨c, l, rfl, by simp [Rp], ih⟩
      exact this _
  | .ls _ _, y, u, hs, e => by simp only [subA] at hs; subst hs; exact e
  | .own _, y, u, hs, e => by simp only [subA] at hs; subst hs; exact e
  | .ptr _ _, y, u, hs, e => by simp only [subA] at hs; subst hs; exact e
  | .elt _ _ _ _, y, u, hs, e => by simp only [subA] at hs; subst hs; exact e
  | .vw _ _ _ _, y, u, hs, e => by simp only [subA] at hs; subst hs; exact e
  | .mp _, y, u, hs, e => by simp only [subA] at hs; subst hs; exact e
  | .yl _, y, u, hs, e => by simp only [subA] at hs; subst hs; exact e
  | .rp _, y, u, hs, e => by simp only [subA] at hs; subst hs; exact e
  | .cl _ _, y, u, hs, e => by simp only [subA] at hs; subst hs; exact e
  | .bm _ _ _, y, u, hs, e => by simp only [subA] at hs; subst hs; exact e
  | .tup _, y, u, hs, e => by simp only [subA] at hs; subst hs; exact e
  | .any, y, u, hs, e => by simp only [subA] at hs; subst hs; exact e
theorem subL_ok {h : GH} {φ : Nat → Value} {n : Nat} : ∀ {cs ds : List AV} {us : List Value}, subL cs ds → RpL h φ n cs us → RpL h φ n ds us
  | [], ds, us, hs, e => by simp only [subL] at hs; subst hs; exact e
  | c :: cs, ds, us, hs, e => by
    simp only [subL] at hs
    obtain ⟨d, ds', rfl, h1, h2⟩ := hs
    simp only [RpL] at e ⊢
    obtain ⟨u, us', h3, h4, h5⟩ := e
    exact ⟨u, us', h3, subA_ok h1 h4, subL_ok h2 h5⟩
end
theorem callW_ok0 {f : FuncId} {args : List AV} {K : AV → Tab → Prop} (hc : callW0 P G f args T K) (hG : GOk G h) (hI : Inv h φ w T) {vals : Array Value} (ha : RpL h φ T.length args vals.toList) :
    ((callFunc f vals).run P w = .ok (.enter f vals) w ∧ Calls P f vals w (fun e w' => ∃ v, e = .returned v ∧ Ret h φ T w K v w')) ∨
    (∃ v w', (callFunc f vals).run P w = .ok (.value v) w' ∧ Ret h φ T w K v w') := by
  rcases hc with ⟨L, hL, hlt, hc⟩ | ⟨hids, hc⟩
  · have hφ : Names L φ (fun j => φ (L.getD j 0)) := by
      intro j i e
      simp [List.getD_eq_getElem?_getD, e]
    have hlen : (rnT L T).length = L.length := by simp [rnT]
    have back : ∀ v w', Ret h (fun j => φ (L.getD j 0)) (rnT L T) w (fun r T' => K (bkA L T.length r) (bkT L T.length T L T')) v w' → Ret h φ T w K v w' := by
      rintro v w' ⟨r, T', h', φ', e1, e2, e3, e4⟩
      obtain ⟨φ2, e5, e6, e7⟩ := ret_bk hL hlt hI hφ e2 e3 e4
      exact ⟨_, _, h', φ2, e1, e5, e6, e7⟩
    exact (hc h _ w vals hG (inv_rn hL hI hφ) (by rw [hlen]; exact rnL_ok hφ ha)).imp
      (fun ⟨e, c⟩ => ⟨e, c.mono fun _ w' ⟨v, e1, e2⟩ => ⟨v, e1, back v w' e2⟩⟩) (fun ⟨v, w', e, c⟩ => ⟨v, w', e, back v w' c⟩)
  · have back : ∀ v w', Ret (lentG h φ T w) φ [] w (fun r T' => flatA r ∧ (∀ o ∈ T', flatO o) ∧ K (bkA [] T.length r) (T ++ T'.map (bkO [] T.length))) v w' → Ret h φ T w K v w' := by
      rintro v w' ⟨r, T', h', φ', ⟨f1, f2, e1⟩, e2, e3, e4⟩
      obtain ⟨h2, φ2, e5, e6, e7⟩ := ret_lend hI e2 e3 e4 f1 f2
      exact ⟨_, _, h2, φ2, e1, e5, e6, e7⟩
    exact (hc (lentG h φ T w) φ w vals (hG.mono (lentG_le hI)) (lent_inv hI φ) (lendL_ok hI hids ha)).imp
      (fun ⟨e, c⟩ => ⟨e, c.mono fun _ w' ⟨v, e1, e2⟩ => ⟨v, e1, back v w' e2⟩⟩) (fun ⟨v, w', e, c⟩ => ⟨v, w', e, back v w' c⟩)
theorem callW_ok {f : FuncId} {args : List AV} {K : AV → Tab → Prop} (hc : callW P G f args T K) (hG : GOk G h) (hI : Inv h φ w T) {vals : Array Value} (ha : RpL h φ T.length args vals.toList) :
    ((callFunc f vals).run P w = .ok (.enter f vals) w ∧ Calls P f vals w (fun e w' => ∃ v, e = .returned v ∧ Ret h φ T w K v w')) ∨
    (∃ v w', (callFunc f vals).run P w = .ok (.value v) w' ∧ Ret h φ T w K v w') := by
  obtain ⟨args', hs, hc⟩ := hc
  exact callW_ok0 hc hG hI (subL_ok hs ha)
end
end Hud
end
