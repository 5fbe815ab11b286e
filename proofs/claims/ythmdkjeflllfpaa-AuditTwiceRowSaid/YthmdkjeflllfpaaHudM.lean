/- Arrays made, arrays and boxes written, arrays appended to. -/
import Derived.Test.YthmdkjeflllfpaaHudL
set_option linter.all false
namespace Hud
open Go

theorem flat_groups {k : Nat} : ∀ (n : Nat) (cs : List AV), cs.length = n * k → (groups k n cs).flatten = cs ∧ (groups k n cs).length = n ∧ ∀ e ∈ groups k n cs, e.length = k
  | 0, cs, hl => by
    have : cs = [] := List.eq_nil_of_length_eq_zero (by simpa using hl)
    subst this
    simp [groups]
  | n + 1, cs, hl => by
    rw [Nat.succ_mul] at hl
    obtain ⟨h1, h2, h3⟩ := flat_groups (k := k) n (cs.drop k) (by rw [List.length_drop]; omega)
    refine ⟨by simp [groups, h1], by simp [groups, h2], fun e he => ?_⟩
    simp only [groups, List.mem_cons] at he
    rcases he with rfl | he
    · rw [List.length_take]; omega
    · exact h3 e he

theorem closed_ok {h : GH} {φ : Nat → Value} {n : Nat} : ∀ {x : AV} {u : Value}, Rp h φ n x u → closedA x = true → RpD h x u
  | .v _, u, e, _ => by simpa [Rp, RpD] using e
  | .ls k es, u, e, _ => by simpa only [Rp] using e
  | .ag _, _, _, hc => by simp [closedA] at hc
  | .own _, _, _, hc => by simp [closedA] at hc
  | .ptr _ _, _, _, hc => by simp [closedA] at hc
  | .elt _ _ _ _, _, _, hc => by simp [closedA] at hc
  | .vw _ _ _ _, _, _, hc => by simp [closedA] at hc
  | .mp _, _, _, hc => by simp [closedA] at hc
  | .rp _, _, _, hc => by simp [closedA] at hc
  | .cl _ _, _, _, hc => by simp [closedA] at hc
  | .tup _, _, _, hc => by simp [closedA] at hc
  | .any, _, _, hc => by simp [closedA] at hc
theorem closedL_ok {h : GH} {φ : Nat → Value} {n : Nat} {cs : List AV} {us : List Value} (e : RpL h φ n cs us) (hc : ∀ c ∈ cs, closedA c = true) : RpDL h cs us :=
  RpDL.mk e.length fun i c u hi hu => by
    obtain ⟨u', h1, h2⟩ := e.get hi
    rw [hu] at h1
    injection h1 with h1
    subst h1
    exact closed_ok h2 (hc c (List.mem_of_getElem? hi))
theorem closed_one {x : AV} (e : closedA x = true) : oneC x = true := by
  cases x <;> simp_all [closedA, oneC]
  rename_i v
  cases v <;> simp_all [closedA, oneC]

theorem repZ_len (z : List Value) : ∀ n, (repZ z n).length = n * z.length
  | 0 => by simp [repZ]
  | n + 1 => by simp [repZ, repZ_len z n, Nat.succ_mul]; omega
theorem repZ_get (z : List Value) (hz : 0 < z.length) : ∀ (n i : Nat), i < n * z.length → (repZ z n)[i]? = z[i % z.length]?
  | 0, i, hi => by simp at hi
  | n + 1, i, hi => by
    simp only [repZ]
    by_cases hlt : i < z.length
    · rw [List.getElem?_append_left hlt, Nat.mod_eq_of_lt hlt]
    · rw [List.getElem?_append_right (by omega), repZ_get z hz n (i - z.length) (by rw [Nat.add_mul, Nat.one_mul] at hi; omega)]
      congr 1
      exact (Nat.mod_eq_sub_mod (by omega)).symm
theorem rep_range (z : Array Value) (hz : 0 < z.size) (n : Nat) : ((Array.range (n * z.size)).map fun i => z[i % z.size]!).toList = repZ z.toList n := by
  apply List.ext_getElem?
  intro i
  rcases Nat.lt_or_ge i (n * z.size) with hi | hi
  · rw [repZ_get z.toList (by simpa using hz) n i (by simpa using hi)]
    have hm : i % z.size < z.size := Nat.mod_lt _ hz
    simp [hi, hm]
  · rw [List.getElem?_eq_none (by simp; omega), List.getElem?_eq_none (by rw [repZ_len]; simpa using hi)]

theorem RpDL.app {h : GH} {cs ds : List AV} {us vs : List Value} (a : RpDL h cs us) (b : RpDL h ds vs) : RpDL h (cs ++ ds) (us ++ vs) := by
  induction cs generalizing us with
  | nil => simp only [RpDL] at a; subst a; simpa using b
  | cons c cs ih =>
    simp only [RpDL] at a
    obtain ⟨u, us', rfl, h1, h2⟩ := a
    simp only [List.cons_append, RpDL]
    exact ⟨u, us' ++ vs, rfl, h1, ih h2⟩
theorem RpDL.take {h : GH} {cs : List AV} {us : List Value} (a : RpDL h cs us) (m : Nat) : RpDL h (cs.take m) (us.take m) := by simpa using a.sub 0 m
theorem RpDL.drop {h : GH} {cs : List AV} {us : List Value} (a : RpDL h cs us) (m : Nat) : RpDL h (cs.drop m) (us.drop m) := by
  have := a.sub m cs.length
  rwa [List.take_of_length_le (by simp), List.take_of_length_le (by rw [List.length_drop, a.length]; omega)] at this

theorem flat_set {k : Nat} : ∀ {es : List (List AV)}, (∀ e ∈ es, e.length = k) → ∀ {j : Nat} {e : List AV}, es[j]? = some e → ∀ {off n : Nat} {x : List AV}, off + n ≤ k →
    (es.set j (e.take off ++ x ++ e.drop (off + n))).flatten = es.flatten.take (j * k + off) ++ x ++ es.flatten.drop (j * k + off + n)
  | [], _, j, e, hj, _, _, _, _ => by simp at hj
  | d :: es, hl, j, e, hj, off, n, x, hle => by
    have hd := hl d (by simp)
    cases j with
    | zero =>
      simp only [List.getElem?_cons_zero, Option.some.injEq] at hj
      subst hj
      simp only [List.set_cons_zero, List.flatten_cons, Nat.zero_mul, Nat.zero_add]
      rw [List.take_append_of_le_length (by omega), List.drop_append_of_le_length (by omega)]
      simp [List.append_assoc]
    | succ j =>
      simp only [List.getElem?_cons_succ] at hj
      simp only [List.set_cons_succ, List.flatten_cons]
      rw [flat_set (fun e he => hl e (by simp [he])) hj hle]
      have e1 : (j + 1) * k + off = d.length + (j * k + off) := by rw [Nat.add_mul, Nat.one_mul, hd]; omega
      rw [e1, Nat.add_assoc d.length, List.take_length_add_append, List.drop_length_add_append]
      simp [List.append_assoc]
theorem take_mid {α : Type} (L vals : List α) (p n m : Nat) (h1 : p + n ≤ m) (h2 : m ≤ L.length) (hv : vals.length = n) :
    (L.take p ++ vals ++ L.drop (p + n)).take m = (L.take m).take p ++ vals ++ (L.take m).drop (p + n) := by
  rw [List.take_append, List.take_of_length_le (by simp; omega), List.drop_take, List.take_take]
  congr 2
  · congr 1; omega
  · simp; omega

section
variable {P : Program} {G : Nat → Option (List AV)} {h : GH} {φ : Nat → Value} {T : Tab} {w : World} {s : List (Nat × AV)} {a : Act}

theorem ghost_new (hI : Inv h φ w T) : h w.heap.size = none := by
  cases e : h w.heap.size with
  | none => rfl
  | some cs => have := ghost_lt hI e; omega

/-- A new row is an array of the call's own. 'pre': what was drawn ahead. -/
theorem new_arr (hI : Inv h φ w T) {w1 : World} (h1 : w1.heap = w.heap) (hos : w1.os = w.os) (htp : w1.tape = w.tape) (hout : w1.output = w.output) {k n c : Nat} {es : List (List AV)} (hes : ∀ e ∈ es, e.length = k ∧ ∀ c ∈ e, closedA c = true) (hn : es.length = n) {cur : Array Value} (hc : n ≤ c) (hcm : c ≤ maxLen) (hcs : cur.size = c * k)
    (hr : RpDL h es.flatten (cur.toList.take (n * k))) (E : TypeId) (hdr : w.drawn ≤ w1.drawn := by first | exact Nat.le_refl _ | exact Nat.le_succ _ | assumption) :
    Makes h φ T w (.ok (.slice (some ⟨w.heap.size, 0, none⟩) n c) (w1.alloc (.cells cur E))) (.own T.length) (T ++ [some (.arr k es)]) := by
  subst hn
  have hsz : w1.heap.size = w.heap.size := by rw [h1]
  have hnew : (w1.alloc (.cells cur E)).heap[w.heap.size]? = some (.cells cur E (0, 0)) := by rw [← hsz]; exact heap_alloc_new w1 _
  have := inv_new (w' := w1.alloc (.cells cur E)) (o := .arr k es) (v := .slice (some ⟨w.heap.size, 0, none⟩) es.length c) hI hos htp hout (by simp [hsz]) (fun b hb => by rw [heap_alloc_lt w1 _ b (by omega), h1])
    (fun g hg => by simp only [blk, Option.some.injEq] at hg; omega)
    ⟨hes, .inr ⟨w.heap.size, c, cur, E, upd_self, hnew, hc, hcm, hcs, ghost_new hI, hr⟩⟩
  refine ⟨_, _, h, _, rfl, this.2, this.1, ?_⟩
  simp only [Rp]
  exact ⟨by simp, upd_self.symm, _, _, _, rfl⟩

theorem bsl_makes {t e : TypeId} (ht : P.underlying t = some (.slice e)) {i : TypeInfo} (hi : P.info? e = some i) {z : Value} (hz : i.zero = some z) (hzs : z.cells.size = i.size) (h0 : 0 < i.size) {len : Nat} (hlen : len * i.size ≤ 2 ^ 20) (hpos : 0 < len) {parts : Array (Nat × Operand)}
    (hG : GOk G h) (hI : Inv h φ w T) (hS : SOk h φ T.length s a) {x : AV} {T' : Tab}
    (he : hop T (evO G s) (.bsl i.size (repZ z.cells.toList len) (partsA i.size parts.toList) len) = some (x, T')) :
    Makes h φ T w ((Instr.buildSlice t len (parts.map fun (i, x) => (i, a.eval x))).run P w) x T' := by
  simp only [hop] at he
  split at he
  · rename_i cs hcs
    split at he
    · rename_i hcl
      injection he with he; injection he with e1 e2; subst e1; subst e2
      obtain ⟨vs, h1, h2⟩ := lay_ok hG hS (partsA i.size parts.toList) (rpl_v h φ T.length (repZ z.cells.toList len)) hcs
      have hrange := rep_range z.cells (by omega) len
      have hfill := fill_ok (place := fun j => some (j * i.size, i.size)) (fun j => (j * i.size, i.size)) (parts.toList.map fun p => (p.1, a.eval p.2)) ((Array.range (len * z.cells.size)).map fun j => z.cells[j % z.cells.size]!) vs (fun p _ => rfl)
        (by rw [hrange, ← h1, partsA_eq]; simp [partsV, List.map_map, Function.comp_def])
      have hl : cs.length = len * i.size := by
        have lay_len : ∀ (l : List (Nat × Nat × AV)) (cells cs : List AV), layA cells l = some cs → cs.length = cells.length := by
          intro l
          induction l with
          | nil => intro cells cs e; simp only [layA, Option.some.injEq] at e; rw [e]
          | cons p l ih =>
            intro cells cs e
            obtain ⟨off, n, y⟩ := p
            simp only [layA] at e
            split at e
            · rename_i hc
              rw [ih _ _ e]
              simp only [List.length_append, List.length_take, List.length_drop]
              omega
            · simp at e
        rw [lay_len _ _ _ hcs, List.length_map, repZ_len, Array.length_toList, hzs]
      obtain ⟨g1, g2, g3⟩ := flat_groups len cs hl
      have hvl := h2.length
      have hrun : (Instr.buildSlice t len (parts.map fun (i, x) => (i, a.eval x))).run P w = .ok (.slice (some ⟨w.heap.size, 0, none⟩) len len) (w.alloc (.cells vs.toArray e)) := by
        have hne : ¬ (len * i.size = 0) := by
          have := Nat.mul_pos hpos h0; omega
        have hsz : ¬ (16777216 < len * i.size) := by omega
        rw [hzs] at hfill
        simp only [Instr.buildSlice, Sem.run_bind, run_underlying ht, Result.andThen_ok, Go.sizeOf, typeInfo, run_program, hi, Sem.run_pure, zeroValue, hz]
        simp only [Sem.run_ite, hne, if_false, gt_iff_lt, Nat.reducePow, hsz, Sem.run_bind, run_program, Result.andThen_ok, hi, hz, Sem.run_pure, Array.toList_map, hzs]
        simp [hfill, newRow]
      rw [hrun]
      have hlm : len ≤ maxLen := by
        have h' : len ≤ len * i.size := Nat.le_mul_of_pos_right _ h0
        unfold maxLen; omega
      have hvs : vs.toArray.size = len * i.size := by rw [List.size_toArray]; omega
      refine new_arr hI rfl rfl rfl rfl (fun d hd => ⟨g3 d hd, fun c hc => List.all_eq_true.1 hcl c (by rw [← g1]; exact List.mem_flatten.2 ⟨d, hd, hc⟩)⟩) g2 (Nat.le_refl _) hlm hvs ?_ e
      rw [g1]
      have : (vs.toArray.toList.take (len * i.size)) = vs := List.take_of_length_le (by show vs.length ≤ _; rw [← hvl, hl]; exact Nat.le_refl _)
      rw [this]
      exact closedL_ok h2 fun c hc => List.all_eq_true.1 hcl c hc
    · simp at he
  · simp at he

/-- A row of cells written over. -/
theorem set_row {i : Nat} {o o' : AObj} (hI : Inv h φ w T) (hi : T[i]? = some (some o)) {g : Nat} {cur new : Array Value} {E : TypeId} (hw : w.heap[g]? = some (.cells cur E (0, 0))) (hbl : blk (φ i) = some g)
    (ho : objAt h φ T.length (w.setRow g new) i o') : Inv h φ (w.setRow g new) (T.set i (some o')) ∧ Evo h φ T w h φ (T.set i (some o')) (w.setRow g new) :=
  inv_set (w' := w.setRow g new) hI rfl rfl rfl (by simp) hi (fun b _ hne => setRow_other w g b new fun e => hne (by rw [hbl, e])) ho

theorem st_makes {t : TypeId} {n : Nat} (ht : sizeT P t = some n) (hG : GOk G h) (hI : Inv h φ w T) (hS : SOk h φ T.length s a) {p q : Operand} {x : AV} {T' : Tab} (he : hop T (evO G s) (.st n p q) = some (x, T')) :
    ∃ w', (Instr.storeAt t (a.eval p) (a.eval q)).run P w = .ok () w' ∧ x = .v undef ∧ Evo h φ T w h φ T' w' ∧ Inv h φ w' T' := by
  have hp := ev_ok hG hS p
  have run : ∀ (g o : Nat) (cur : Array Value) (E : TypeId), w.heap[g]? = some (.cells cur E (0, 0)) → (∀ c ∈ cellsA (evO G s q), oneC c = true) → (cellsA (evO G s q)).length = n → o + n ≤ cur.size →
      (Instr.storeAt t (.pointer (some ⟨g, o, none⟩)) (a.eval q)).run P w = .ok () (w.setRow g (cur.toList.take o ++ (a.eval q).cells.toList ++ cur.toList.drop (o + n)).toArray) := by
    intro g o cur E hw hone hlen hle
    have hx := cellsA_ok (ev_ok hG hS q) hone
    have hl := hx.length
    rw [hlen] at hl
    have h1 : ∀ v ∈ (a.eval q).cells.toList, v.oneCell' = true := by
      intro v hv
      obtain ⟨j, hj⟩ := List.getElem?_of_mem hv
      have hjl : j < (cellsA (evO G s q)).length := by
        rw [hx.length]
        rcases Nat.lt_or_ge j (a.eval q).cells.toList.length with hh | hh
        · exact hh
        · rw [List.getElem?_eq_none hh] at hj; simp at hj
      obtain ⟨u, h2, h3⟩ := hx.get (List.getElem?_eq_getElem hjl)
      rw [hj] at h2
      injection h2 with h2
      subst h2
      exact oneC_ok h3 (hone _ (List.getElem_mem hjl))
    have := run_storeCells_at P g o E (a.eval q).cells.toList 0 cur w hw (by omega) h1
    have hsz : (a.eval q).cells.size = n := by rw [← Array.length_toList]; exact hl.symm
    simp only [Nat.add_zero] at this
    rw [← hl] at this
    simp [Instr.storeAt, Instr.sureAddr, storeVar, sizeT_some ht, hsz, this]
  simp only [hop] at he
  split at he
  · rename_i i off hev
    rw [hev] at hp; simp only [Rp] at hp
    obtain ⟨_, g, hφ, hu⟩ := hp
    split at he
    · rename_i cs hg
      split at he
      · rename_i hc
        obtain ⟨c1, c2, c3⟩ := hc
        injection he with he; injection he with e1 e2; subst e1; subst e2
        obtain ⟨g', us, E, hφ', hw, hgh, hr⟩ := box_cells hI hg
        rw [hφ] at hφ'
        injection hφ' with hφ'; injection hφ' with hφ'; injection hφ' with hφ'
        subst hφ'
        have hone : ∀ c ∈ cellsA (evO G s q), oneC c = true := fun c hc => List.all_eq_true.1 c3 c hc
        have hrl := hr.length
        rw [hu, run g off us E hw hone c1 (by simp only [Array.length_toList] at hrl; omega)]
        have hx := cellsA_ok (ev_ok hG hS q) hone
        have := set_row (o' := .box (cs.take off ++ cellsA (evO G s q) ++ cs.drop (off + n))) hI (getT_some hg) hw (by rw [hφ]; rfl)
          (new := (us.toList.take off ++ (a.eval q).cells.toList ++ us.toList.drop (off + n)).toArray)
          ⟨g, _, E, hφ, setRow_heap w g us _ E _ hw, hgh, by simpa using ((hr.take off).app hx).app (hr.drop (off + n))⟩
        exact ⟨_, rfl, rfl, this.2, this.1⟩
      · simp at he
    · simp at he
  · rename_i i k j off hev
    rw [hev] at hp; simp only [Rp] at hp
    obtain ⟨_, g, l, c, hφ, hu⟩ := hp
    split at he
    · rename_i k' es hg
      split at he
      · rename_i hk
        subst hk
        split at he
        · rename_i e hj
          split at he
          · rename_i hc
            obtain ⟨c1, c2, c3⟩ := hc
            injection he with he; injection he with e1 e2; subst e1; subst e2
            have hclosed : ∀ c ∈ cellsA (evO G s q), closedA c = true := fun c hc => List.all_eq_true.1 c3 c hc
            have hone : ∀ c ∈ cellsA (evO G s q), oneC c = true := fun c hc => closed_one (hclosed c hc)
            obtain ⟨hl0, h1 | ⟨g', c', cur, E, hφ', hw, h2, h3, h4, h5, h6⟩⟩ := arr_cells hI hg
            · rw [h1.2] at hj; simp at hj
            · rw [hφ] at hφ'
              injection hφ' with hφ' hl1 hc1; injection hφ' with hφ'; injection hφ' with hφ'
              subst hφ'
              have hl : ∀ e ∈ es, e.length = k := fun e he => (hl0 e he).1
              have hjl : j < es.length := by
                rcases Nat.lt_or_ge j es.length with hh | hh
                · exact hh
                · simp [List.getElem?_eq_none hh] at hj
              have hel : e.length = k := hl e (List.mem_of_getElem? hj)
              have hjk : (j + 1) * k ≤ es.length * k := Nat.mul_le_mul_right k hjl
              have hck : es.length * k ≤ c' * k := Nat.mul_le_mul_right k h2
              rw [Nat.succ_mul] at hjk
              rw [hu, run g _ cur E hw hone c1 (by omega)]
              have hx := closedL_ok (cellsA_ok (ev_ok hG hS q) hone) hclosed
              have hflat := flat_set (x := cellsA (evO G s q)) hl hj (off := off) (n := n) (by omega)
              have hnl : ∀ d ∈ es.set j (e.take off ++ cellsA (evO G s q) ++ e.drop (off + n)), d.length = k ∧ ∀ c ∈ d, closedA c = true := by
                intro d hd
                rcases List.mem_or_eq_of_mem_set hd with hd | rfl
                · exact hl0 d hd
                · refine ⟨by simp only [List.length_append, List.length_take, List.length_drop]; omega, fun c hc => ?_⟩
                  have he0 := (hl0 e (List.mem_of_getElem? hj)).2
                  simp only [List.mem_append] at hc
                  rcases hc with (hc | hc) | hc
                  · exact he0 c (List.mem_of_mem_take hc)
                  · exact hclosed c hc
                  · exact he0 c (List.mem_of_mem_drop hc)
              have hxl := hx.length
              have hcl : (a.eval q).cells.toList.length = n := by omega
              have h6l := h6.length
              rw [flat_len hl] at h6l
              have hcur : es.length * k ≤ cur.toList.length := by rw [show cur.toList.length = cur.size from Array.length_toList, h4]; exact hck
              have hpm : j * k + off + n ≤ es.length * k := by omega
              have hnew : (cur.toList.take (j * k + off) ++ (a.eval q).cells.toList ++ cur.toList.drop (j * k + off + n)).length = c * k := by
                have e1 : cur.toList.length = c * k := by rw [show cur.toList.length = cur.size from Array.length_toList, h4, hc1]
                simp only [List.length_append, List.length_take, List.length_drop, hcl]
                omega
              have := set_row (o' := .arr k (es.set j (e.take off ++ cellsA (evO G s q) ++ e.drop (off + n)))) hI (getT_some hg) hw (by rw [hφ]; rfl)
                (new := (cur.toList.take (j * k + off) ++ (a.eval q).cells.toList ++ cur.toList.drop (j * k + off + n)).toArray)
                ⟨hnl, .inr ⟨g, c, _, E, by rw [hφ, List.length_set, hl1], setRow_heap w g cur _ E _ hw, by rw [List.length_set]; omega, by omega, by
                  rw [List.size_toArray]; exact hnew, h5, by
                  rw [hflat, List.length_set]
                  have := take_mid cur.toList (a.eval q).cells.toList (j * k + off) n (es.length * k) hpm hcur hcl
                  show RpDL h _ (List.take _ (cur.toList.take (j * k + off) ++ (a.eval q).cells.toList ++ cur.toList.drop (j * k + off + n)))
                  rw [this]
                  exact ((h6.take _).app hx).app (h6.drop _)⟩⟩
              exact ⟨_, rfl, rfl, this.2, this.1⟩
          · simp at he
        · simp at he
      · simp at he
    · simp at he
  · simp at he
end
end Hud
