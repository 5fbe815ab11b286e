import Derived.Test.YtialbdgcgiaebaaGreatLib04
import Derived.Lib.ConvBytes
import Derived.Laws.BytesString
import Derived.Laws.MakeOwn
import Derived.Maps.RangeRun
set_option linter.all false
section
namespace Hud
open Go
section
variable {P : Program} {G : Nat → Option (List AV)} {h : GH} {φ : Nat → Value} {T : Tab} {w : World} {s : List (Nat × AV)} {a : Act}
theorem bsl0_makes {t e : TypeId} (ht : P.underlying t = some (.slice e)) {i : TypeInfo} (hi : P.info? e = some i)
    (hI : Inv h φ w T) {ev : Operand → AV} {x : AV} {T' : Tab} (he : hop T ev (.bsl i.size [] [] 0) = some (x, T')) :
    Makes h φ T w ((Instr.buildSlice t 0 #[]).run P w) x T' := by
  simp only [hop, List.map_nil, layA, List.all_nil, if_true, groups, Option.some.injEq, Prod.mk.injEq] at he
  obtain ⟨rfl, rfl⟩ := he
  have hrun : (Instr.buildSlice t 0 #[]).run P w = .ok (.slice (some ⟨w.heap.size, 0, none⟩) 0 0) (w.alloc (.cells #[] e)) := by
    simp [Instr.buildSlice, run_underlying ht, Go.sizeOf, typeInfo, hi, newRow, Instr.fill, Array.range_zero']
  rw [hrun]
  exact new_arr (n := 0) (c := 0) (es := []) (k := i.size) hI rfl rfl rfl rfl (fun d hd => absurd hd (by simp)) rfl (Nat.le_refl _) (Nat.zero_le _) (by simp) (by simp [RpDL]) e
theorem rpdl_v (h : GH) : ∀ us : List Value, RpDL h (us.map .v) us
  | [] => by simp [RpDL]
  | u :: us => by simp only [List.map_cons, RpDL]; exact ⟨u, us, rfl, by simp [RpD], rpdl_v h us⟩
theorem madeCells_take (z : Array Value) (n m : Nat) (hz : 0 < z.size) (hnm : n ≤ m) : (madeCells z (m * z.size)).toList.take (n * z.size) = (List.replicate n z.toList).flatten := by
  have key : ∀ n, (List.replicate n z.toList).flatten = repZ z.toList n := by
    intro n
    induction n with
    | zero => rfl
    | succ n ih => simp [List.replicate_succ, repZ, ih]
  rw [key]
  apply List.ext_getElem?
  intro j
  have hle : n * z.size ≤ m * z.size := Nat.mul_le_mul_right _ hnm
  by_cases hj : j < n * z.size
  · have hm : j < m * z.size := by omega
    rw [List.getElem?_take, if_pos hj, Array.getElem?_toList, madeCells, Array.getElem?_map, Array.getElem?_range, if_pos hm, repZ_get z.toList (by simpa using hz) n j (by simpa using hj)]
    have hmod : j % z.size < z.size := Nat.mod_lt _ hz
    simp [getElem!_pos z (j % z.size) hmod, hmod]
  · rw [List.getElem?_take, if_neg hj, List.getElem?_eq_none]
    rw [repZ_len]
    simpa using hj
theorem mks_makes {t e : TypeId} (ht : P.underlying t = some (.slice e)) {i : TypeInfo} (hi : P.info? e = some i) {z : Value} (hz : i.zero = some z) (hzs : z.cells.size = i.size) (h0 : 0 < i.size) (hcl : (z.cells.toList.all fun x => closedA (.v x)) = true)
    (hG : GOk G h) (hI : Inv h φ w T) (hS : SOk h φ T.length s a) {p q : Operand} {x : AV} {T' : Tab} (he : hop T (evO G s) (.mks i.size z.cells.toList i.bytes p q) = some (x, T')) :
    Makes h φ T w ((Instr.makeSlice t (a.eval p) (a.eval q)).run P w) x T' := by
  simp only [hop] at he
  split at he
  · rename_i n c hp hq
    split at he
    · rename_i hc
      obtain ⟨c1, c2, c3, c4⟩ := hc
      injection he with he; injection he with e1 e2; subst e1; subst e2
      have hc4 : c ≤ 9223372036854775807 := by have := c4; simp only [maxLen] at this; omega
      rw [ev_v hG hS hp, ev_v hG hS hq, run_make w t e i z ht hi hz .i64 .i64 n c c1 c2 (by rw [Int.mul_comm]; omega) hc4]
      have hcn : n.toNat ≤ c.toNat := by omega
      have hcm : c.toNat ≤ maxLen := by omega
      refine new_arr hI rfl rfl rfl rfl (fun d hd => ?_) (List.length_replicate) hcn hcm ?_ ?_ e
      · rw [(List.mem_replicate.1 hd).2]
        refine ⟨by simp [hzs], fun y hy => ?_⟩
        obtain ⟨u, hu, rfl⟩ := List.mem_map.1 hy
        exact List.all_eq_true.1 hcl u hu
      · rw [size_madeCells]
      · rw [← hzs, madeCells_take z.cells _ _ (by omega) hcn]
        have : (List.replicate n.toNat (z.cells.toList.map AV.v)).flatten = ((List.replicate n.toNat z.cells.toList).flatten).map AV.v := by
          simp [List.map_flatten, List.map_replicate]
        rw [this]
        exact rpdl_v h _
    · simp at he
  · simp at he
def addG (h : GH) (b : Nat) (cs : Array Value) : GH := fun g => if g = b then some cs else h g
theorem inv_ghost {w' : World} (hI : Inv h φ w T) (hos : w'.os = w.os) (htp : w'.tape = w.tape) (hout : w'.output = w.output) (hsz : w.heap.size ≤ w'.heap.size)
    (hb : ∀ b, b < w.heap.size → w'.heap[b]? = w.heap[b]?) {cs : Array Value} {E : TypeId} {fr : Nat × Nat} (hn : w'.heap[w.heap.size]? = some (.cells cs E fr)) (hdr : w.drawn ≤ w'.drawn) :
    Inv (addG h w.heap.size cs) φ w' T ∧ Evo h φ T w (addG h w.heap.size cs) φ T w' := by
  have le : GLe h (addG h w.heap.size cs) := by
    intro b c e
    unfold addG
    rw [if_neg (by have := ghost_lt hI e; omega)]
    exact e
  have old : ∀ i x, T[i]? = some (some x) → i < T.length := by
    intro i x e
    rcases Nat.lt_or_ge i T.length with hh | hh
    · exact hh
    · rw [List.getElem?_eq_none hh] at e; simp at e
  refine ⟨⟨?_, ?_, ?_⟩, ⟨hos, htp, hout, hsz, fun b hb' _ => hb b hb', le, ?_, fun _ _ => rfl, fun i o b hi hbl => .inr ⟨i, o, hi, hbl⟩, Nat.le_refl _, hdr⟩⟩
  · intro b c e
    unfold addG at e
    split at e
    · rename_i hbe; subst hbe; injection e with e; subst e; exact ⟨E, fr, hn⟩
    · obtain ⟨E', fr', hw⟩ := hI.gh b c e
      exact ⟨E', fr', by rw [hb b (ghost_lt hI e)]; exact hw⟩
  · intro i x e
    have h1 := hI.obj i x e
    refine objAt_keep h1 le (Nat.le_refl _) (fun _ _ => rfl) (old i x e) fun g hg => ?_
    obtain ⟨h2, h3⟩ := objAt_blk h1 hg
    exact ⟨hb g h2, by unfold addG; rw [if_neg (by omega)]; exact h3⟩
  · exact hI.dis
  · intro b c e
    unfold addG at e
    split at e
    · rename_i hbe; exact .inr (.inl (by omega))
    · exact .inl e
theorem rpde_bytes {h : GH} {b : Nat} : ∀ (l : List UInt8) (o : Nat), (∀ j u, l[j]? = some u → cellG h b (o + j) = some (.int .u8 u.toNat)) → RpDE h b 1 (l.map fun b => [.v (.int .u8 b.toNat)]) o
  | [], _, _ => by simp [RpDE]
  | u :: l, o, hh => by
    simp only [List.map_cons, RpDE, RpDC]
    refine ⟨rfl, ⟨⟨_, rfl, by simpa using hh 0 u rfl, by simp [RpD]⟩, trivial⟩, rpde_bytes l (o + 1) fun j v hj => ?_⟩
    have := hh (j + 1) v (by simpa using hj)
    rw [← this]; congr 1; omega
theorem s2b_makes {src d e : TypeId} {u : TypeDesc} (hs : P.underlying src = some u) (hd : P.underlying d = some (.slice e)) (hu8 : P.underlying e = some (.int .u8))
    (hG : GOk G h) (hI : Inv h φ w T) (hS : SOk h φ T.length s a) {p : Operand} {x : AV} {T' : Tab} (he : hop T (evO G s) (.s2b p) = some (x, T')) :
    Makes h φ T w ((convert src d (a.eval p)).run P w) x T' := by
  simp only [hop] at he
  split at he
  · rename_i sb hp
    split at he
    · rename_i hc
      injection he with he; injection he with e1 e2; subst e1; subst e2
      rw [ev_v hG hS hp, Lib.run_convert_string_bytes w src d e sb hs hd hu8]
      obtain ⟨k1, k2⟩ := inv_ghost (w' := Lib.bytesWorld w e sb) hI rfl rfl rfl (by rw [Lib.bytesWorld_size]; omega) (fun b hb => Lib.bytesWorld_at_old w e sb b hb) (Lib.bytesWorld_at_new w e sb) (by simp [Lib.bytesWorld, World.freeze, World.alloc, World.drew, -World.alloc_eq, -World.drew_eq])
      have hl : (bytesE sb).length = sb.size := by simp [bytesE]
      refine ⟨_, _, _, _, rfl, k2, k1, ?_⟩
      simp only [Rp, RpD]
      refine ⟨_, _, by rw [hl], by rw [hl]; exact grownCap_ge w sb.size 0 e, grownCap_le_maxLen w sb.size 0 e hc, .inr ⟨_, 0, rfl, ?_⟩⟩
      refine rpde_bytes _ 0 fun j u hj => ?_
      have hjs : j < sb.data.size := by
        rcases Nat.lt_or_ge j sb.data.size with hh | hh
        · exact hh
        · rw [List.getElem?_eq_none (by simpa using hh)] at hj; simp at hj
      have hju : sb.data[j]? = some u := by simpa using hj
      simp only [cellG, addG, if_true, Option.bind_some, Nat.zero_add, Lib.bytesCells]
      rw [Array.getElem?_append_left (by simpa using hjs), Array.getElem?_map, hju]
      rfl
    · simp at he
  · simp at he
end
end Hud
end
section
namespace Hud
open Go
section
variable {P : Program} {G : Nat → Option (List AV)} {h : GH} {φ : Nat → Value} {T : Tab} {w : World} {s : List (Nat × AV)} {a : Act}
theorem elemsA_src {T : Tab} {k : Nat} {x : AV} {es : List (List AV)} (e : elemsA T k x = some es) : srcA T k x = some (es, true) := by
  unfold elemsA at e
  unfold srcA
  split at e
  · split at e
    · rename_i hk; subst hk; injection e with e; subst e; simp
    · simp at e
  · split at e
    · rename_i hg
      simp only [hg, rowsA]
      split at e
      · rename_i hk; subst hk; injection e with e; subst e; simp
      · simp at e
    · simp at e
  · injection e with e; subst e; rfl
  · split at e
    · rename_i hg
      simp only [hg, rowsA]
      split at e
      · rename_i hk; obtain ⟨rfl, rfl, hk⟩ := hk; injection e with e; subst e; simp [hk]
      · simp at e
    · simp at e
  · simp at e
theorem byteE_ok {h : GH} : ∀ {es : List (List AV)} {l : List UInt8} {us : List Value}, byteE es = some l → RpDL h es.flatten us → ∃ ns : List Int, us = ns.map (Value.int .u8) ∧ l = ns.map fun n => UInt8.ofNat n.toNat
  | [], l, us, e, hu => by
    simp only [byteE, Option.some.injEq] at e
    simp only [List.flatten_nil, RpDL] at hu
    subst e; subst hu
    exact ⟨[], rfl, rfl⟩
  | [.v (.int .u8 n)] :: r, l, us, e, hu => by
    simp only [byteE] at e
    split at e
    · rename_i l' hl
      injection e with e
      subst e
      simp only [List.flatten_cons, List.cons_append, List.nil_append, RpDL, RpD] at hu
      obtain ⟨u, us', rfl, rfl, h2⟩ := hu
      obtain ⟨ns, h3, h4⟩ := byteE_ok hl h2
      exact ⟨n :: ns, by simp [h3], by simp [h4]⟩
    · simp at e
theorem foldl_push : ∀ (ns : List Int) (s : ByteArray), ns.foldl (fun r n => r.push (UInt8.ofNat n.toNat)) s = ⟨(s.data.toList ++ ns.map fun n => UInt8.ofNat n.toNat).toArray⟩
  | [], s => by simp
  | n :: ns, s => by
    rw [List.foldl_cons, foldl_push ns]
    congr 1
    simp [ByteArray.push]
theorem b2s_gives {src d e : TypeId} (hs : P.underlying src = some (.slice e)) (hd : P.underlying d = some .string) (hu8 : P.underlying e = some (.int .u8))
    (hG : GOk G h) (hI : Inv h φ w T) (hS : SOk h φ T.length s a) {p : Operand} {x : AV} {T' : Tab} (he : hop T (evO G s) (.b2s p) = some (x, T')) :
    T' = T ∧ ∃ v, (convert src d (a.eval p)).run P w = .ok v w ∧ Rp h φ T.length x v := by
  have hp := ev_ok hG hS p
  simp only [hop] at he
  split at he
  · rename_i es hes
    split at he
    · rename_i l hl
      injection he with he; injection he with e1 e2; subst e1; subst e2
      obtain ⟨hnew, A, c, news, hu, hnl, hcells⟩ := src_ok hI hp (elemsA_src hes)
      obtain ⟨ns, h1, h2⟩ := byteE_ok hl hnl
      refine ⟨rfl, .string ⟨l.toArray⟩, ?_, by simp [Rp]⟩
      rw [hu, run_convert_bytes_string w src d e _ _ _ hs hu8 hd]
      have hlen : ns.length = es.length := by
        have := hnl.length
        rw [flat_len fun d hd => (hnew d hd).1, h1] at this
        simpa using this.symm
      cases A with
      | none =>
        rcases hcells with rfl | ⟨b, o, hA, _⟩
        · have : ns = [] := List.eq_nil_of_length_eq_zero (by simpa using hlen)
          subst this
          subst h2
          simp [Conv.bytesToString]
          rfl
        · simp at hA
      | some A =>
        have hload : (loadCells A es.length).run P w = .ok (ns.map (Value.int .u8)).toArray w := by
          rcases hcells with rfl | ⟨b, o, hA, hc⟩
          · have : ns = [] := List.eq_nil_of_length_eq_zero (by simpa using hlen)
            subst this
            simp [loadCells, loadCellsFrom]
          · injection hA with hA
            subst hA
            rw [← h1]
            have hnn : es.length = news.length := by rw [h1]; simpa using hlen.symm
            rw [hnn]
            exact run_loadCells_list w ⟨b, o, none⟩ news fun j v hj => by rw [add_none]; exact hc j v hj
        rw [run_bytesToString w A _ _ ns hload, foldl_push, h2]
        simp
    · simp at he
  · simp at he
theorem natA_ok (hG : GOk G h) (hS : SOk h φ T.length s a) {o : Operand} {n : Nat} (e : natA (evO G s o) = some n) : ∃ k i, a.eval o = .int k i ∧ 0 ≤ i ∧ n = i.toNat := by
  unfold natA at e
  split at e
  · rename_i k i hx
    split at e
    · rename_i h0
      injection e with e
      exact ⟨k, i, ev_v hG hS hx, h0, e.symm⟩
    · simp at e
  · simp at e
theorem run_slice3 {t e : TypeId} (ht : P.underlying t = some (.slice e)) {k : Nat} (hk : sizeT P e = some k) {A : Option Addr} {len cap l m x : Nat} {lo : Option Value} (hl : Bnd lo 0 l) {k1 k2 : IntKind} {i1 i2 : Int} (hm : 0 ≤ i1 ∧ m = i1.toNat) (hx : 0 ≤ i2 ∧ x = i2.toNat) (h1 : l ≤ m) (h2 : m ≤ x) (h3 : x ≤ cap) :
    (Instr.sliceAt t (.slice A len cap) lo (some (.int k1 i1)) (some (.int k2 i2))).run P w = .ok (.slice (if x = l then A else A.map (·.add (l * k))) (m - l) (x - l)) w := by
  obtain ⟨hm0, rfl⟩ := hm
  obtain ⟨hx0, rfl⟩ := hx
  rcases hl with ⟨rfl, rfl⟩ | ⟨k', i, rfl, h0, rfl⟩
  · simp [Instr.sliceAt, Instr.slice, run_underlying ht, Instr.sliceBounds, run_sliceBound hx0 h3, run_sliceBound hm0 h2, sizeT_some hk]
  · simp [Instr.sliceAt, Instr.slice, run_underlying ht, Instr.sliceBounds, run_sliceBound hx0 h3, run_sliceBound hm0 h2, run_sliceBound h0 h1, sizeT_some hk]
theorem emp_makes (hI : Inv h φ w T) (A : Option Addr) (k : Nat) : Makes h φ T w (.ok (.slice A 0 0) w) (.own T.length) (T ++ [some (.arr k [])]) := by
  have := inv_new (w' := w) (o := .arr k []) (v := .slice A 0 0) hI rfl rfl rfl (Nat.le_refl _) (fun _ _ => rfl) (fun g hg => by cases A <;> simp [blk] at hg) ⟨by simp, .inl ⟨A, upd_self, rfl⟩⟩
  refine ⟨_, w, h, _, rfl, this.2, this.1, ?_⟩
  simp only [Rp]
  exact ⟨by simp, upd_self.symm, _, _, _, rfl⟩
theorem gives_makes (hI : Inv h φ w T) {r : Result Value} {v : Value} {x : AV} (hr : r = .ok v w) (hx : Rp h φ T.length x v) : Makes h φ T w r x T := ⟨v, w, h, φ, hr, Evo.refl, hI, hx⟩
theorem slx_makes {t e : TypeId} (ht : P.underlying t = some (.slice e)) {k : Nat} (hk : sizeT P e = some k)
    (hG : GOk G h) (hI : Inv h φ w T) (hS : SOk h φ T.length s a) {p : Operand} {lo : Option Operand} {hi mx : Operand} {x : AV} {T' : Tab} (he : hop T (evO G s) (.slx p lo hi mx k) = some (x, T')) :
    Makes h φ T w ((Instr.sliceAt t (a.eval p) (lo.map a.eval) (some (a.eval hi)) (some (a.eval mx))).run P w) x T' := by
  have hp := ev_ok hG hS p
  simp only [hop] at he
  split at he
  · rename_i l m y hl hm hy
    obtain ⟨k1, i1, m1, m2, m3⟩ := natA_ok hG hS hm
    obtain ⟨k2, i2, y1, y2, y3⟩ := natA_ok hG hS hy
    have hl' : Bnd (lo.map a.eval) 0 l := by
      cases lo with
      | none => simp only [Option.some.injEq] at hl; exact .inl ⟨rfl, hl.symm⟩
      | some o => obtain ⟨k', i', l1, l2, l3⟩ := natA_ok hG hS hl; exact .inr ⟨k', i', by simp [l1], l2, l3⟩
    rw [m1, y1]
    split at he
    · rename_i k' es hev
      rw [hev] at hp; simp only [Rp, RpD] at hp
      obtain ⟨A, c, hu, h1, h2, h3⟩ := hp
      split at he
      · rename_i hc
        obtain ⟨rfl, hlm, hmy, hye⟩ := hc
        rw [hu, run_slice3 ht hk hl' ⟨m2, m3⟩ ⟨y2, y3⟩ hlm hmy (by omega)]
        split at he
        · rename_i hyl
          injection he with he; injection he with e1 e2; subst e1; subst e2
          rw [show m - l = 0 by omega, show y - l = 0 by omega]
          exact emp_makes hI _ _
        · injection he with he; injection he with e1 e2; subst e1; subst e2
          refine gives_makes hI rfl ?_
          have hlen : ((es.drop l).take (m - l)).length = m - l := by rw [List.length_take, List.length_drop]; omega
          simp only [Rp, RpD]
          refine ⟨_, y - l, by rw [hlen], by rw [hlen]; omega, by omega, ?_⟩
          by_cases h0 : m - l = 0
          · exact .inl (by rw [h0]; simp)
          · rcases h3 with rfl | ⟨b, o, rfl, hE⟩
            · simp at hye; omega
            · refine .inr ⟨b, o + l * k, by rw [if_neg (by omega)]; simp [add_none], ?_⟩
              exact (hE.drop l).take _
      · simp at he
    · rename_i i hev
      rw [hev] at hp; simp only [Rp] at hp
      split at he
      · rename_i k' es hg
        split at he
        · rename_i hc
          obtain ⟨rfl, hlm, hmy, hye⟩ := hc
          obtain ⟨_, h1 | ⟨g, c, cur, E, hφ, _, h2, h3, _⟩⟩ := arr_cells hI hg
          · obtain ⟨A, h1, rfl⟩ := h1
            rw [hp.2.1, h1]
            simp only [List.length_nil] at hye
            rw [run_slice3 ht hk hl' ⟨m2, m3⟩ ⟨y2, y3⟩ hlm hmy (by omega)]
            rw [if_pos (by omega)] at he
            injection he with he; injection he with e1 e2; subst e1; subst e2
            rw [show m - l = 0 by omega, show y - l = 0 by omega]
            exact emp_makes hI _ _
          · rw [hp.2.1, hφ, run_slice3 ht hk hl' ⟨m2, m3⟩ ⟨y2, y3⟩ hlm hmy (by omega)]
            split at he
            · injection he with he; injection he with e1 e2; subst e1; subst e2
              rw [show m - l = 0 by omega, show y - l = 0 by omega]
              exact emp_makes hI _ _
            · injection he with he; injection he with e1 e2; subst e1; subst e2
              refine gives_makes hI rfl ?_
              simp only [Rp]
              refine ⟨hp.1, _, _, rfl, by omega, by omega, ?_⟩
              by_cases h0 : m - l = 0
              · exact .inl h0
              · exact .inr ⟨g, _, c + 1, hφ, by rw [if_neg (by omega)]; simp [add_none], by omega⟩
        · simp at he
      · simp at he
    · rename_i i k' lo' n hev
      rw [hev] at hp; simp only [Rp] at hp
      obtain ⟨hi0, A, c, hu, h1, h2, h3⟩ := hp
      split at he
      · rename_i hc
        obtain ⟨rfl, hlm, hmy, hye⟩ := hc
        rw [hu, run_slice3 ht hk hl' ⟨m2, m3⟩ ⟨y2, y3⟩ hlm hmy (by omega)]
        split at he
        · injection he with he; injection he with e1 e2; subst e1; subst e2
          rw [show m - l = 0 by omega, show y - l = 0 by omega]
          exact emp_makes hI _ _
        · injection he with he; injection he with e1 e2; subst e1; subst e2
          refine gives_makes hI rfl ?_
          simp only [Rp]
          refine ⟨hi0, _, _, rfl, by omega, by omega, ?_⟩
          by_cases h0 : m - l = 0
          · exact .inl h0
          · rcases h3 with rfl | ⟨g, l', c', hφ, rfl, h4⟩
            · omega
            · exact .inr ⟨g, l', c', hφ, by rw [if_neg (by omega)]; simp [add_none, Nat.add_mul], by omega⟩
      · simp at he
    · rename_i hev
      split at he
      · rename_i hc
        obtain ⟨rfl, rfl, rfl⟩ := hc
        injection he with he; injection he with e1 e2; subst e1; subst e2
        rw [ev_v hG hS hev, run_slice3 ht hk hl' ⟨m2, m3⟩ ⟨y2, y3⟩ (Nat.le_refl _) (Nat.le_refl _) (Nat.le_refl _)]
        exact emp_makes hI _ _
      · simp at he
    · simp at he
  · simp at he
end
end Hud
end
section
namespace Hud
open Go
section
variable {P : Program} {G : Nat → Option (List AV)} {h : GH} {φ : Nat → Value} {T : Tab} {w : World} {s : List (Nat × AV)} {a : Act}
theorem men_makes {t kt et : TypeId} (ht : P.underlying t = some (.map kt et)) {ag : Bool} {ls : List LK} (hk : kindsT P 20 kt = some (ag, ls)) {i0 : TypeInfo} (hi0 : P.info? et = some i0) {z : Value} (hz : i0.zero = some z)
    (hG : GOk G h) (hI : Inv h φ w T) (hS : SOk h φ T.length s a) {m k : Operand} {x : AV} {T' : Tab} (he : hop T (evO G s) (.men ag ls z m k) = some (x, T')) :
    Makes h φ T w ((Instr.mapEntry t (a.eval m) (a.eval k)).run P w) x T' := by
  have hm := ev_ok hG hS m
  have hkv := ev_ok hG hS k
  simp only [hop] at he
  split at he
  · rename_i i hev
    rw [hev] at hm; simp only [Rp] at hm
    split at he
    · rename_i ag' ks vs bs cl kc hg hkc
      split at he
      · rename_i hag
        subst hag
        obtain ⟨hku, b, hb⟩ := keyC_ok hkv hkc
        have hck : ∀ em, (Instr.checkKey em 10000 kt (a.eval k)).run P w = .ok () w := fun em => by rw [hku]; exact ck_ok 20 kt ag ls hk 10000 (by omega) kc b hb
        obtain ⟨g, ens, h1, h2, h3, h4, h5, h6⟩ := map_at hI hg
        rw [hm.2.1, h1]
        split at he
        · rename_i hf
          injection he with he; injection he with e1 e2; subst e1; subst e2
          obtain ⟨out, f1, f2⟩ := find_ok (w := w) hk (by decide) h4 hf
          simp only [Found] at f1
          subst f1
          rw [← hku] at f2
          have hset := set_map hI hg h1 h2 (ens' := ens.push { key := a.eval k, val := z, born := cl }) (ks' := ks ++ [kc]) (vs' := vs ++ [.v z]) (bs' := bs ++ [cl]) (cl' := cl + 1)
            (by simp [h4, hku]) (by simp [h5]) (by simp only [Array.toList_push, List.map_append, List.map_cons, List.map_nil]; exact h6.app (by simp [RpL, Rp]))
          refine ⟨.tuple #[z, goInt cl], _, h, φ, by simp [Instr.mapEntry, run_underlying ht, getObj_map h2, hck, f2, zeroValue, typeInfo, hi0, hz, setObj_map _ h2], hset.2, hset.1, ?_⟩
          simp [Rp, RpL, goInt]
        · rename_i j hf
          split at he
          · rename_i x' b' hx' hb'
            injection he with he; injection he with e1 e2; subst e1; subst e2
            obtain ⟨out, f1, f2⟩ := find_ok (w := w) hk (by decide) h4 hf
            obtain ⟨_, e, f3, f4⟩ := f1
            subst f4
            rw [← hku] at f2
            simp only [Nat.sub_zero] at f3
            have hek : e.key = a.eval k := by
              have hkj : (ks.map (keyV ag))[j]? = some e.key := by rw [← h4, List.getElem?_map, f3]; rfl
              rw [List.getElem?_map] at hkj
              cases hkk : ks[j]? with
              | none => simp [hkk] at hkj
              | some k' =>
                simp only [hkk, Option.map_some, Option.some.injEq] at hkj
                have : eqV ls kc k' = some true := findK_eq ks 0 hf (by simpa using hkk)
                rw [← hkj, hku, eqV_true this]
            have f3' : ens[j]? = some e := by simpa using f3
            have hst : (Instr.keyThatStays e.key (a.eval k)).run P w = .ok (a.eval k) w := by
              rw [hek, hku]; exact stays_ok hb (eq_type (P := P) (w := w) 20 kt ag ls hk).1
            have hset := set_map hI hg h1 h2 (ens' := ens.modify j fun e => { e with key := a.eval k }) (ks' := ks) (vs' := vs) (bs' := bs) (cl' := cl)
              (by rw [modify_list, map_modify_key _ _ _ (fun e' he' => by rw [f3] at he'; injection he' with he'; subst he'; exact hek.symm)]; exact h4)
              (by rw [modify_list, map_modify_born ens.toList j (fun e => { e with key := a.eval k }) (fun _ => rfl)]; exact h5)
              (by
                rw [modify_list]
                have : (ens.toList.modify j fun e => { e with key := a.eval k }).map (·.val) = ens.toList.map (·.val) := by
                  apply List.ext_getElem?
                  intro n
                  simp only [List.getElem?_map, List.getElem?_modify]
                  by_cases hjn : j = n
                  · subst hjn; simp only [if_true]; cases ens.toList[j]? <;> rfl
                  · simp [hjn]
                rw [this]
                exact h6)
            have hTs : T.set i (some (.map ag ks vs bs cl)) = T := by
              have := getT_some hg
              apply List.ext_getElem?
              intro n
              rw [List.getElem?_set]
              split
              · rename_i hin; subst hin
                split
                · exact this.symm
                · rename_i hh; rw [List.getElem?_eq_none (by omega)] at this; simp at this
              · rfl
            rw [hTs] at hset
            have hborn : e.born = b' := by
              have : (ens.toList.map (·.born))[j]? = some e.born := by rw [List.getElem?_map, f3]; rfl
              rw [h5, hb'] at this
              exact (Option.some.inj this).symm
            have hval : Rp h φ T.length x' e.val := by
              obtain ⟨u, hu1, hu2⟩ := h6.get hx'
              rw [List.getElem?_map, f3] at hu1
              simp only [Option.map_some, Option.some.injEq] at hu1
              rw [hu1]; exact hu2
            refine ⟨.tuple #[e.val, goInt e.born], _, h, φ, by simp [Instr.mapEntry, run_underlying ht, getObj_map h2, hck, f2, f3', hst, setObj_map _ h2], hset.2, hset.1, ?_⟩
            simp only [Rp, RpL]
            exact ⟨_, rfl, _, _, rfl, hval, _, _, rfl, by simp [goInt, hborn], rfl⟩
          · simp at he
        · simp at he
      · simp at he
    · simp at he
  · simp at he
theorem findIdx_map {bs : List Nat} {ens : List MapEntry} (h : ens.map (·.born) = bs) (n : Int) : ens.findIdx? (fun e => (e.born : Int) == n) = bs.findIdx? (fun (b : Nat) => (b : Int) == n) := by
  subst h
  rw [List.findIdx?_map]
  rfl
theorem mst_makes {t : TypeId}
    (hG : GOk G h) (hI : Inv h φ w T) (hS : SOk h φ T.length s a) {m k q : Operand} {x : AV} {T' : Tab} (he : hop T (evO G s) (.mst m k q) = some (x, T')) :
    ∃ w', (Instr.entryStore t (a.eval m) (a.eval k) (a.eval q)).run P w = .ok () w' ∧ x = .v undef ∧ Evo h φ T w h φ T' w' ∧ Inv h φ w' T' := by
  have hm := ev_ok hG hS m
  have hq := ev_ok hG hS q
  simp only [hop] at he
  split at he
  · rename_i i ki n hev hn
    rw [hev] at hm; simp only [Rp] at hm
    split at he
    · rename_i ag ks vs bs cl hg
      split at he
      · rename_i j hj
        injection he with he; injection he with e1 e2; subst e1; subst e2
        obtain ⟨g, ens, h1, h2, h3, h4, h5, h6⟩ := map_at hI hg
        have hset := set_map hI hg h1 h2 (ens' := ens.modify j fun e => { e with val := a.eval q }) (ks' := ks) (vs' := vs.set j (evO G s q)) (bs' := bs) (cl' := cl)
          (by
            rw [modify_list]
            have : (ens.toList.modify j fun e => { e with val := a.eval q }).map (·.key) = ens.toList.map (·.key) := by
              apply List.ext_getElem?
              intro n
              simp only [List.getElem?_map, List.getElem?_modify]
              by_cases hjn : j = n
              · subst hjn; simp only [if_true]; cases ens.toList[j]? <;> rfl
              · simp [hjn]
            rw [this]; exact h4)
          (by rw [modify_list, map_modify_born ens.toList j (fun e => { e with val := a.eval q }) (fun _ => rfl)]; exact h5)
          (by rw [modify_list, map_modify_val ens.toList j (fun e => { e with val := a.eval q }) (a.eval q) (fun _ => rfl)]; exact h6.setv hq)
        have hf : ens.findIdx? (fun e => (e.born : Int) == n) = some j := by
          rw [show ens.findIdx? (fun e => (e.born : Int) == n) = ens.toList.findIdx? (fun e => (e.born : Int) == n) from by
            conv => lhs; rw [show ens = ens.toList.toArray from by rw [Array.toArray_toList]]
            rw [List.findIdx?_toArray], findIdx_map h5]
          exact hj
        refine ⟨_, ?_, rfl, hset.2, hset.1⟩
        rw [hm.2.1, h1, ev_v hG hS hn]
        simp [Instr.entryStore, getObj_map h2, asInt, asIntOf, hf, setObj_map _ h2]
      · simp at he
    · simp at he
  · simp at he
theorem erase_list {α : Type} (xs : Array α) (j : Nat) : (xs.eraseIdxIfInBounds j).toList = xs.toList.eraseIdx j := by
  unfold Array.eraseIdxIfInBounds
  split
  · simp
  · rename_i hh
    rw [List.eraseIdx_of_length_le]
    simpa using hh
theorem erase_map {α β : Type} (f : α → β) : ∀ (l : List α) (j : Nat), (l.eraseIdx j).map f = (l.map f).eraseIdx j
  | [], _ => rfl
  | _ :: l, 0 => rfl
  | x :: l, j + 1 => by simp [erase_map f l j]
theorem RpL.erase {cs : List AV} {us : List Value} {n : Nat} : ∀ {j : Nat}, RpL h φ n cs us → RpL h φ n (cs.eraseIdx j) (us.eraseIdx j) := by
  induction cs generalizing us with
  | nil => intro j e; simp only [RpL] at e; subst e; simp [RpL]
  | cons c cs ih =>
    intro j e
    simp only [RpL] at e
    obtain ⟨u, us', rfl, h1, h2⟩ := e
    cases j with
    | zero => simpa using h2
    | succ j => simp only [List.eraseIdx_cons_succ, RpL]; exact ⟨u, _, rfl, h1, ih h2⟩
theorem del_makes {t kt et ty : TypeId} (ht : P.underlying t = some (.map kt et)) {ag : Bool} {ls : List LK} (hk : kindsT P 20 kt = some (ag, ls)) {ts : Array TypeId} (hts : ts[0]? = some t)
    (hG : GOk G h) (hI : Inv h φ w T) (hS : SOk h φ T.length s a) {m k : Operand} {x : AV} {T' : Tab} (he : hop T (evO G s) (.del ag ls m k) = some (x, T')) :
    Makes h φ T w ((Builtin.delete_ ts ty #[a.eval m, a.eval k]).run P w) x T' := by
  have hm := ev_ok hG hS m
  have hkv := ev_ok hG hS k
  simp only [hop] at he
  split at he
  · rename_i i hev
    rw [hev] at hm; simp only [Rp] at hm
    split at he
    · rename_i ag' ks vs bs cl kc hg hkc
      split at he
      · rename_i hag
        subst hag
        obtain ⟨hku, b, hb⟩ := keyC_ok hkv hkc
        have hck : ∀ em, (Instr.checkKey em 10000 kt (a.eval k)).run P w = .ok () w := fun em => by rw [hku]; exact ck_ok 20 kt ag ls hk 10000 (by omega) kc b hb
        obtain ⟨g, ens, h1, h2, h3, h4, h5, h6⟩ := map_at hI hg
        rw [hm.2.1, h1]
        have hTs : T.set i (some (.map ag ks vs bs cl)) = T := by
          have := getT_some hg
          apply List.ext_getElem?
          intro n
          rw [List.getElem?_set]
          split
          · rename_i hin; subst hin
            split
            · exact this.symm
            · rename_i hh; rw [List.getElem?_eq_none (by omega)] at this; simp at this
          · rfl
        split at he
        · rename_i hf
          injection he with he; injection he with e1 e2; subst e1; subst e2
          obtain ⟨out, f1, f2⟩ := find_ok (w := w) hk (by decide) h4 hf
          simp only [Found] at f1
          subst f1
          rw [← hku] at f2
          have hset := set_map hI hg h1 h2 (ens' := ens) (ks' := ks) (vs' := vs) (bs' := bs) (cl' := cl) h4 h5 h6
          rw [hTs] at hset
          refine ⟨.tuple #[], _, h, φ, by simp [Builtin.delete_, hts, run_underlying ht, getObj_map h2, hck, f2, setObj_map _ h2], hset.2, hset.1, by simp [Rp]⟩
        · rename_i j hf
          injection he with he; injection he with e1 e2; subst e1; subst e2
          obtain ⟨out, f1, f2⟩ := find_ok (w := w) hk (by decide) h4 hf
          obtain ⟨_, e, f3, f4⟩ := f1
          subst f4
          rw [← hku] at f2
          have hset := set_map hI hg h1 h2 (ens' := ens.eraseIdxIfInBounds j) (ks' := ks.eraseIdx j) (vs' := vs.eraseIdx j) (bs' := bs.eraseIdx j) (cl' := cl)
            (by rw [erase_list, erase_map, h4, ← erase_map]) (by rw [erase_list, erase_map, h5]) (by rw [erase_list, erase_map]; exact h6.erase)
          refine ⟨.tuple #[], _, h, φ, by simp [Builtin.delete_, hts, run_underlying ht, getObj_map h2, hck, f2, setObj_map _ h2], hset.2, hset.1, by simp [Rp]⟩
        · simp at he
      · simp at he
    · simp at he
  · simp at he
end
end Hud
end
section
namespace Hud
open Go
section
variable {P : Program} {G : Nat → Option (List AV)} {h : GH} {φ : Nat → Value} {T : Tab} {w : World} {s : List (Nat × AV)} {a : Act}
theorem set_self {T : Tab} {j : Nat} {x : Option AObj} (h : T[j]? = some x) : T.set j x = T := by
  apply List.ext_getElem?
  intro m
  rw [List.getElem?_set]
  by_cases hm : j = m
  · subst hm
    have := (List.getElem?_eq_some_iff.1 h).1
    rw [if_pos rfl, if_pos this, h]
  · simp [hm]
theorem rgm_makes {t kt et : TypeId} (ht : P.underlying t = some (.map kt et)) (hG : GOk G h) (hI : Inv h φ w T) (hS : SOk h φ T.length s a) {m : Operand} {x : AV} {T' : Tab} (he : hop T (evO G s) (.rgm m) = some (x, T')) :
    Makes h φ T w ((Instr.range t (a.eval m)).run P w) x T' := by
  have hm := ev_ok hG hS m
  have key : ∀ (o : AObj) (mo : Option Nat) (since st : Nat), objAt h (upd φ T.length (.pointer (some ⟨w.heap.size, 0, none⟩))) (T.length + 1) (w.alloc (.mapIter mo since #[] st)) T.length o →
      Makes h φ T w (.ok (.pointer (some ⟨w.heap.size, 0, none⟩)) (w.alloc (.mapIter mo since #[] st))) (.ptr T.length 0) (T ++ [some o]) := by
    intro o mo since st ho
    have := inv_new (w' := w.alloc (.mapIter mo since #[] st)) (o := o) (v := .pointer (some ⟨w.heap.size, 0, none⟩)) hI rfl rfl rfl (by simp) (fun b hb => heap_alloc_lt w _ b hb)
      (fun g hg => by simp only [blk, Option.some.injEq] at hg; omega) ho
    refine ⟨_, _, h, _, rfl, this.2, this.1, ?_⟩
    simp only [Rp]
    exact ⟨by simp, _, upd_self, rfl⟩
  simp only [hop] at he
  split at he
  · rename_i hev
    injection he with he; injection he with e1 e2; subst e1; subst e2
    rw [ev_v hG hS hev]
    have : (Instr.range t (.map none)).run P w = .ok (.pointer (some ⟨w.heap.size, 0, none⟩)) (w.alloc (.mapIter none 0 #[] 0)) := by
      simp [Instr.range, run_underlying ht]
    rw [this]
    exact key _ none 0 0 ⟨w.heap.size, none, upd_self, heap_alloc_new w _, ghost_new hI, rfl⟩
  · rename_i j hev
    rw [hev] at hm; simp only [Rp] at hm
    split at he
    · rename_i ag ks vs bs cl hg
      injection he with he; injection he with e1 e2; subst e1; subst e2
      obtain ⟨g, ens, h1, h2, h3, h4, h5, h6⟩ := map_at hI hg
      have : (Instr.range t (a.eval m)).run P w = .ok (.pointer (some ⟨w.heap.size, 0, none⟩)) (w.alloc (.mapIter (some g) cl #[] cl)) := by
        rw [hm.2.1, h1]
        simp [Instr.range, run_underlying ht, getObj_map h2]
      rw [this]
      exact key _ (some g) cl cl ⟨w.heap.size, some g, upd_self, heap_alloc_new w _, ghost_new hI, g, rfl, by omega, by rw [upd_lt hm.1]; exact h1⟩
    · simp at he
  · simp at he
theorem mit_at (hI : Inv h φ w T) {i : Nat} {m : Option Nat} {since : Nat} {seen : List Nat} {st : Nat} (hg : getT T i = some (.mit m since seen st)) :
    ∃ (g : Nat) (mo : Option Nat), φ i = .pointer (some ⟨g, 0, none⟩) ∧ w.heap[g]? = some (.mapIter mo since seen.toArray st) ∧ h g = none ∧
      (match (generalizing := false) m with | none => mo = none | some j => ∃ b, mo = some b ∧ j < T.length ∧ φ j = .map (some b)) := hI.obj i _ (getT_some hg)
theorem nxt_ok {st : St} {K : AV → Tab → Prop} (hG : GOk G h) (hI : Inv h φ w st.T) (hS : SOk h φ st.T.length st.s a) {p : Operand} (hw : opW P G st (.nxt p) K) (ty : TypeId) :
    ∃ v w', (Instr.next (a.eval p) false ty).run P w = .ok v w' ∧ Ret h φ st.T w K v w' := by
  have hp := ev_ok hG hS p
  simp only [opW] at hw
  split at hw
  · rename_i i hev
    rw [hev] at hp; simp only [Rp] at hp
    obtain ⟨hlt, g, hφ, hu⟩ := hp
    split at hw
    · rename_i since seen la hg
      obtain ⟨g', mo, e1, e2, e3, e4⟩ := mit_at hI hg
      simp only at e4
      subst e4
      rw [hφ] at e1
      injection e1 with e1; injection e1 with e1; injection e1 with e1
      subst e1
      refine ⟨.tuple #[.bool false], w, ?_, _, st.T, h, φ, hw, Evo.refl, hI, by simp [Rp]⟩
      rw [hu]
      simp [Instr.next, getObj, Sem.run, e2, Sem.run_bind, Result.andThen]
    · rename_i j since seen la hg
      split at hw
      · rename_i ag ks vs bs cl hm
        obtain ⟨w1, w2, w3, w4⟩ := hw
        obtain ⟨g', mo, e1, e2, e3, b, rfl, e5, e6⟩ := mit_at hI hg
        rw [hφ] at e1
        injection e1 with e1; injection e1 with e1; injection e1 with e1
        subst e1
        obtain ⟨gm, ens, m1, m2, m3, m4, m5, m6⟩ := map_at hI hm
        rw [e6] at m1
        injection m1 with m1; injection m1 with m1
        subst m1
        have hold : ∀ x ∈ ens.toList, x.born < since := fun x hx => w2 x.born (by rw [← m5]; exact List.mem_map_of_mem hx)
        rcases run_next_at (P := P) w ty g b since la seen.toArray ens cl e2 m2 hold w1 with ⟨n1, n2⟩ | ⟨e, n1, wx, n2, n3⟩
        · refine ⟨_, w, by rw [hu]; exact n2, _, st.T, h, φ, w3 ?_, Evo.refl, hI, by simp [Rp]⟩
          intro b' hb'
          rw [← m5] at hb'
          obtain ⟨x, hx, rfl⟩ := List.mem_map.1 hb'
          have := Array.eq_empty_of_size_eq_zero n1
          unfold leftOf at this
          rw [Array.filter_eq_empty_iff] at this
          have := this x (by simpa using hx)
          simpa using this
        · unfold leftOf at n1
          simp only [Array.toList_filter, List.mem_filter] at n1
          obtain ⟨n1, n4⟩ := n1
          obtain ⟨ei, hei⟩ := List.getElem?_of_mem n1
          have hk : ∃ k, ks[ei]? = some k ∧ e.key = keyV ag k := by
            have : (ens.toList.map (·.key))[ei]? = some e.key := by rw [List.getElem?_map, hei]; rfl
            rw [m4, List.getElem?_map] at this
            cases hks : ks[ei]? with
            | none => simp [hks] at this
            | some k => simp only [hks, Option.map_some, Option.some.injEq] at this; exact ⟨k, rfl, this.symm⟩
          obtain ⟨k, hk1, hk2⟩ := hk
          have hb : bs[ei]? = some e.born := by rw [← m5, List.getElem?_map, hei]; rfl
          have hvl : ei < vs.length := by
            rw [m6.length, List.length_map]
            have := (List.getElem?_eq_some_iff.1 hei).1
            exact this
          obtain ⟨u, hu1, hu2⟩ := m6.get (List.getElem?_eq_getElem hvl)
          rw [List.getElem?_map, hei] at hu1
          simp only [Option.map_some, Option.some.injEq] at hu1
          subst hu1
          have hK := w4 ei k _ e.born hk1 (List.getElem?_eq_getElem hvl) hb (by simpa using n4)
          have hset : Inv h φ (Go.ChangeMaps.setBlock wx g (.mapIter (some b) since (seen.toArray.push e.born) cl)) (st.T.set i (some (.mit (some j) since (seen ++ [e.born]) cl))) ∧
              Evo h φ st.T w h φ (st.T.set i (some (.mit (some j) since (seen ++ [e.born]) cl))) (Go.ChangeMaps.setBlock wx g (.mapIter (some b) since (seen.toArray.push e.born) cl)) := by
            have hsz : wx.heap = w.heap ∧ wx.os = w.os ∧ wx.tape = w.tape ∧ wx.output = w.output ∧ w.drawn ≤ wx.drawn := by
              rcases n2 with rfl | rfl
              · exact ⟨rfl, rfl, rfl, rfl, Nat.le_refl _⟩
              · exact ⟨rfl, rfl, rfl, rfl, Nat.le_succ _⟩
            obtain ⟨s1, s2, s3, s4, s5⟩ := hsz
            have hgl : g < w.heap.size := by
              rcases Nat.lt_or_ge g w.heap.size with hh | hh
              · exact hh
              · rw [Array.getElem?_eq_none hh] at e2; simp at e2
            refine inv_set (w' := Go.ChangeMaps.setBlock wx g (.mapIter (some b) since (seen.toArray.push e.born) cl)) hI s2 s3 s4 (by simp [Go.ChangeMaps.setBlock, s1]) (getT_some hg) (fun b' _ hne => ?_) ⟨g, some b, hφ, ?_, e3, b, rfl, e5, e6⟩ s5
            · have : b' ≠ g := fun hh => hne (by rw [hφ, hh]; rfl)
              simp [Go.ChangeMaps.setBlock, s1, Array.getElem?_setIfInBounds, Ne.symm this]
            · simp [Go.ChangeMaps.setBlock, s1, hgl]
          refine ⟨_, _, by rw [hu]; exact n3, _, _, h, φ, hK, hset.2, hset.1, ?_⟩
          rw [hk2]
          simp only [Rp, RpL]
          rw [List.length_set]
          exact ⟨_, rfl, _, _, rfl, rfl, _, _, rfl, rfl, _, _, rfl, hu2, rfl⟩
      · exact hw.elim
    · exact hw.elim
  · exact hw.elim
theorem ent_gives (hG : GOk G h) (hI : Inv h φ w T) (hS : SOk h φ T.length s a) {p : Operand} {x : AV} {T' : Tab} (he : hop T (evO G s) (.ent p) = some (x, T')) :
    T' = T ∧ ∃ v, (Instr.entry (a.eval p)).run P w = .ok v w ∧ Rp h φ T.length x v := by
  have hp := ev_ok hG hS p
  simp only [hop] at he
  split at he
  · rename_i i hev
    rw [hev] at hp; simp only [Rp] at hp
    obtain ⟨hlt, g, hφ, hu⟩ := hp
    split at he
    · rename_i j since seen la hg
      split at he
      · rename_i ag ks vs bs cl b hm hb
        split at he
        · rename_i hcl
          subst hcl
          split at he
          · rename_i e hf
            split at he
            · rename_i k v hk hv
              injection he with he; injection he with e1 e2; subst e1; subst e2
              obtain ⟨g', mo, e1, e2, e3, bm, rfl, e5, e6⟩ := mit_at hI hg
              rw [hφ] at e1
              injection e1 with e1; injection e1 with e1; injection e1 with e1
              subst e1
              obtain ⟨gm, ens, m1, m2, m3, m4, m5, m6⟩ := map_at hI hm
              rw [e6] at m1
              injection m1 with m1; injection m1 with m1
              subst m1
              have hf' : ens.findIdx? (fun x => x.born == b) = some e := by
                conv => lhs; rw [show ens = ens.toList.toArray from by rw [Array.toArray_toList]]
                rw [List.findIdx?_toArray]
                rw [← m5, List.findIdx?_map] at hf
                exact hf
              have hes : ∃ en, ens[e]? = some en ∧ ens.find? (fun x => x.born == b) = some en := by
                rw [Array.findIdx?_eq_some_iff_getElem] at hf'
                obtain ⟨hlt', hp1, hp2⟩ := hf'
                refine ⟨ens[e], Array.getElem?_eq_getElem hlt', ?_⟩
                rw [Array.find?_eq_some_iff_getElem]
                exact ⟨hp1, e, hlt', rfl, fun j hj => by simpa using hp2 j hj⟩
              obtain ⟨en, hen, hfind⟩ := hes
              have hen' : ens.toList[e]? = some en := by simpa using hen
              have hkey : en.key = keyV ag k := by
                have : (ens.toList.map (·.key))[e]? = some en.key := by rw [List.getElem?_map, hen']; rfl
                rw [m4, List.getElem?_map, hk] at this
                simp only [Option.map_some, Option.some.injEq] at this
                exact this.symm
              have hval : Rp h φ T.length v en.val := by
                obtain ⟨u, hu1, hu2⟩ := m6.get hv
                rw [List.getElem?_map, hen'] at hu1
                simp only [Option.map_some, Option.some.injEq] at hu1
                rw [hu1]; exact hu2
              have hback : seen.toArray.back? = some b := by rw [List.back?_toArray]; exact hb
              refine ⟨rfl, .tuple #[en.key, en.val], ?_, ?_⟩
              · rw [hu]
                simp [Instr.entry, getObj, Sem.run_bind, Sem.run, e2, m2, Result.andThen, hback, hfind]
              · rw [hkey]
                simp only [Rp, RpL]
                exact ⟨_, rfl, _, _, rfl, rfl, _, _, rfl, hval, rfl⟩
            · simp at he
          · simp at he
        · simp at he
      · simp at he
    · simp at he
  · simp at he
theorem zero_flat (z : Array Value) (hz : 0 < z.size) (n : Nat) : (Builtin.zeroCells z n).toList = (List.replicate n z.toList).flatten := by
  have key : ∀ n, (List.replicate n z.toList).flatten = repZ z.toList n := by
    intro n
    induction n with
    | zero => rfl
    | succ n ih => simp [List.replicate_succ, repZ, ih]
  rw [key]
  exact rep_range z hz n
theorem rep_mapv (z : List Value) (h : GH) : ∀ n, RpDL h (List.replicate n (z.map AV.v)).flatten (List.replicate n z).flatten
  | 0 => by simp [RpDL]
  | n + 1 => by
    rw [List.replicate_succ, List.replicate_succ, List.flatten_cons, List.flatten_cons]
    exact (rpdl_v h z).app (rep_mapv z h n)
theorem clr_makes {t e ty : TypeId} (ht : P.underlying t = some (.slice e)) {i : TypeInfo} (hi : P.info? e = some i) {z : Value} (hz : i.zero = some z) (hzs : z.cells.size = i.size) (h0 : 0 < i.size) (h1 : (z.cells.toList.all fun v => oneC (.v v)) = true)
    (hG : GOk G h) (hI : Inv h φ w T) (hS : SOk h φ T.length s a) {p : Operand} {x : AV} {T' : Tab} (he : hop T (evO G s) (.clr p i.size z.cells.toList) = some (x, T')) :
    Makes h φ T w ((Builtin.clear_ #[t] ty #[a.eval p]).run P w) x T' := by
  have hp := ev_ok hG hS p
  have none_run : ∀ A c, (Builtin.clear_ #[t] ty #[.slice A 0 c]).run P w = .ok (.tuple #[]) w := by
    intro A c
    cases A <;> simp [Builtin.clear_, run_underlying ht]
  have hone : ∀ n, ∀ v ∈ (List.replicate n z.cells.toList).flatten, v.oneCell' = true := by
    intro n v hv
    obtain ⟨l, hl, hvl⟩ := List.mem_flatten.1 hv
    rw [List.eq_of_mem_replicate hl] at hvl
    have := List.all_eq_true.1 h1 v hvl
    exact oneC_ok (h := h) (φ := φ) (n := 0) (x := .v v) (by simp [Rp]) this
  have hflen : ∀ n, (List.replicate n z.cells.toList).flatten.length = n * i.size := by
    intro n
    rw [List.length_flatten]
    simp [hzs]
  have run : ∀ (g o n c : Nat) (cur : Array Value) (E : TypeId), 0 < n → w.heap[g]? = some (.cells cur E (0, 0)) → o + n * i.size ≤ cur.size →
      (Builtin.clear_ #[t] ty #[.slice (some ⟨g, o, none⟩) n c]).run P w = .ok (.tuple #[]) (w.setRow g (cur.toList.take o ++ (List.replicate n z.cells.toList).flatten ++ cur.toList.drop (o + n * i.size)).toArray) := by
    intro g o n c cur E hn hw hle
    have hst := run_storeCells_at P g o E (List.replicate n z.cells.toList).flatten 0 cur w hw (by rw [hflen]; omega) (hone n)
    simp only [Nat.add_zero, hflen] at hst
    obtain ⟨m, rfl⟩ : ∃ m, n = m + 1 := ⟨n - 1, by omega⟩
    simp [Builtin.clear_, run_underlying ht, zeroValue, typeInfo, hi, hz, zero_flat z.cells (by omega), hst]
  have write : ∀ (j k lo n c : Nat) (es : List (List AV)) (g : Nat), getT T j = some (.arr i.size es) → φ j = .slice (some ⟨g, 0, none⟩) es.length c → lo + n ≤ es.length → (z.cells.toList.all fun v => closedA (.v v)) = true →
      Makes h φ T w ((Builtin.clear_ #[t] ty #[.slice (some ⟨g, lo * i.size, none⟩) n k]).run P w) (.v (.tuple #[])) (T.set j (some (.arr i.size (es.take lo ++ List.replicate n (z.cells.toList.map .v) ++ es.drop (lo + n))))) := by
    intro j k lo n c es g hg hφ hle hcl
    by_cases hn : n = 0
    · subst hn
      rw [none_run]
      have : T.set j (some (.arr i.size (es.take lo ++ List.replicate 0 (z.cells.toList.map .v) ++ es.drop (lo + 0)))) = T := by
        simp only [List.replicate_zero, List.append_nil, Nat.add_zero, List.take_append_drop]
        exact set_self (getT_some hg)
      rw [this]
      exact ⟨_, w, h, φ, rfl, Evo.refl, hI, by simp [Rp]⟩
    · obtain ⟨hl, h2 | ⟨g', c', cur, E, hφ', hw, h3, h4, h5, h6, h7⟩⟩ := arr_cells hI hg
      · obtain ⟨A, _, rfl⟩ := h2
        simp at hle
        omega
      · rw [hφ] at hφ'
        injection hφ' with e1 e2 e3
        injection e1 with e1
        injection e1 with e1
        subst e1
        subst e3
        have hl' : ∀ d ∈ es, d.length = i.size := fun d hd => (hl d hd).1
        have hmul : (lo + n) * i.size ≤ es.length * i.size := Nat.mul_le_mul_right _ hle
        have hmul2 : es.length * i.size ≤ (c' + 1) * i.size := Nat.mul_le_mul_right _ h3
        rw [Nat.add_mul] at hmul
        rw [run g (lo * i.size) n k cur E (by omega) hw (by omega)]
        have hcur : cur.toList.length = (c' + 1) * i.size := by rw [show cur.toList.length = cur.size from Array.length_toList, h5]
        have hnl : ∀ d ∈ es.take lo ++ List.replicate n (z.cells.toList.map AV.v) ++ es.drop (lo + n), d.length = i.size ∧ ∀ c ∈ d, closedA c = true := by
          intro d hd
          simp only [List.mem_append] at hd
          rcases hd with (hd | hd) | hd
          · exact hl d (List.mem_of_mem_take hd)
          · rw [List.eq_of_mem_replicate hd]
            refine ⟨by simp [hzs], fun c hc => ?_⟩
            obtain ⟨v, hv, rfl⟩ := List.mem_map.1 hc
            exact List.all_eq_true.1 hcl v hv
          · exact hl d (List.mem_of_mem_drop hd)
        have hlen : (es.take lo ++ List.replicate n (z.cells.toList.map AV.v) ++ es.drop (lo + n)).length = es.length := by
          simp only [List.length_append, List.length_take, List.length_replicate, List.length_drop]
          omega
        have hflat : (es.take lo ++ List.replicate n (z.cells.toList.map AV.v) ++ es.drop (lo + n)).flatten = es.flatten.take (lo * i.size) ++ (List.replicate n (z.cells.toList.map AV.v)).flatten ++ es.flatten.drop (lo * i.size + n * i.size) := by
          rw [List.flatten_append, List.flatten_append, flat_take hl', flat_drop hl', Nat.add_mul]
        have := set_row (o' := .arr i.size (es.take lo ++ List.replicate n (z.cells.toList.map AV.v) ++ es.drop (lo + n))) hI (getT_some hg) hw (by rw [hφ]; rfl)
          (new := (cur.toList.take (lo * i.size) ++ (List.replicate n z.cells.toList).flatten ++ cur.toList.drop (lo * i.size + n * i.size)).toArray)
          ⟨hnl, .inr ⟨g, c', _, E, by rw [hφ, hlen], setRow_heap w g cur _ E _ hw, by rw [hlen]; exact h3, h4, by
            rw [List.size_toArray]
            simp only [List.length_append, List.length_take, List.length_drop, hflen, hcur]
            omega, h6, by
            rw [hflat, hlen]
            have := take_mid cur.toList (List.replicate n z.cells.toList).flatten (lo * i.size) (n * i.size) (es.length * i.size) (by omega) (by omega) (hflen n)
            show RpDL h _ (List.take _ (cur.toList.take (lo * i.size) ++ (List.replicate n z.cells.toList).flatten ++ cur.toList.drop (lo * i.size + n * i.size)))
            rw [this]
            exact ((h7.take _).app (rep_mapv _ h n)).app (h7.drop _)⟩⟩
        exact ⟨_, _, h, φ, rfl, this.2, this.1, by simp [Rp]⟩
  simp only [hop] at he
  split at he
  · rename_i k hev
    injection he with he; injection he with e1 e2; subst e1; subst e2
    rw [hev] at hp; simp only [Rp, RpD] at hp
    obtain ⟨A, c, hu, _⟩ := hp
    rw [hu]
    simp only [List.length_nil]
    rw [none_run]
    exact ⟨_, w, h, φ, rfl, Evo.refl, hI, by simp [Rp]⟩
  · rename_i hev
    injection he with he; injection he with e1 e2; subst e1; subst e2
    rw [ev_v hG hS hev, none_run]
    exact ⟨_, w, h, φ, rfl, Evo.refl, hI, by simp [Rp]⟩
  · rename_i j hev
    rw [hev] at hp; simp only [Rp] at hp
    split at he
    · rename_i k' es hg
      split at he
      · rename_i hc
        obtain ⟨rfl, hc1, hc2⟩ := hc
        injection he with he; injection he with e1 e2; subst e1; subst e2
        obtain ⟨_, h2 | ⟨g, c, cur, E, hφ, _⟩⟩ := arr_cells hI hg
        · obtain ⟨A, hA, rfl⟩ := h2
          rw [hp.2.1, hA, none_run]
          have : T.set j (some (.arr i.size (List.replicate ([] : List (List AV)).length (z.cells.toList.map .v)))) = T := by
            simp only [List.length_nil, List.replicate_zero]
            exact set_self (getT_some hg)
          rw [this]
          exact ⟨_, w, h, φ, rfl, Evo.refl, hI, by simp [Rp]⟩
        · rw [hp.2.1, hφ]
          have := write j (c + 1) 0 es.length (c + 1) es g hg hφ (by omega) hc2
          simpa using this
      · simp at he
    · simp at he
  · rename_i j k' lo m hev
    rw [hev] at hp; simp only [Rp] at hp
    split at he
    · rename_i k'' es hg
      split at he
      · rename_i hc
        obtain ⟨rfl, rfl, hc1, hc2, hc3⟩ := hc
        injection he with he; injection he with e1 e2; subst e1; subst e2
        obtain ⟨_, A, c, hu, _, _, h3⟩ := hp
        rcases h3 with rfl | ⟨g, l, c', hφ, rfl, hle⟩
        · rw [hu, none_run]
          have : T.set j (some (.arr i.size (es.take lo ++ List.replicate 0 (z.cells.toList.map .v) ++ es.drop (lo + 0)))) = T := by
            simp only [List.replicate_zero, List.append_nil, Nat.add_zero, List.take_append_drop]
            exact set_self (getT_some hg)
          rw [this]
          exact ⟨_, w, h, φ, rfl, Evo.refl, hI, by simp [Rp]⟩
        · rw [hu]
          have hl : l = es.length := by
            obtain ⟨_, h2 | ⟨g', c2, cur, E, hφ', _⟩⟩ := arr_cells hI hg
            · obtain ⟨A, hA, rfl⟩ := h2
              rw [hφ] at hA
              injection hA
            · rw [hφ] at hφ'
              injection hφ'
          subst hl
          exact write j c lo m c' es g hg hφ hc2 hc3
      · simp at he
    · simp at he
  · simp at he
end
end Hud
end
