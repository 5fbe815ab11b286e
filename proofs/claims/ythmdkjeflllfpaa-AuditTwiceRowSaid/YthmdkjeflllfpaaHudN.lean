/- append. -/
import Derived.Test.YthmdkjeflllfpaaHudM
set_option linter.all false
namespace Hud
open Go

theorem closedV {h : GH} : ∀ {x : AV} {u : Value}, RpD h x u → closedA x = true → u.oneCell' = true
  | .v x, u, e, hc => by
    simp only [RpD] at e
    subst e
    cases u <;> simp_all [closedA, Value.oneCell']
  | .ls _ _, u, e, _ => by simp only [RpD] at e; obtain ⟨A, c, rfl, _⟩ := e; rfl
  | .ag _, _, _, hc => by simp [closedA] at hc
  | .own _, _, _, hc => by simp [closedA] at hc
  | .ptr _ _, _, _, hc => by simp [closedA] at hc
  | .elt _ _ _ _, _, _, hc => by simp [closedA] at hc
  | .vw _ _ _ _, _, _, hc => by simp [closedA] at hc
  | .mp _, _, _, hc => by simp [closedA] at hc
  | .rp _, _, _, hc => by simp [closedA] at hc
  | .cl _ _, _, _, hc => by simp [closedA] at hc
  | .tup _, _, _, hc => by simp [closedA] at hc
  | .any, _, _, hc => by simp [closedA] at hc
theorem RpDE.vals {h : GH} {b k : Nat} : ∀ {es : List (List AV)} {o : Nat}, RpDE h b k es o →
    (∀ e ∈ es, e.length = k ∧ ∀ c ∈ e, closedA c = true) ∧ ∃ us, RpDL h es.flatten us ∧ ∀ j u, us[j]? = some u → cellG h b (o + j) = some u
  | [], o, _ => ⟨by simp, [], by simp [RpDL], fun j u hj => by simp at hj⟩
  | e :: es, o, hh => by
    simp only [RpDE] at hh
    obtain ⟨h1, h2, h3⟩ := hh
    obtain ⟨us, h4, h5⟩ := h2.vals
    obtain ⟨h6, vs, h7, h8⟩ := h3.vals
    refine ⟨fun d hd => ?_, us ++ vs, by rw [List.flatten_cons]; exact h4.app h7, fun j u hj => ?_⟩
    · rcases List.mem_cons.1 hd with rfl | hd
      · refine ⟨h1, fun c hc => ?_⟩
        obtain ⟨i, hi⟩ := List.getElem?_of_mem hc
        exact (h2.get hi).choose_spec.1
      · exact h6 d hd
    · have hl := h4.length
      rcases Nat.lt_or_ge j us.length with hlt | hge
      · rw [List.getElem?_append_left hlt] at hj; exact h5 j u hj
      · rw [List.getElem?_append_right hge] at hj
        have := h8 _ _ hj
        rw [← this]
        congr 1
        omega

section
variable {P : Program} {G : Nat → Option (List AV)} {h : GH} {φ : Nat → Value} {T : Tab} {w : World} {s : List (Nat × AV)} {a : Act}

theorem flat_drop {α : Type} {k : Nat} : ∀ {es : List (List α)}, (∀ e ∈ es, e.length = k) → ∀ (l : Nat), (es.drop l).flatten = es.flatten.drop (l * k)
  | [], _, l => by simp
  | e :: es, he, 0 => by simp
  | e :: es, he, l + 1 => by
    have h1 : e.length = k := he e (by simp)
    rw [List.drop_succ_cons, flat_drop (fun d hd => he d (by simp [hd])) l, List.flatten_cons, Nat.succ_mul, Nat.add_comm, ← List.drop_drop, ← h1]
    simp
theorem flat_take {α : Type} {k : Nat} : ∀ {es : List (List α)}, (∀ e ∈ es, e.length = k) → ∀ (l : Nat), (es.take l).flatten = es.flatten.take (l * k)
  | [], _, l => by simp
  | e :: es, he, 0 => by simp
  | e :: es, he, l + 1 => by
    have h1 : e.length = k := he e (by simp)
    rw [List.take_succ_cons, List.flatten_cons, flat_take (fun d hd => he d (by simp [hd])) l, List.flatten_cons, Nat.succ_mul, List.take_append, ← h1]
    congr 1
    · rw [List.take_of_length_le (by omega)]
    · congr 1; omega
theorem flat_sub {α : Type} {k : Nat} {es : List (List α)} (he : ∀ e ∈ es, e.length = k) (l m : Nat) : ((es.drop l).take m).flatten = (es.flatten.drop (l * k)).take (m * k) := by
  rw [flat_take (fun d hd => he d (List.mem_of_mem_drop hd)), flat_drop he]

/-- What is appended. -/
def srcA (T : Tab) (k : Nat) : AV → Option (List (List AV))
  | .ls k' es => if k = k' then some es else none
  | .own a => match getT T a with
    | some (.arr k' es) => if k = k' then some es else none
    | _ => none
  | .v (.slice none 0 0) => some []
  | .vw a k' lo m => match getT T a with
    | some (.arr k'' es) => if k = k' ∧ k = k'' ∧ lo + m ≤ es.length then some ((es.drop lo).take m) else none
    | _ => none
  | _ => none

theorem src_ok (hI : Inv h φ w T) {k : Nat} {x : AV} {u : Value} (hx : Rp h φ T.length x u) {new : List (List AV)} (e : srcA T k x = some new) :
    (∀ e ∈ new, e.length = k ∧ ∀ c ∈ e, closedA c = true) ∧ ∃ A c news, u = .slice A new.length c ∧ RpDL h new.flatten news ∧
      (new = [] ∨ ∃ b o, A = some ⟨b, o, none⟩ ∧ ∀ j v, news[j]? = some v → w.cell? ⟨b, o + j, none⟩ = some v) := by
  unfold srcA at e
  split at e
  · rename_i k' es
    split at e
    · rename_i hk
      subst hk
      injection e with e
      subst e
      simp only [Rp, RpD] at hx
      obtain ⟨A, c, hu, _, _, h3⟩ := hx
      rcases h3 with rfl | ⟨b, o, rfl, hE⟩
      · exact ⟨by simp, A, c, [], hu, by simp [RpDL], .inl rfl⟩
      · obtain ⟨h4, us, h5, h6⟩ := hE.vals
        exact ⟨h4, _, c, us, hu, h5, .inr ⟨b, o, rfl, fun j v hj => cellG_of hI (h6 j v hj)⟩⟩
    · simp at e
  · rename_i i
    split at e
    · rename_i k' es hg
      split at e
      · rename_i hk
        subst hk
        injection e with e
        subst e
        simp only [Rp] at hx
        obtain ⟨hl, h1 | ⟨g, c, cur, E, hφ, hw, h2, h3, h4, h5, h6⟩⟩ := arr_cells hI hg
        · rw [h1.2]
          exact ⟨by simp, none, 0, [], by rw [hx.2.1, h1.1]; rfl, by simp [RpDL], .inl rfl⟩
        · refine ⟨hl, _, c, _, by rw [hx.2.1, hφ], h6, .inr ⟨g, 0, rfl, fun j v hj => ?_⟩⟩
          rw [cell_of hw]
          rw [List.getElem?_take] at hj
          split at hj
          · rw [← hj]; simp
          · simp at hj
      · simp at e
    · simp at e
  · injection e with e
    subst e
    simp only [Rp] at hx
    exact ⟨by simp, none, 0, [], hx, by simp [RpDL], .inl rfl⟩
  · rename_i i k' lo m
    split at e
    · rename_i k'' es hg
      split at e
      · rename_i hk
        obtain ⟨rfl, rfl, hlen⟩ := hk
        injection e with e
        subst e
        simp only [Rp] at hx
        obtain ⟨_, A, c, hu, _, _, h0⟩ := hx
        obtain ⟨hl, h1⟩ := arr_cells hI hg
        have hl' : ∀ d ∈ (es.drop lo).take m, d.length = k ∧ ∀ c ∈ d, closedA c = true := fun d hd => hl d (List.mem_of_mem_drop (List.mem_of_mem_take hd))
        have hln : ((es.drop lo).take m).length = m := by rw [List.length_take, List.length_drop]; omega
        refine ⟨hl', ?_⟩
        rcases h0 with rfl | ⟨g, l, c', hφ, rfl, hle⟩
        · exact ⟨A, c, [], by simpa using hu, by simp [RpDL], .inl (by simp)⟩
        · by_cases hm : m = 0
          · subst hm
            exact ⟨_, c, [], by simpa using hu, by simp [RpDL], .inl (by simp)⟩
          · rcases h1 with h1 | ⟨g', c2, cur, E, hφ', hw, h2, h3, h4, h5, h6⟩
            · rw [h1.1] at hφ; simp at hφ
            · rw [hφ] at hφ'
              injection hφ' with e1 e2 e3
              injection e1 with e1
              injection e1 with e1
              subst e1
              refine ⟨_, c, ((cur.toList.take (es.length * k)).drop (lo * k)).take (m * k), by rw [hu, hln], ?_, .inr ⟨g, lo * k, rfl, fun j v hj => ?_⟩⟩
              · rw [flat_sub (fun d hd => (hl d hd).1)]
                exact (h6.drop _).take _
              · rw [cell_of hw]
                rw [List.getElem?_take] at hj
                split at hj
                · rw [List.getElem?_drop, List.getElem?_take] at hj
                  split at hj
                  · rw [← hj]; simp
                  · simp at hj
                · simp at hj
      · simp at e
    · simp at e
  · simp at e

theorem hop_app {ev : Operand → AV} {x y : Operand} {k bytes : Nat} {r : AV} {T' : Tab} (he : hop T ev (.app x y k bytes) = some (r, T')) :
    ∃ new, srcA T k (ev y) = some new ∧
      ((ev x = .v (.slice none 0 0) ∧ new.length * bytes ≤ 140737488355328 ∧ new.length ≤ maxLen ∧ r = .own T.length ∧ T' = T ++ [some (.arr k new)]) ∨
       ∃ i es, ev x = .own i ∧ getT T i = some (.arr k es) ∧ (es.length + new.length) * bytes ≤ 140737488355328 ∧ es.length + new.length ≤ maxLen ∧ r = .own T.length ∧ T' = T.set i none ++ [some (.arr k (es ++ new))]) := by
  simp only [hop] at he
  split at he
  · simp at he
  · rename_i new hs
    refine ⟨new, ?_, ?_⟩
    · unfold srcA
      exact hs
    · split at he
      · rename_i hx
        split at he
        · rename_i hc
          injection he with he; injection he with e1 e2
          exact .inl ⟨hx, hc.1, hc.2, e1.symm, e2.symm⟩
        · simp at he
      · rename_i i hx
        split at he
        · rename_i k' es hg
          split at he
          · rename_i hc
            obtain ⟨rfl, hc1, hc2⟩ := hc
            injection he with he; injection he with e1 e2
            exact .inr ⟨i, es, hx, hg, hc1, hc2, e1.symm, e2.symm⟩
          · simp at he
        · simp at he
      · simp at he

theorem app_makes {t e ty : TypeId} (ht : P.underlying t = some (.slice e)) {i : TypeInfo} (hi : P.info? e = some i) {z : Value} (hz : i.zero = some z) (hzs : z.cells.size = i.size) (h0 : 0 < i.size)
    (hG : GOk G h) (hI : Inv h φ w T) (hS : SOk h φ T.length s a) {p q : Operand} {x : AV} {T' : Tab} (he : hop T (evO G s) (.app p q i.size i.bytes) = some (x, T')) :
    Makes h φ T w ((Builtin.append_ #[t, t] ty #[a.eval p, a.eval q]).run P w) x T' := by
  obtain ⟨new, hsrc, hcase⟩ := hop_app he
  have hp := ev_ok hG hS p
  have hq := ev_ok hG hS q
  obtain ⟨hnew, A, c, news, hu, hnl, hcells⟩ := src_ok hI hq hsrc
  have hnlen : news.length = new.length * i.size := by rw [← hnl.length, flat_len fun d hd => (hnew d hd).1]
  have hone : ∀ v ∈ news, v.oneCell' = true := by
    intro v hv
    obtain ⟨j, hj⟩ := List.getElem?_of_mem hv
    have hjl : j < new.flatten.length := by
      rw [hnl.length]
      rcases Nat.lt_or_ge j news.length with hh | hh
      · exact hh
      · rw [List.getElem?_eq_none hh] at hj; simp at hj
    obtain ⟨u, h1, h2⟩ := hnl.get (List.getElem?_eq_getElem hjl)
    rw [hj] at h1
    injection h1 with h1
    subst h1
    obtain ⟨d, hd, hcd⟩ := List.mem_flatten.1 (List.getElem_mem hjl)
    exact closedV h2 ((hnew d hd).2 _ hcd)
  have cap_cells : ∀ (m old : Nat) (xs : List Value), xs.length = m * i.size → m ≤ maxLen →
      (xs.toArray ++ Builtin.zeroCells z.cells (grownCap w m old e - m)).size = grownCap w m old e * i.size ∧ (xs.toArray ++ Builtin.zeroCells z.cells (grownCap w m old e - m)).toList.take (m * i.size) = xs ∧ m ≤ grownCap w m old e ∧ grownCap w m old e ≤ maxLen := by
    intro m old xs hxs hm
    have hge := grownCap_ge w m old e
    refine ⟨?_, ?_, hge, grownCap_le_maxLen w m old e hm⟩
    · simp only [Array.size_append, List.size_toArray, size_zeroCells, hzs, hxs, ← Nat.add_mul]
      congr 1
      omega
    · simp only [Array.toList_append]
      rw [← hxs]
      exact List.take_left
  rcases hcase with ⟨hx, hb, hm, rfl, rfl⟩ | ⟨j, es, hx, hg, hb, hm, rfl, rfl⟩
  · -- onto nil
    rw [ev_v hG hS hx, hu]
    rcases hcells with rfl | ⟨b, o, rfl, hcell⟩
    · have : (Builtin.append_ #[t, t] ty #[.slice none 0 0, .slice A ([] : List (List AV)).length c]).run P w = .ok (.slice none 0 0) w := by
        cases A <;> simp [Builtin.append_, run_underlying ht, Go.sizeOf, typeInfo, hi, Builtin.lenOf, Builtin.firstCells, loadCells, loadCellsFrom]
      rw [this]
      have := inv_new (w' := w) (o := .arr i.size []) (v := .slice none 0 0) hI rfl rfl rfl (Nat.le_refl _) (fun _ _ => rfl) (fun g hg => by simp [blk] at hg) ⟨by simp, .inl ⟨upd_self, rfl⟩⟩
      refine ⟨_, w, h, _, rfl, this.2, this.1, ?_⟩
      simp only [Rp]
      exact ⟨by simp, upd_self.symm, _, _, _, rfl⟩
    · by_cases hn0 : new = []
      · subst hn0
        have : (Builtin.append_ #[t, t] ty #[.slice none 0 0, .slice (some ⟨b, o, none⟩) ([] : List (List AV)).length c]).run P w = .ok (.slice none 0 0) w := by
          simp [Builtin.append_, run_underlying ht, Go.sizeOf, typeInfo, hi, Builtin.lenOf, Builtin.firstCells, loadCells, loadCellsFrom]
        rw [this]
        have := inv_new (w' := w) (o := .arr i.size []) (v := .slice none 0 0) hI rfl rfl rfl (Nat.le_refl _) (fun _ _ => rfl) (fun g hg => by simp [blk] at hg) ⟨by simp, .inl ⟨upd_self, rfl⟩⟩
        refine ⟨_, w, h, _, rfl, this.2, this.1, ?_⟩
        simp only [Rp]
        exact ⟨by simp, upd_self.symm, _, _, _, rfl⟩
      · have hpos : 0 < new.length := List.length_pos_iff.2 hn0
        have hr := run_append_nil (P := P) w t ty e i z ht hi hz ⟨b, o, none⟩ new.length c news hnlen (fun j v hj => by rw [add_none]; exact hcell j v hj) hpos (by unfold maxLen at hm; omega) (by omega)
        rw [hr]
        obtain ⟨c1, c2, c3, c4⟩ := cap_cells new.length 0 news hnlen hm
        exact new_arr (w1 := w.drew) hI rfl rfl rfl rfl hnew rfl c3 c4 c1 (by rw [c2]; exact hnl) e
  · -- onto an array of the call's own
    rw [hx] at hp
    simp only [Rp] at hp
    obtain ⟨hl, h1 | ⟨g, cap, cur, E, hφ, hw, h2, h3, h4, h5, h6⟩⟩ := arr_cells hI hg
    · -- that is nil
      obtain ⟨hφ, rfl⟩ := h1
      rw [hp.2.1, hφ, hu]
      simp only [List.nil_append, List.length_nil, Nat.zero_add] at hb hm ⊢
      obtain ⟨hI', hE'⟩ := inv_drop hI j
      have comb : ∀ {r : Result Value}, Makes h φ (T.set j none) w r (.own (T.set j none).length) (T.set j none ++ [some (.arr i.size new)]) → Makes h φ T w r (.own T.length) (T.set j none ++ [some (.arr i.size new)]) := by
        rintro r ⟨v, w', h', φ', m1, m2, m3, m4⟩
        rw [List.length_set] at m4
        exact ⟨v, w', h', φ', m1, hE'.trans m2, m3, m4⟩
      apply comb
      rcases hcells with rfl | ⟨b, o, rfl, hcell⟩
      · have : (Builtin.append_ #[t, t] ty #[.slice none 0 0, .slice A ([] : List (List AV)).length c]).run P w = .ok (.slice none 0 0) w := by
          cases A <;> simp [Builtin.append_, run_underlying ht, Go.sizeOf, typeInfo, hi, Builtin.lenOf, Builtin.firstCells, loadCells, loadCellsFrom]
        rw [this]
        have := inv_new (w' := w) (o := .arr i.size []) (v := .slice none 0 0) hI' rfl rfl rfl (Nat.le_refl _) (fun _ _ => rfl) (fun g hg => by simp [blk] at hg) ⟨by simp, .inl ⟨upd_self, rfl⟩⟩
        refine ⟨_, w, h, _, rfl, this.2, this.1, ?_⟩
        simp only [Rp]
        exact ⟨by simp, upd_self.symm, _, _, _, rfl⟩
      · by_cases hn0 : new = []
        · subst hn0
          have : (Builtin.append_ #[t, t] ty #[.slice none 0 0, .slice (some ⟨b, o, none⟩) ([] : List (List AV)).length c]).run P w = .ok (.slice none 0 0) w := by
            simp [Builtin.append_, run_underlying ht, Go.sizeOf, typeInfo, hi, Builtin.lenOf, Builtin.firstCells, loadCells, loadCellsFrom]
          rw [this]
          have := inv_new (w' := w) (o := .arr i.size []) (v := .slice none 0 0) hI' rfl rfl rfl (Nat.le_refl _) (fun _ _ => rfl) (fun g hg => by simp [blk] at hg) ⟨by simp, .inl ⟨upd_self, rfl⟩⟩
          refine ⟨_, w, h, _, rfl, this.2, this.1, ?_⟩
          simp only [Rp]
          exact ⟨by simp, upd_self.symm, _, _, _, rfl⟩
        · have hpos : 0 < new.length := List.length_pos_iff.2 hn0
          have hr := run_append_nil (P := P) w t ty e i z ht hi hz ⟨b, o, none⟩ new.length c news hnlen (fun j v hj => by rw [add_none]; exact hcell j v hj) hpos (by unfold maxLen at hm; omega) (by omega)
          rw [hr]
          obtain ⟨c1, c2, c3, c4⟩ := cap_cells new.length 0 news hnlen hm
          exact new_arr (w1 := w.drew) hI' rfl rfl rfl rfl hnew rfl c3 c4 c1 (by rw [c2]; exact hnl) e
    · rw [hp.2.1, hφ, hu]
      have holen : (cur.toList.take (es.length * i.size)).length = es.length * i.size := by rw [← h6.length, flat_len fun d hd => (hl d hd).1]
      have hboth : ∀ d ∈ es ++ new, d.length = i.size ∧ ∀ c ∈ d, closedA c = true := by
        intro d hd
        rcases List.mem_append.1 hd with hd | hd
        · exact hl d hd
        · exact hnew d hd
      have hbothL : RpDL h (es ++ new).flatten (cur.toList.take (es.length * i.size) ++ news) := by rw [List.flatten_append]; exact h6.app hnl
      by_cases hroom : es.length + new.length ≤ cap
      · -- there is room
        have hf : (Builtin.firstCells i.size new.length (.slice A new.length c)).run P w = .ok news.toArray w := by
          rcases hcells with rfl | ⟨b, o, rfl, hcell⟩
          · have : news = [] := List.eq_nil_of_length_eq_zero (by simpa using hnlen)
            subst this
            cases A <;> simp [Builtin.firstCells, loadCells, loadCellsFrom]
          · exact run_firstCells_some w i.size new.length ⟨b, o, none⟩ _ _ news hnlen fun j v hj => by rw [add_none]; exact hcell j v hj
        have hfit : es.length * i.size + news.length ≤ cur.size := by rw [hnlen, h4, ← Nat.add_mul]; exact Nat.mul_le_mul_right _ hroom
        have hst := run_storeCells_at P g (es.length * i.size) E news 0 cur w hw (by simpa using hfit) hone
        simp only [Nat.add_zero] at hst
        have hrun : (Builtin.append_ #[t, t] ty #[.slice (some ⟨g, 0, none⟩) es.length cap, .slice A new.length c]).run P w =
            .ok (.slice (some ⟨g, 0, none⟩) (es.length + new.length) cap) (w.setRow g (cur.toList.take (es.length * i.size) ++ news ++ cur.toList.drop (es.length * i.size + news.length)).toArray) := by
          simp [Builtin.append_, run_underlying ht, Go.sizeOf, typeInfo, hi, Builtin.lenOf, hroom, hf, add_none, hst]
        rw [hrun]
        -- the old object goes, the new one has its block
        have hI1 := inv_drop hI j
        have hgt := getT_some hg
        refine ⟨_, _, h, upd φ T.length (.slice (some ⟨g, 0, none⟩) (es.length + new.length) cap), rfl, ?_, ?_, ?_⟩
        · refine ⟨rfl, rfl, rfl, by simp, fun b hb hne => setRow_other w g b _ fun e => hne j _ hgt (by rw [hφ, e]; rfl), GLe.refl h, fun _ _ e => .inl e, fun m hm => upd_lt hm, fun m o b em hbl => ?_, by simp, Nat.le_refl _⟩
          rcases get_append em with ⟨hm', em'⟩ | ⟨rfl, em'⟩
          · rw [List.length_set] at hm'
            rw [upd_lt hm'] at hbl
            rcases get_set em' with ⟨_, e'⟩ | ⟨_, e'⟩
            · simp at e'
            · exact .inr ⟨m, o, e', hbl⟩
          · rw [List.length_set, upd_self] at hbl
            simp only [blk, Option.some.injEq] at hbl
            exact .inr ⟨j, _, hgt, by rw [hφ]; simp [blk, hbl]⟩
        · refine ⟨fun b cs eb => ?_, fun m o em => ?_, fun m m' o o' b em em' hbm hbm' => ?_⟩
          · obtain ⟨E', fr, hb'⟩ := hI.gh b cs eb
            refine ⟨E', fr, ?_⟩
            rw [setRow_other w g b _ fun e => by subst e; rw [h5] at eb; simp at eb]
            exact hb'
          · rcases get_append em with ⟨hm', em'⟩ | ⟨rfl, em'⟩
            · rw [List.length_set] at hm'
              rcases get_set em' with ⟨_, e'⟩ | ⟨hne, e'⟩
              · simp at e'
              · rw [List.length_append, List.length_set]
                have h7 := hI.obj m o e'
                refine objAt_keep h7 (GLe.refl h) (by simp) (fun j hj => upd_lt hj) hm' fun b hb' => ?_
                obtain ⟨h8, h9⟩ := objAt_blk h7 hb'
                refine ⟨setRow_other w g b _ fun e => hne (hI.dis m j o _ b e' hgt hb' (by rw [hφ, e]; rfl)), h9⟩
            · injection em' with em'
              subst em'
              rw [List.length_set, List.length_append, List.length_set]
              refine ⟨hboth, .inr ⟨g, cap, _, E, by rw [upd_self, List.length_append], setRow_heap w g cur _ E _ hw, by rw [List.length_append]; exact hroom, h3, ?_, h5, ?_⟩⟩
              · rw [List.size_toArray]
                simp only [List.length_append, List.length_drop, holen]
                rw [show cur.toList.length = cur.size from Array.length_toList, ← h4]
                omega
              · have hlen2 : (cur.toList.take (es.length * i.size) ++ news).length = (es ++ new).length * i.size := by rw [List.length_append, holen, hnlen, List.length_append, Nat.add_mul]
                show RpDL h _ (List.take _ (cur.toList.take (es.length * i.size) ++ news ++ cur.toList.drop (es.length * i.size + news.length)))
                rw [← hlen2, List.take_left]
                exact hbothL
          · rcases get_append em with ⟨hm1, em1⟩ | ⟨rfl, em1⟩ <;> rcases get_append em' with ⟨hm2, em2⟩ | ⟨rfl, em2⟩
            · rw [List.length_set] at hm1 hm2
              rw [upd_lt hm1] at hbm; rw [upd_lt hm2] at hbm'
              exact hI1.1.dis m m' o o' b em1 em2 hbm hbm'
            · rw [List.length_set] at hm1 hbm'
              rw [upd_lt hm1] at hbm; rw [upd_self] at hbm'
              simp only [blk, Option.some.injEq] at hbm'
              rcases get_set em1 with ⟨_, e'⟩ | ⟨hne, e'⟩
              · simp at e'
              · exact absurd (hI.dis m j o _ b e' hgt hbm (by rw [hφ, ← hbm']; rfl)) hne
            · rw [List.length_set] at hm2 hbm
              rw [upd_lt hm2] at hbm'; rw [upd_self] at hbm
              simp only [blk, Option.some.injEq] at hbm
              rcases get_set em2 with ⟨_, e'⟩ | ⟨hne, e'⟩
              · simp at e'
              · exact absurd (hI.dis m' j o' _ b e' hgt hbm' (by rw [hφ, ← hbm]; rfl)) hne
            · rfl
        · simp only [Rp]
          rw [List.length_append, List.length_set]
          exact ⟨by simp, by rw [upd_self], _, _, _, rfl⟩
      · -- a new row
        have hne : new ≠ [] := by rintro rfl; simp at hroom; omega
        rcases hcells with rfl | ⟨b, o, rfl, hcell⟩
        · exact absurd rfl hne
        · have holds : ∀ j v, (cur.toList.take (es.length * i.size))[j]? = some v → w.cell? ((⟨g, 0, none⟩ : Addr).add j) = some v := by
            intro j v hj
            rw [add_none, cell_of hw]
            rw [List.getElem?_take] at hj
            split at hj
            · rw [← hj]; simp
            · simp at hj
          have hr := run_append_grow (P := P) w t ty e i z ht hi hz ⟨g, 0, none⟩ es.length cap _ holen holds ⟨b, o, none⟩ new.length c news hnlen (fun j v hj => by rw [add_none]; exact hcell j v hj) (by omega) (by unfold maxLen at hm; omega) (growslice_fits (by omega) hb)
          rw [hr]
          obtain ⟨hI', hE'⟩ := inv_drop hI j
          have comb : ∀ {r : Result Value}, Makes h φ (T.set j none) w r (.own (T.set j none).length) (T.set j none ++ [some (.arr i.size (es ++ new))]) → Makes h φ T w r (.own T.length) (T.set j none ++ [some (.arr i.size (es ++ new))]) := by
            rintro r ⟨v, w', h', φ', m1, m2, m3, m4⟩
            rw [List.length_set] at m4
            exact ⟨v, w', h', φ', m1, hE'.trans m2, m3, m4⟩
          apply comb
          have hxs : (cur.toList.take (es.length * i.size) ++ news).length = (es.length + new.length) * i.size := by rw [List.length_append, holen, hnlen, Nat.add_mul]
          obtain ⟨c1, c2, c3, c4⟩ := cap_cells (es.length + new.length) cap (cur.toList.take (es.length * i.size) ++ news) hxs hm
          have heq : (cur.toList.take (es.length * i.size)).toArray ++ news.toArray = (cur.toList.take (es.length * i.size) ++ news).toArray := by simp
          rw [heq]
          exact new_arr (w1 := w.drew) hI' rfl rfl rfl rfl hboth (by simp) c3 c4 c1 (by rw [c2]; exact hbothL) e
end
end Hud
