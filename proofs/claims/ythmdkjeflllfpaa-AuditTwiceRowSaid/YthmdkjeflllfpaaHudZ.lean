/- slices.SortFunc, at elements of k cells, as a contract of ours: the library's own proof of it is the kit's. -/
import Derived.Test.YthmdkjeflllfpaaHudY
import Derived.Shelf.SlSortCmp.NoneTotal
set_option linter.all false
namespace Hud
open Go Go.Proofs Go.Sort Go.Shelf

def cellsOf {α : Type} (enc : α → List Value) (x : α) : List AV := (enc x).map .v
theorem srt_get {α : Type} [Inhabited α] {enc : α → List Value} {k : Nat} (hk : ∀ x, (enc x).length = k) : ∀ (l : List α) (t : Nat), t < l.length * k → (l.flatMap enc)[t]? = some ((enc l[t / k]!)[t % k]!)
  | [], t, h => by simp at h
  | x :: l, t, h => by
    have hk0 : 0 < k := by
      rcases Nat.eq_zero_or_pos k with h0 | h0
      · subst h0; simp at h
      · exact h0
    rw [List.flatMap_cons]
    rcases Nat.lt_or_ge t k with hlt | hge
    · rw [List.getElem?_append_left (by rw [hk]; exact hlt), Nat.div_eq_of_lt hlt, Nat.mod_eq_of_lt hlt, List.getElem!_eq_getElem?_getD]
      have : t < (enc x).length := by rw [hk]; exact hlt
      simp [this]
    · rw [List.getElem?_append_right (by rw [hk]; exact hge), hk]
      have h1 : t - k < l.length * k := by
        rw [List.length_cons, Nat.add_mul, Nat.one_mul] at h; omega
      rw [srt_get hk l (t - k) h1]
      have e1 : t / k = (t - k) / k + 1 := by
        have := Nat.add_div_right (t - k) hk0
        rw [Nat.sub_add_cancel hge] at this
        exact this
      have e2 : t % k = (t - k) % k := (Nat.mod_eq_sub_mod hge)
      rw [e1, ← e2]
      simp
theorem srt_len {α : Type} {enc : α → List Value} {k : Nat} (hk : ∀ x, (enc x).length = k) (l : List α) : (l.flatMap enc).length = l.length * k := by
  induction l with
  | nil => simp
  | cons x l ih => rw [List.flatMap_cons, List.length_append, hk, ih, List.length_cons, Nat.add_mul, Nat.one_mul, Nat.add_comm]
theorem arr_list {α : Type} [Inhabited α] (d : Array α) (i : Nat) : d.toList[i]! = d[i]! := by
  by_cases h : i < d.size
  · rw [getElem!_pos d i h, getElem!_pos d.toList i (by simpa using h)]; simp
  · rw [getElem!_neg d i h, getElem!_neg d.toList i (by simpa using h)]
theorem flatK_list {α : Type} [Inhabited α] {enc : α → List Value} {k : Nat} (hk : ∀ x, (enc x).length = k) (d : Array α) : (flatK enc k d).toList = d.toList.flatMap enc := by
  apply List.ext_getElem?
  intro t
  rcases Nat.lt_or_ge t (d.size * k) with h | h
  · have e : (flatK enc k d).toList[t]! = (enc d.toList[t / k]!)[t % k]! := by rw [arr_list (flatK enc k d), get_flatK enc k d t h, arr_list d]
    rw [srt_get hk d.toList t (by simpa using h), ← e, List.getElem!_eq_getElem?_getD, List.getElem?_eq_getElem (by simpa using h)]
    rfl
  · rw [List.getElem?_eq_none (by simpa using h), List.getElem?_eq_none (by rw [srt_len hk]; simpa using h)]
theorem rp_vals {h : GH} : ∀ {vs us : List Value}, RpDL h (vs.map .v) us → us = vs
  | [], us, e => by simpa [RpDL] using e
  | v :: vs, us, e => by
    simp only [List.map_cons, RpDL] at e
    obtain ⟨u, us', rfl, h1, h2⟩ := e
    simp only [RpD] at h1
    rw [h1, rp_vals h2]
theorem rp_of_vals {h : GH} : ∀ {vs : List Value}, RpDL h (vs.map .v) vs
  | [] => by simp [RpDL]
  | v :: vs => by simp only [List.map_cons, RpDL]; exact ⟨v, vs, rfl, by simp [RpD], rp_of_vals⟩
theorem flat_cells {α : Type} (enc : α → List Value) (l : List α) : (l.map (cellsOf enc)).flatten = (l.flatMap enc).map .v := by
  induction l with
  | nil => rfl
  | cons x l ih => simp [cellsOf, ih]

section
variable {P : Program} {α : Type} [Inhabited α] {enc : α → List Value} {k : Nat}
theorem srt_cell {w : World} {g o : Nat} {cur : Array Value} {E : TypeId} (h : w.heap[g]? = some (.cells cur E (0, 0))) : w.cell? ⟨g, o, none⟩ = cur[o]? ∧ w.frozen? ⟨g, o, none⟩ = false := by
  constructor
  · simp [World.cell?, h]
  · simp [World.frozen?, h]
/-- What an array of the function's own holds, the kit's way. -/
theorem holds_of {h : GH} {w : World} {g : Nat} {cur : Array Value} {E : TypeId} {l : List α} (hk : ∀ x, (enc x).length = k) (hw : w.heap[g]? = some (.cells cur E (0, 0))) (hr : RpDL h (l.map (cellsOf enc)).flatten (cur.toList.take (l.length * k))) :
    HoldsK enc k w g 0 l.toArray := by
  rw [flat_cells] at hr
  have hcur := rp_vals hr
  intro t ht
  rw [size_flatK] at ht
  have ht' : t < l.length * k := by simpa using ht
  obtain ⟨c1, c2⟩ := srt_cell (o := 0 + t) hw
  refine ⟨?_, c2⟩
  rw [c1, Nat.zero_add]
  have h1 : cur.toList[t]? = (l.flatMap enc)[t]? := by
    rw [← hcur, List.getElem?_take, if_pos ht']
  rw [srt_get hk l t ht'] at h1
  rw [get_flatK _ _ _ _ ht, ← arr_list]
  simpa using h1

theorem srt_heap {w : World} {g m : Nat} {cur : Array Value} {E : TypeId} {d : Array α} {os : Array Obj} (hk : ∀ x, (enc x).length = k) (hw : w.heap[g]? = some (.cells cur E (0, 0))) (hs : d.size * k ≤ cur.size) :
    (∀ b, b < w.heap.size → b ≠ g → (sortWorldK enc k w g 0 m d os).heap[b]? = w.heap[b]?) ∧
    (∃ cur', (sortWorldK enc k w g 0 m d os).heap[g]? = some (.cells cur' E (0, 0)) ∧ cur'.size = cur.size ∧ cur'.toList.take (d.size * k) = d.toList.flatMap enc) ∧ w.heap.size ≤ (sortWorldK enc k w g 0 m d os).heap.size := by
  have hlt : g < w.heap.size := by
    rcases Nat.lt_or_ge g w.heap.size with hh | hh
    · exact hh
    · rw [Array.getElem?_eq_none hh] at hw; simp at hw
  have hheap : (sortWorldK enc k w g 0 m d os).heap = w.heap.modify g (onCells (putCells id 0 (flatK enc k d))) ++ os := rfl
  rw [hheap]
  refine ⟨fun b hb hne => ?_, ⟨putCells id 0 (flatK enc k d) cur, ?_, ?_, ?_⟩, ?_⟩
  · rw [Array.getElem?_append_left (by simpa using hb), Array.getElem?_modify, if_neg (fun e => hne e.symm)]
  · rw [Array.getElem?_append_left (by simpa using hlt), Array.getElem?_modify, if_pos rfl, hw]
    rfl
  · simp [putCells]
  · rw [← flatK_list hk]
    apply List.ext_getElem?
    intro t
    rw [List.getElem?_take]
    split
    · rename_i ht
      have h1 : t < cur.size := Nat.lt_of_lt_of_le ht hs
      have h2 : t < (flatK enc k d).size := by rw [size_flatK]; exact ht
      rw [List.getElem?_eq_getElem (by simpa [putCells] using h1), List.getElem?_eq_getElem (by simpa using h2)]
      simp only [putCells, Array.getElem_toList, Array.getElem_mapIdx]
      rw [if_pos ⟨Nat.zero_le _, by omega⟩, Nat.sub_zero, id, getElem!_pos _ t h2]
    · rename_i ht
      rw [List.getElem?_eq_none (by simpa using ht)]
  · simp
/-- slices.SortFunc: THE ROW IN ITS ROW. -/
theorem sort_ok {ρ : Ren} (L : SlLaysF0.n6 P ρ) (aE : ∀ w, (isAgg (ρ.t 24)).run P w = .ok true w) (zE : ∀ w, (Go.sizeOf (ρ.t 24)).run P w = .ok k w) (hk : ∀ x, (enc x).length = k) (h1 : ∀ x, ∀ v ∈ enc x, v.oneCell' = true) (hcl : ∀ x, ∀ c ∈ cellsOf enc x, closedA c = true)
    {cf : α → α → Int} (hO : SWO (ltOf cf)) (hT : ∀ x y, (ltOf cf) x y = false → (ltOf cf) y x = false → x = y) {g : Nat} (eg : ∀ args w, (callFunc g args).run P w = .ok (.enter g args) w) (eS : ∀ args w, (callFunc (ρ.f 6) args).run P w = .ok (.enter (ρ.f 6) args) w) {G : Nat → Option (List AV)}
    (hcmp : ∀ x y, CallOk P G g [.ag (cellsOf enc x), .ag (cellsOf enc y)] [] fun r T => r = .v (.int .i64 (cf x y)) ∧ T = []) (l : List α) (hl : l.length < 4611686018427387904) :
    CallOk P G (ρ.f 6) [.own 0, .cl g []] [some (.arr k (l.map (cellsOf enc)))] fun r T => r = .tup [] ∧ T = [some (.arr k ((l.mergeSort fun x y => !(ltOf cf) y x).map (cellsOf enc)))] := by
  intro h φ w vals hG hI hA
  refine .inl ⟨eS _ _, ?_⟩
  simp only [RpL] at hA
  obtain ⟨u0, us0, hv0, hA0, u1, us1, rfl, hA1, rfl⟩ := hA
  simp only [Rp] at hA0 hA1
  obtain ⟨_, rfl, _⟩ := hA0
  obtain ⟨us, rfl, hus⟩ := hA1
  simp only [RpL] at hus
  have hus' : us = #[] := by simpa using hus
  subst hus'
  obtain rfl : vals = #[φ 0, .func (.func g) #[] #[]] := by apply Array.toList_inj.1; simpa using hv0
  obtain ⟨hc, hobj⟩ := hI.obj 0 _ rfl
  have hperm := List.mergeSort_perm l (fun x y => !(ltOf cf) y x)
  have hlen : (l.mergeSort fun x y => !(ltOf cf) y x).length = l.length := hperm.length_eq
  rcases hobj with ⟨e0, hnil⟩ | ⟨b, c, cur, E, e0, e1, e2, e3, e4, e5, e6⟩
  · have : l = [] := by simpa using hnil
    subst this
    rw [e0]
    refine (AnyF.slices_SortFunc_none L none 0 (.func (.func g) #[] #[]) w).mono ?_
    rintro e w' ⟨rfl, rfl⟩
    have e0' : ([] : List α).mergeSort (fun x y => !(ltOf cf) y x) = [] := List.mergeSort_nil
    rw [e0']
    exact ⟨_, rfl, .tup [], _, h, φ, ⟨rfl, rfl⟩, Evo.refl, hI, by simp only [Rp]; exact ⟨#[], rfl, by simp [RpL]⟩⟩
  · rw [e0]
    rw [List.length_map] at e2 e6 ⊢
    have hb : b < w.heap.size := by
      rcases Nat.lt_or_ge b w.heap.size with hh | hh
      · exact hh
      · rw [Array.getElem?_eq_none hh] at e1; simp at e1
    have hH := holds_of hk e1 e6
    have hsz : l.length * k ≤ cur.size := by rw [e4]; exact Nat.mul_le_mul_right k e2
    have hgh : ∀ b' cs, h b' = some cs → b' ≠ b := fun b' cs e he => by rw [he, e5] at e; simp at e
    have hC : CmpLays P g #[] enc k cf b 0 l.toArray.size w := by
      intro m os dk hdk x y
      obtain ⟨s1, ⟨cur', s2, s3, s4⟩, s5⟩ := srt_heap (m := m) (os := os) (d := dk) hk e1 (by rw [hdk]; simpa using hsz)
      have hI' : Inv h φ (sortWorldK enc k w b 0 m dk os) [] := ⟨fun b' cs e => by
        obtain ⟨E', fr, hw'⟩ := hI.gh b' cs e
        have hb' : b' < w.heap.size := by
          rcases Nat.lt_or_ge b' w.heap.size with hh | hh
          · exact hh
          · rw [Array.getElem?_eq_none hh] at hw'; simp at hw'
        exact ⟨E', fr, by rw [s1 b' hb' (hgh b' cs e)]; exact hw'⟩, fun i o e => by simp at e, fun i j oi oj b e => by simp at e⟩
      have hargs : RpL h φ 0 [.ag (cellsOf enc x), .ag (cellsOf enc y)] (#[Value.agg (enc x).toArray, .agg (enc y).toArray] ++ #[] : Array Value).toList := by
        have key : ∀ l : List Value, RpL h φ 0 (l.map .v) l := by
          intro l
          induction l with
          | nil => simp [RpL]
          | cons c l ih => simp only [List.map_cons, RpL]; exact ⟨c, l, rfl, by simp [Rp], ih⟩
        simp only [RpL]
        exact ⟨_, _, rfl, by simp only [Rp]; exact ⟨_, rfl, key (enc x)⟩, _, _, rfl, by simp only [Rp]; exact ⟨_, rfl, key (enc y)⟩, rfl⟩
      rcases hcmp x y h φ _ _ hG hI' hargs with ⟨_, hc⟩ | ⟨v, w', hc, _⟩
      · refine hc.mono ?_
        rintro e w' ⟨v, rfl, r, T', h', φ', ⟨rfl, rfl⟩, hE, hI2, hv⟩
        simp only [Rp] at hv
        subst hv
        refine ⟨rfl, w'.drawn - (sortWorldK enc k w b 0 m dk os).drawn, w'.heap.extract (sortWorldK enc k w b 0 m dk os).heap.size w'.heap.size, ?_⟩
        have hd := hE.drawn
        have hheap : w'.heap = (sortWorldK enc k w b 0 m dk os).heap ++ w'.heap.extract (sortWorldK enc k w b 0 m dk os).heap.size w'.heap.size := by
          apply Array.ext_getElem?
          intro i
          rcases Nat.lt_or_ge i (sortWorldK enc k w b 0 m dk os).heap.size with hi | hi
          · rw [Array.getElem?_append_left hi, hE.frame i hi (fun j o e => by simp at e)]
          · rw [Array.getElem?_append_right hi]
            have := hE.size
            rw [Array.getElem?_extract]
            split
            · congr 1; omega
            · rw [Array.getElem?_eq_none (by omega)]
        have e7 := hE.os
        have e8 := hE.tape
        have e9 := hE.output
        revert hd hheap e7 e8 e9
        generalize sortWorldK enc k w b 0 m dk os = W
        intro hd hheap e7 e8 e9
        obtain ⟨hp, tp, dr, o, op⟩ := w'
        simp only at hheap hd e7 e8 e9
        subst e7; subst e8; subst e9
        simp only [Go.Sort.grow, World.drewN]
        rw [← hheap]
        congr 1
        omega
      · rw [eg] at hc; simp at hc
    refine (AnyQ.slices_SortFunc_total L k aE zE enc hk h1 cf hO g #[] b 0 c l.toArray w eg hC hH hb (by simpa using hl) hT).mono ?_
    rintro e w' ⟨rfl, n, os, rfl⟩
    generalize (l.mergeSort fun x y => !(ltOf cf) y x) = l' at hlen
    obtain ⟨s1, ⟨cur', s2, s3, s4⟩, s5⟩ := srt_heap (m := n) (os := os) (d := l'.toArray) hk e1 (by simpa [hlen] using hsz)
    have := inv_set (w' := sortWorldK enc k w b 0 n l'.toArray os) (o' := .arr k (l'.map (cellsOf enc))) hI rfl rfl rfl s5 (i := 0) (o := .arr k (l.map (cellsOf enc))) rfl
      (fun b' hb' hne => s1 b' hb' (fun e => hne (by rw [e0, e]; rfl)))
      ⟨fun x hx => by
        obtain ⟨y, _, rfl⟩ := List.mem_map.1 hx
        exact ⟨by simp [cellsOf, hk], hcl y⟩, .inr ⟨b, c, cur', E, by rw [List.length_map, hlen]; simpa using e0, s2, by rw [List.length_map, hlen]; exact e2, e3, by rw [s3]; exact e4, e5, by
          rw [List.length_map, flat_cells]
          simp only [List.size_toArray] at s4
          rw [s4]
          exact rp_of_vals⟩⟩
      (Nat.le_add_right _ _)
    exact ⟨_, rfl, .tup [], _, h, φ, ⟨rfl, rfl⟩, this.2, this.1, by simp only [Rp]; exact ⟨#[], rfl, by simp [RpL]⟩⟩
end
end Hud
