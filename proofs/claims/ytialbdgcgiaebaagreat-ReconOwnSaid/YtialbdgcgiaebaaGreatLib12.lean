import Derived.Test.YtialbdgcgiaebaaGreatLib11
import Derived.Shelf.SlSortCmp.NoneTotal
import Derived.Test.YtialbdgcgiaebaaGreatProg
set_option linter.all false
section
namespace Hud
open Go Go.Proofs Go.Sort Go.Shelf
def cellsOf {α : Type} (enc : α → List Value) (x : α) : List AV := (enc x).map .v
theorem srt_get {α : Type} [Inhabited α] {enc : α → List Value} {k : Nat} (hk : ∀ x, (enc x).length = k) : ∀ (l : List α) (t : Nat), t < l.length * k → (l.flatMap enc)[t]? = some ((enc l[t / k]!)[t % k]!)
  | [], t, h => by simp at h
  | x :: l, t, h => by
    have hk0 : 0 < k := by
      rcases Nat.eq_zero_or_pos k with h0 | h0
      · subst h0; simp at h
      · exact h0
    rw [List.flatMap_cons]
    rcases Nat.lt_or_ge t k with hlt | hge
    · rw [List.getElem?_append_left (by rw [hk]; exact hlt), Nat.div_eq_of_lt hlt, Nat.mod_eq_of_lt hlt, List.getElem!_eq_getElem?_getD]
      have : t < (enc x).length := by rw [hk]; exact hlt
      simp [this]
    · rw [List.getElem?_append_right (by rw [hk]; exact hge), hk]
      have h1 : t - k < l.length * k := by
        rw [List.length_cons, Nat.add_mul, Nat.one_mul] at h; omega
      rw [srt_get hk l (t - k) h1]
      have e1 : t / k = (t - k) / k + 1 := by
        have := Nat.add_div_right (t - k) hk0
        rw [Nat.sub_add_cancel hge] at this
        exact this
      have e2 : t % k = (t - k) % k := (Nat.mod_eq_sub_mod hge)
      rw [e1, ← e2]
      simp
theorem srt_len {α : Type} {enc : α → List Value} {k : Nat} (hk : ∀ x, (enc x).length = k) (l : List α) : (l.flatMap enc).length = l.length * k := by
  induction l with
  | nil => simp
  | cons x l ih => rw [List.flatMap_cons, List.length_append, hk, ih, List.length_cons, Nat.add_mul, Nat.one_mul, Nat.add_comm]
theorem arr_list {α : Type} [Inhabited α] (d : Array α) (i : Nat) : d.toList[i]! = d[i]! := by
  by_cases h : i < d.size
  · rw [getElem!_pos d i h, getElem!_pos d.toList i (by simpa using h)]; simp
  · rw [getElem!_neg d i h, getElem!_neg d.toList i (by simpa using h)]
theorem flatK_list {α : Type} [Inhabited α] {enc : α → List Value} {k : Nat} (hk : ∀ x, (enc x).length = k) (d : Array α) : (flatK enc k d).toList = d.toList.flatMap enc := by
  apply List.ext_getElem?
  intro t
  rcases Nat.lt_or_ge t (d.size * k) with h | h
  · have e : (flatK enc k d).toList[t]! = (enc d.toList[t / k]!)[t % k]! := by rw [arr_list (flatK enc k d), get_flatK enc k d t h, arr_list d]
    rw [srt_get hk d.toList t (by simpa using h), ← e, List.getElem!_eq_getElem?_getD, List.getElem?_eq_getElem (by simpa using h)]
    rfl
  · rw [List.getElem?_eq_none (by simpa using h), List.getElem?_eq_none (by rw [srt_len hk]; simpa using h)]
theorem rp_vals {h : GH} : ∀ {vs us : List Value}, RpDL h (vs.map .v) us → us = vs
  | [], us, e => by simpa [RpDL] using e
  | v :: vs, us, e => by
    simp only [List.map_cons, RpDL] at e
    obtain ⟨u, us', rfl, h1, h2⟩ := e
    simp only [RpD] at h1
    rw [h1, rp_vals h2]
theorem rp_of_vals {h : GH} : ∀ {vs : List Value}, RpDL h (vs.map .v) vs
  | [] => by simp [RpDL]
  | v :: vs => by simp only [List.map_cons, RpDL]; exact ⟨v, vs, rfl, by simp [RpD], rp_of_vals⟩
theorem flat_cells {α : Type} (enc : α → List Value) (l : List α) : (l.map (cellsOf enc)).flatten = (l.flatMap enc).map .v := by
  induction l with
  | nil => rfl
  | cons x l ih => simp [cellsOf, ih]
section
variable {P : Program} {α : Type} [Inhabited α] {enc : α → List Value} {k : Nat}
theorem srt_cell {w : World} {g o : Nat} {cur : Array Value} {E : TypeId} (h : w.heap[g]? = some (.cells cur E (0, 0))) : w.cell? ⟨g, o, none⟩ = cur[o]? ∧ w.frozen? ⟨g, o, none⟩ = false := by
  constructor
  · simp [World.cell?, h]
  · simp [World.frozen?, h]
theorem holds_of {h : GH} {w : World} {g : Nat} {cur : Array Value} {E : TypeId} {l : List α} (hk : ∀ x, (enc x).length = k) (hw : w.heap[g]? = some (.cells cur E (0, 0))) (hr : RpDL h (l.map (cellsOf enc)).flatten (cur.toList.take (l.length * k))) :
    HoldsK enc k w g 0 l.toArray := by
  rw [flat_cells] at hr
  have hcur := rp_vals hr
  intro t ht
  rw [size_flatK] at ht
  have ht' : t < l.length * k := by simpa using ht
  obtain ⟨c1, c2⟩ := srt_cell (o := 0 + t) hw
  refine ⟨?_, c2⟩
  rw [c1, Nat.zero_add]
  have h1 : cur.toList[t]? = (l.flatMap enc)[t]? := by
    rw [← hcur, List.getElem?_take, if_pos ht']
  rw [srt_get hk l t ht'] at h1
  rw [get_flatK _ _ _ _ ht, ← arr_list]
  simpa using h1
theorem srt_heap {w : World} {g m : Nat} {cur : Array Value} {E : TypeId} {d : Array α} {os : Array Obj} (hk : ∀ x, (enc x).length = k) (hw : w.heap[g]? = some (.cells cur E (0, 0))) (hs : d.size * k ≤ cur.size) :
    (∀ b, b < w.heap.size → b ≠ g → (sortWorldK enc k w g 0 m d os).heap[b]? = w.heap[b]?) ∧
    (∃ cur', (sortWorldK enc k w g 0 m d os).heap[g]? = some (.cells cur' E (0, 0)) ∧ cur'.size = cur.size ∧ cur'.toList.take (d.size * k) = d.toList.flatMap enc) ∧ w.heap.size ≤ (sortWorldK enc k w g 0 m d os).heap.size := by
  have hlt : g < w.heap.size := by
    rcases Nat.lt_or_ge g w.heap.size with hh | hh
    · exact hh
    · rw [Array.getElem?_eq_none hh] at hw; simp at hw
  have hheap : (sortWorldK enc k w g 0 m d os).heap = w.heap.modify g (onCells (putCells id 0 (flatK enc k d))) ++ os := rfl
  rw [hheap]
  refine ⟨fun b hb hne => ?_, ⟨putCells id 0 (flatK enc k d) cur, ?_, ?_, ?_⟩, ?_⟩
  · rw [Array.getElem?_append_left (by simpa using hb), Array.getElem?_modify, if_neg (fun e => hne e.symm)]
  · rw [Array.getElem?_append_left (by simpa using hlt), Array.getElem?_modify, if_pos rfl, hw]
    rfl
  · simp [putCells]
  · rw [← flatK_list hk]
    apply List.ext_getElem?
    intro t
    rw [List.getElem?_take]
    split
    · rename_i ht
      have h1 : t < cur.size := Nat.lt_of_lt_of_le ht hs
      have h2 : t < (flatK enc k d).size := by rw [size_flatK]; exact ht
      rw [List.getElem?_eq_getElem (by simpa [putCells] using h1), List.getElem?_eq_getElem (by simpa using h2)]
      simp only [putCells, Array.getElem_toList, Array.getElem_mapIdx]
      rw [if_pos ⟨Nat.zero_le _, by omega⟩, Nat.sub_zero, id, getElem!_pos _ t h2]
    · rename_i ht
      rw [List.getElem?_eq_none (by simpa using ht)]
  · simp
theorem sort_ok {ρ : Ren} (L : SlLaysF0.n6 P ρ) (aE : ∀ w, (isAgg (ρ.t 24)).run P w = .ok true w) (zE : ∀ w, (Go.sizeOf (ρ.t 24)).run P w = .ok k w) (hk : ∀ x, (enc x).length = k) (h1 : ∀ x, ∀ v ∈ enc x, v.oneCell' = true) (hcl : ∀ x, ∀ c ∈ cellsOf enc x, closedA c = true)
    {cf : α → α → Int} (hO : SWO (ltOf cf)) (hT : ∀ x y, (ltOf cf) x y = false → (ltOf cf) y x = false → x = y) {g : Nat} (eg : ∀ args w, (callFunc g args).run P w = .ok (.enter g args) w) (eS : ∀ args w, (callFunc (ρ.f 6) args).run P w = .ok (.enter (ρ.f 6) args) w) {G : Nat → Option (List AV)}
    (hcmp : ∀ x y, CallOk P G g [.ag (cellsOf enc x), .ag (cellsOf enc y)] [] fun r T => r = .v (.int .i64 (cf x y)) ∧ T = []) (l : List α) (hl : l.length < 4611686018427387904) :
    CallOk P G (ρ.f 6) [.own 0, .cl g []] [some (.arr k (l.map (cellsOf enc)))] fun r T => r = .tup [] ∧ T = [some (.arr k ((l.mergeSort fun x y => !(ltOf cf) y x).map (cellsOf enc)))] := by
  intro h φ w vals hG hI hA
  refine .inl ⟨eS _ _, ?_⟩
  simp only [RpL] at hA
  obtain ⟨u0, us0, hv0, hA0, u1, us1, rfl, hA1, rfl⟩ := hA
  simp only [Rp] at hA0 hA1
  obtain ⟨_, rfl, _⟩ := hA0
  obtain ⟨us, rfl, hus⟩ := hA1
  simp only [RpL] at hus
  have hus' : us = #[] := by simpa using hus
  subst hus'
  obtain rfl : vals = #[φ 0, .func (.func g) #[] #[]] := by apply Array.toList_inj.1; simpa using hv0
  obtain ⟨hc, hobj⟩ := hI.obj 0 _ rfl
  have hperm := List.mergeSort_perm l (fun x y => !(ltOf cf) y x)
  have hlen : (l.mergeSort fun x y => !(ltOf cf) y x).length = l.length := hperm.length_eq
  rcases hobj with ⟨A0, e0, hnil⟩ | ⟨b, c, cur, E, e0, e1, e2, e3, e4, e5, e6⟩
  · have : l = [] := by simpa using hnil
    subst this
    rw [e0]
    refine (AnyF.slices_SortFunc_none L A0 0 (.func (.func g) #[] #[]) w).mono ?_
    rintro e w' ⟨rfl, rfl⟩
    have e0' : ([] : List α).mergeSort (fun x y => !(ltOf cf) y x) = [] := List.mergeSort_nil
    rw [e0']
    exact ⟨_, rfl, .tup [], _, h, φ, ⟨rfl, rfl⟩, Evo.refl, hI, by simp only [Rp]; exact ⟨#[], rfl, by simp [RpL]⟩⟩
  · rw [e0]
    rw [List.length_map] at e2 e6 ⊢
    have hb : b < w.heap.size := by
      rcases Nat.lt_or_ge b w.heap.size with hh | hh
      · exact hh
      · rw [Array.getElem?_eq_none hh] at e1; simp at e1
    have hH := holds_of hk e1 e6
    have hsz : l.length * k ≤ cur.size := by rw [e4]; exact Nat.mul_le_mul_right k e2
    have hgh : ∀ b' cs, h b' = some cs → b' ≠ b := fun b' cs e he => by rw [he, e5] at e; simp at e
    have hC : CmpLays P g #[] enc k cf b 0 l.toArray.size w := by
      intro m os dk hdk x y
      obtain ⟨s1, ⟨cur', s2, s3, s4⟩, s5⟩ := srt_heap (m := m) (os := os) (d := dk) hk e1 (by rw [hdk]; simpa using hsz)
      have hI' : Inv h φ (sortWorldK enc k w b 0 m dk os) [] := ⟨fun b' cs e => by
        obtain ⟨E', fr, hw'⟩ := hI.gh b' cs e
        have hb' : b' < w.heap.size := by
          rcases Nat.lt_or_ge b' w.heap.size with hh | hh
          · exact hh
          · rw [Array.getElem?_eq_none hh] at hw'; simp at hw'
        exact ⟨E', fr, by rw [s1 b' hb' (hgh b' cs e)]; exact hw'⟩, fun i o e => by simp at e, fun i j oi oj b e => by simp at e⟩
      have hargs : RpL h φ 0 [.ag (cellsOf enc x), .ag (cellsOf enc y)] (#[Value.agg (enc x).toArray, .agg (enc y).toArray] ++ #[] : Array Value).toList := by
        have key : ∀ l : List Value, RpL h φ 0 (l.map .v) l := by
          intro l
          induction l with
          | nil => simp [RpL]
          | cons c l ih => simp only [List.map_cons, RpL]; exact ⟨c, l, rfl, by simp [Rp], ih⟩
        simp only [RpL]
        exact ⟨_, _, rfl, by simp only [Rp]; exact ⟨_, rfl, key (enc x)⟩, _, _, rfl, by simp only [Rp]; exact ⟨_, rfl, key (enc y)⟩, rfl⟩
      rcases hcmp x y h φ _ _ hG hI' hargs with ⟨_, hc⟩ | ⟨v, w', hc, _⟩
      · refine hc.mono ?_
        rintro e w' ⟨v, rfl, r, T', h', φ', ⟨rfl, rfl⟩, hE, hI2, hv⟩
        simp only [Rp] at hv
        subst hv
        refine ⟨rfl, w'.drawn - (sortWorldK enc k w b 0 m dk os).drawn, w'.heap.extract (sortWorldK enc k w b 0 m dk os).heap.size w'.heap.size, ?_⟩
        have hd := hE.drawn
        have hheap : w'.heap = (sortWorldK enc k w b 0 m dk os).heap ++ w'.heap.extract (sortWorldK enc k w b 0 m dk os).heap.size w'.heap.size := by
          apply Array.ext_getElem?
          intro i
          rcases Nat.lt_or_ge i (sortWorldK enc k w b 0 m dk os).heap.size with hi | hi
          · rw [Array.getElem?_append_left hi, hE.frame i hi (fun j o e => by simp at e)]
          · rw [Array.getElem?_append_right hi]
            have := hE.size
            rw [Array.getElem?_extract]
            split
            · congr 1; omega
            · rw [Array.getElem?_eq_none (by omega)]
        have e7 := hE.os
        have e8 := hE.tape
        have e9 := hE.output
        revert hd hheap e7 e8 e9
        generalize sortWorldK enc k w b 0 m dk os = W
        intro hd hheap e7 e8 e9
        obtain ⟨hp, tp, dr, o, op⟩ := w'
        simp only at hheap hd e7 e8 e9
        subst e7; subst e8; subst e9
        simp only [Go.Sort.grow, World.drewN]
        rw [← hheap]
        congr 1
        omega
      · rw [eg] at hc; simp at hc
    refine (AnyQ.slices_SortFunc_total L k aE zE enc hk h1 cf hO g #[] b 0 (c + 1) l.toArray w eg hC hH hb (by simpa using hl) hT).mono ?_
    rintro e w' ⟨rfl, n, os, rfl⟩
    generalize (l.mergeSort fun x y => !(ltOf cf) y x) = l' at hlen
    obtain ⟨s1, ⟨cur', s2, s3, s4⟩, s5⟩ := srt_heap (m := n) (os := os) (d := l'.toArray) hk e1 (by simpa [hlen] using hsz)
    have := inv_set (w' := sortWorldK enc k w b 0 n l'.toArray os) (o' := .arr k (l'.map (cellsOf enc))) hI rfl rfl rfl s5 (i := 0) (o := .arr k (l.map (cellsOf enc))) rfl
      (fun b' hb' hne => s1 b' hb' (fun e => hne (by rw [e0, e]; rfl)))
      ⟨fun x hx => by
        obtain ⟨y, _, rfl⟩ := List.mem_map.1 hx
        exact ⟨by simp [cellsOf, hk], hcl y⟩, .inr ⟨b, c, cur', E, by rw [List.length_map, hlen]; simpa using e0, s2, by rw [List.length_map, hlen]; exact e2, e3, by rw [s3]; exact e4, e5, by
          rw [List.length_map, flat_cells]
          simp only [List.size_toArray] at s4
          rw [s4]
          exact rp_of_vals⟩⟩
      (Nat.le_add_right _ _)
    exact ⟨_, rfl, .tup [], _, h, φ, ⟨rfl, rfl⟩, this.2, this.1, by simp only [Rp]; exact ⟨#[], rfl, by simp [RpL]⟩⟩
end
end Hud
end
section
namespace Go.Proofs
open Go.Shelf
def Tryz.laysSort_ren : Go.Shelf.Ren := ⟨fun | 6 => 60 | 15 => 66 | 14 => 81 | 28 => 93 | 29 => 94 | 20 => 106 | 21 => 107 | 22 => 108 | 23 => 109 | 24 => 110 | 25 => 111 | 26 => 112 | 27 => 113 | 46 => 124 | 47 => 117 | 48 => 118 | 49 => 125 | 50 => 126 | 57 => 130 | n => n, fun | 22 => 23 | 24 => 35 | 25 => 79 | 3 => 3 | 39 => 85 | 0 => 0 | 53 => 110 | 55 => 33 | 4 => 4 | 46 => 102 | 45 => 101 | 50 => 107 | 5 => 5 | 9 => 9 | 66 => 127 | 70 => 131 | 76 => 139 | 77 => 140 | n => n, fun | n => n⟩
theorem Tryz.laysSort : Go.Proofs.SlLaysF0.n6 Tryz.prog Tryz.laysSort_ren := {
  mixed := by kernel_rfl
  f6 := ⟨Tryz.f60.name, by decide, Tryz.func60.trans (congrArg some (by kernel_rfl))⟩
  f14 := ⟨Tryz.f81.name, by decide, Tryz.func81.trans (congrArg some (by kernel_rfl))⟩
  f15 := Tryz.func66.trans (congrArg some (by kernel_rfl))
  f20 := ⟨Tryz.f106.name, by decide, Tryz.func106.trans (congrArg some (by kernel_rfl))⟩
  f21 := ⟨Tryz.f107.name, by decide, Tryz.func107.trans (congrArg some (by kernel_rfl))⟩
  f22 := ⟨Tryz.f108.name, by decide, Tryz.func108.trans (congrArg some (by kernel_rfl))⟩
  f23 := ⟨Tryz.f109.name, by decide, Tryz.func109.trans (congrArg some (by kernel_rfl))⟩
  f24 := ⟨Tryz.f110.name, by decide, Tryz.func110.trans (congrArg some (by kernel_rfl))⟩
  f25 := ⟨Tryz.f111.name, by decide, Tryz.func111.trans (congrArg some (by kernel_rfl))⟩
  f26 := ⟨Tryz.f112.name, by decide, Tryz.func112.trans (congrArg some (by kernel_rfl))⟩
  f27 := ⟨Tryz.f113.name, by decide, Tryz.func113.trans (congrArg some (by kernel_rfl))⟩
  f28 := Tryz.func93.trans (congrArg some (by kernel_rfl))
  f29 := Tryz.func94.trans (congrArg some (by kernel_rfl))
  f46 := ⟨Tryz.f124.name, by decide, Tryz.func124.trans (congrArg some (by kernel_rfl))⟩
  f47 := Tryz.func117.trans (congrArg some (by kernel_rfl))
  f48 := Tryz.func118.trans (congrArg some (by kernel_rfl))
  f49 := ⟨Tryz.f125.name, by decide, Tryz.func125.trans (congrArg some (by kernel_rfl))⟩
  f50 := ⟨Tryz.f126.name, by decide, Tryz.func126.trans (congrArg some (by kernel_rfl))⟩
  f57 := ⟨Tryz.f130.name, by decide, Tryz.func130.trans (congrArg some (by kernel_rfl))⟩
  t0 := Tryz.underlying0
  a0 := Tryz.isAgg0
  z0 := Tryz.sizeOf0
  v0 := Tryz.zeroValue0
  t3 := Tryz.underlying3
  a3 := Tryz.isAgg3
  z3 := Tryz.sizeOf3
  v3 := Tryz.zeroValue3
  t4 := Tryz.underlying4
  a4 := Tryz.isAgg4
  z4 := Tryz.sizeOf4
  v4 := Tryz.zeroValue4
  t5 := Tryz.underlying5
  a5 := Tryz.isAgg5
  z5 := Tryz.sizeOf5
  v5 := Tryz.zeroValue5
  t9 := Tryz.underlying9
  a9 := Tryz.isAgg9
  z9 := Tryz.sizeOf9
  v9 := Tryz.zeroValue9
  t22 := Tryz.underlying23
  a22 := Tryz.isAgg23
  z22 := Tryz.sizeOf23
  v22 := Tryz.zeroValue23
  t25 := Tryz.underlying79
  a25 := Tryz.isAgg79
  z25 := Tryz.sizeOf79
  v25 := Tryz.zeroValue79
  t39 := Tryz.underlying85
  a39 := Tryz.isAgg85
  z39 := Tryz.sizeOf85
  v39 := Tryz.zeroValue85
  t45 := Tryz.underlying101
  a45 := Tryz.isAgg101
  z45 := Tryz.sizeOf101
  v45 := Tryz.zeroValue101
  t46 := Tryz.underlying102
  a46 := Tryz.isAgg102
  z46 := Tryz.sizeOf102
  v46 := Tryz.zeroValue102
  t50 := Tryz.underlying107
  a50 := Tryz.isAgg107
  z50 := Tryz.sizeOf107
  v50 := Tryz.zeroValue107
  t53 := Tryz.underlying110
  a53 := Tryz.isAgg110
  z53 := Tryz.sizeOf110
  v53 := Tryz.zeroValue110
  t55 := Tryz.underlying33
  a55 := Tryz.isAgg33
  z55 := Tryz.sizeOf33
  v55 := Tryz.zeroValue33
  t66 := Tryz.underlying127
  a66 := Tryz.isAgg127
  z66 := Tryz.sizeOf127
  v66 := Tryz.zeroValue127
  t70 := Tryz.underlying131
  a70 := Tryz.isAgg131
  z70 := Tryz.sizeOf131
  v70 := Tryz.zeroValue131
  t76 := Tryz.underlying139
  a76 := Tryz.isAgg139
  z76 := Tryz.sizeOf139
  v76 := Tryz.zeroValue139
  t77 := Tryz.underlying140
  a77 := Tryz.isAgg140
  z77 := Tryz.sizeOf140
  v77 := Tryz.zeroValue140 }
end Go.Proofs
end
section
namespace Hud
open Go
structure Id where
  a : Int
  b : Int
  c : Int
  deriving DecidableEq, Inhabited
def Id.A (x : Id) : List AV := [.v (.int .i64 x.a), .v (.int .i64 x.b), .v (.int .u64 x.c)]
theorem Id.A_def (x : Id) : x.A = [.v (.int .i64 x.a), .v (.int .i64 x.b), .v (.int .u64 x.c)] := Eq.trans rfl rfl
def Id.lt (x y : Id) : Bool := if x.a = y.a then (if x.b = y.b then decide (x.c < y.c) else decide (x.b < y.b)) else decide (x.a < y.a)
@[go_sem] theorem Id.beq (x y : Id) : (x.a == y.a && (x.b == y.b && x.c == y.c)) = decide (x = y) := by
  obtain ⟨xa, xb, xc⟩ := x
  obtain ⟨ya, yb, yc⟩ := y
  rw [Bool.eq_iff_iff]
  simp
theorem Id.lt_irrefl (x : Id) : x.lt x = false := by simp [Id.lt]
theorem Id.lt_trans {x y z : Id} (h1 : x.lt y = true) (h2 : y.lt z = true) : x.lt z = true := by
  unfold Id.lt at *
  (repeat' split at h1) <;> (repeat' split at h2) <;> (repeat' split) <;> simp_all <;> omega
theorem Id.lt_total {x y : Id} (h1 : x.lt y = false) (h2 : y.lt x = false) : x = y := by
  obtain ⟨xa, xb, xc⟩ := x
  obtain ⟨ya, yb, yc⟩ := y
  unfold Id.lt at *
  (repeat' split at h1) <;> (repeat' split at h2) <;> simp_all <;> omega
theorem Id.nlt_trans {x y z : Id} (h1 : x.lt y = false) (h2 : y.lt z = false) : x.lt z = false := by
  cases e : x.lt z with
  | false => rfl
  | true =>
    cases e2 : y.lt x with
    | true => have := Id.lt_trans e2 e; rw [h2] at this; simp at this
    | false => have := Id.lt_total h1 e2; subst this; rw [h2] at e; simp at e
abbrev ids (l : List Id) : AV := .ls 3 (l.map Id.A)
section
variable {G : Nat → Option (List AV)}
set_option maxHeartbeats 2000000
theorem c_cmp_isNaN_int (x : Int) : CallOk Go.Proofs.Tryz.prog G n_cmp_isNaN_int [.v (.int .i64 x)] [] fun r T => r = .v (.bool false) ∧ T = [] := by
  refine fun_okH h_cmp_isNaN_int_ok (by decide) ?_
  unfold h_cmp_isNaN_int
  simp only [go_sem, ↓reduceIte, bne_self_eq_false]
theorem c_cmp_isNaN_uint64 (x : Int) : CallOk Go.Proofs.Tryz.prog G n_cmp_isNaN_uint64 [.v (.int .u64 x)] [] fun r T => r = .v (.bool false) ∧ T = [] := by
  refine fun_okH h_cmp_isNaN_uint64_ok (by decide) ?_
  unfold h_cmp_isNaN_uint64
  simp only [go_sem, ↓reduceIte, bne_self_eq_false]
def cmp3 (x y : Int) : Int := if x < y then -1 else if y < x then 1 else 0
theorem c_cmp_Compare_int (x y : Int) : CallOk Go.Proofs.Tryz.prog G n_cmp_Compare_int [.v (.int .i64 x), .v (.int .i64 y)] [] fun r T => r = .v (.int .i64 (cmp3 x y)) ∧ T = [] := by
  refine fun_okH h_cmp_Compare_int_ok (by decide) ?_
  unfold h_cmp_Compare_int
  simp only [go_sem, ↓reduceIte]
  refine call_pure (subL_refl _) rfl (c_cmp_isNaN_int x) rfl ?_
  simp only [go_sem, ↓reduceIte]
  refine call_pure (subL_refl _) rfl (c_cmp_isNaN_int y) rfl ?_
  simp only [go_sem, ↓reduceIte]
  refine condW_i (fun h => ?_) (fun h => ?_) <;> simp only [go_sem, ↓reduceIte]
  · simp_all [cmp3]
  · refine condW_i (fun h2 => ?_) (fun h2 => ?_) <;> simp only [go_sem, ↓reduceIte] <;> simp_all [cmp3]
    omega
theorem c_cmp_Compare_uint64 (x y : Int) : CallOk Go.Proofs.Tryz.prog G n_cmp_Compare_uint64 [.v (.int .u64 x), .v (.int .u64 y)] [] fun r T => r = .v (.int .i64 (cmp3 x y)) ∧ T = [] := by
  refine fun_okH h_cmp_Compare_uint64_ok (by decide) ?_
  unfold h_cmp_Compare_uint64
  simp only [go_sem, ↓reduceIte]
  refine call_pure (subL_refl _) rfl (c_cmp_isNaN_uint64 x) rfl ?_
  simp only [go_sem, ↓reduceIte]
  refine call_pure (subL_refl _) rfl (c_cmp_isNaN_uint64 y) rfl ?_
  simp only [go_sem, ↓reduceIte]
  refine condW_i (fun h => ?_) (fun h => ?_) <;> simp only [go_sem, ↓reduceIte]
  · simp_all [cmp3]
  · refine condW_i (fun h2 => ?_) (fun h2 => ?_) <;> simp only [go_sem, ↓reduceIte] <;> simp_all [cmp3]
    omega
end
def I1 (x : Int) : List AV := [.v (.int .i64 x)]
theorem I1_def (x : Int) : I1 x = [.v (.int .i64 x)] := rfl
abbrev ints (l : List Int) : AV := .ls 1 (l.map I1)
def around (n m : Int) : Int := (if n < 0 then -(n + 1) else n) % m
def firstNz : List Int → Int
  | [] => 0
  | x :: r => if x = 0 then firstNz r else x
theorem firstNz_take {l : List Int} {i : Nat} (h : ∀ j, j < i → l.getD j 0 = 0) (hi : i < l.length) (hx : l[i] ≠ 0) : firstNz l = l[i] := by
  induction l generalizing i with
  | nil => simp at hi
  | cons a l ih =>
    cases i with
    | zero => simp only [List.getElem_cons_zero] at hx ⊢; simp [firstNz, hx]
    | succ i =>
      have h0 : a = 0 := by simpa using h 0 (by omega)
      simp only [firstNz, h0, if_true, List.getElem_cons_succ]
      exact ih (fun j hj => by simpa using h (j + 1) (by omega)) (by simpa using hi) (by simpa using hx)
theorem firstNz_zero {l : List Int} (h : ∀ j, j < l.length → l.getD j 0 = 0) : firstNz l = 0 := by
  induction l with
  | nil => rfl
  | cons a l ih =>
    have h0 : a = 0 := by simpa using h 0 (by simp)
    simp only [firstNz, h0, if_true]
    exact ih fun j hj => by simpa using h (j + 1) (by simpa using hj)
theorem cmp3_z {x y : Int} : cmp3 x y = 0 ↔ x = y := by
  unfold cmp3; constructor <;> intro h <;> (repeat' split at *) <;> omega
theorem cmp3_n {x y : Int} : cmp3 x y < 0 ↔ x < y := by
  unfold cmp3; constructor <;> intro h <;> (repeat' split at *) <;> omega
theorem lt_cmp (x y : Id) : decide (firstNz [cmp3 x.a y.a, cmp3 x.b y.b, cmp3 x.c y.c] < 0) = x.lt y := by
  rw [Bool.eq_iff_iff]
  simp only [firstNz, Id.lt, cmp3_z]
  by_cases h1 : x.a = y.a
  · by_cases h2 : x.b = y.b
    · by_cases h3 : x.c = y.c
      · simp [h1, h2, h3]
      · simp only [h1, h2, h3, if_true, if_false, decide_eq_true_eq, cmp3_n]
    · simp only [h1, h2, if_true, if_false, decide_eq_true_eq, cmp3_n]
  · simp only [h1, if_false, decide_eq_true_eq, cmp3_n]
section
variable {G : Nat → Option (List AV)}
set_option maxHeartbeats 2000000
theorem c_cmp_Or_int (l : List Int) (hl : l.length ≤ maxLen) : CallOk Go.Proofs.Tryz.prog G n_cmp_Or_int [ints l] [] fun r T => r = .v (.int .i64 (firstNz l)) ∧ T = [] := by
  refine fun_okH h_cmp_Or_int_ok (by decide) ?_
  unfold h_cmp_Or_int
  unfold maxLen at hl
  simp only [go_sem, ↓reduceIte, List.length_map]
  refine loop_up l.length (fun i => ⟨0, [(3, .v (.int .i64 0)), (6, ints l), (7, .v (.int .i64 l.length)), (8, .v (.int .i64 i))], []⟩) (fun i => ∀ j, j < i → l.getD j 0 = 0) ?_ (by simp) ?_ ?_
  · (simp only [go_sem, ↓reduceIte]) <;> rfl
  · intro i hi hj
    simp only [go_sem, ↓reduceIte, dlt_t hi, nth_map I1 l i hi, I1_def, wrap_suc (show i < 9223372036854775807 by omega)]
    refine condW_i (fun h => ?_) (fun h => ?_) <;> simp only [go_sem, ↓reduceIte, wrap_suc (show i < 9223372036854775807 by omega)]
    · rw [firstNz_take hj hi (by simpa using h)]
    · intro j hj'
      rcases Nat.lt_or_ge j i with h1 | h1
      · exact hj j h1
      · obtain rfl : j = i := by omega
        simpa [List.getD_eq_getElem?_getD, hi] using h
  · intro hj
    simp only [go_sem, ↓reduceIte, dlt_f (Nat.lt_irrefl _), firstNz_zero hj]
theorem c_op_Less (x y : Id) : CallOk Go.Proofs.Tryz.prog G n_op_Less [.ag x.A, .ag y.A] [] fun r T => r = .v (.bool (x.lt y)) ∧ T = [] := by
  refine fun_okH h_op_Less_ok (by decide) ?_
  unfold h_op_Less
  simp only [go_sem, ↓reduceIte, Id.A]
  refine call_pure (subL_refl _) rfl (c_cmp_Compare_int x.a y.a) rfl ?_
  simp only [go_sem, ↓reduceIte]
  refine call_pure (subL_refl _) rfl (c_cmp_Compare_int x.b y.b) rfl ?_
  simp only [go_sem, ↓reduceIte]
  refine call_pure (subL_refl _) rfl (c_cmp_Compare_uint64 x.c y.c) rfl ?_
  simp only [go_sem, ↓reduceIte]
  refine call_lend_pure (subL_refl _) rfl rfl (c_cmp_Or_int [cmp3 x.a y.a, cmp3 x.b y.b, cmp3 x.c y.c] (by simp [maxLen])) ?_
  simp only [go_sem, ↓reduceIte]
  rw [lt_cmp]
theorem c_r01_Around (n m : Int) (h1 : -9223372036854775808 ≤ n) (h2 : n ≤ 9223372036854775807) (h3 : 1 ≤ m) (h4 : m ≤ 9223372036854775807) :
    CallOk Go.Proofs.Tryz.prog G n_r01_Around [.v (.int .i64 n), .v (.int .i64 m)] [] fun r T => r = .v (.int .i64 (around n m)) ∧ T = [] := by
  refine fun_okH h_r01_Around_ok (by decide) ?_
  unfold h_r01_Around
  have hm : ¬ m = 0 := by omega
  simp only [go_sem, ↓reduceIte, hm]
  refine condW_i (fun h => ?_) (fun h => ?_) <;> simp only [go_sem, ↓reduceIte, hm]
  · have hn : n < 0 := by simpa using h
    rw [wrap_i64 (n := n + 1) (by omega) (by omega), wrap_i64 (by omega) (by omega)]
    simp only [around, hn, if_true]
    rw [Int.zero_sub, Int.tmod_eq_emod_of_nonneg (by omega)]
  · have hn : ¬ n < 0 := by simpa using h
    simp only [around, hn, if_false]
    rw [Int.tmod_eq_emod_of_nonneg (by omega)]
theorem c_r11_SameIDs (x y : List Id) (hl : x.length ≤ maxLen) : CallOk Go.Proofs.Tryz.prog G n_r11_SameIDs [ids x, ids y] [] fun r T => r = .v (.bool (decide (x = y))) ∧ T = [] := by
  refine fun_okH h_r11_SameIDs_ok (by decide) ?_
  unfold h_r11_SameIDs
  unfold maxLen at hl
  simp only [go_sem, ↓reduceIte, List.length_map]
  refine condW_i (fun h => ?_) (fun h => ?_) <;> simp only [go_sem, ↓reduceIte]
  · have : x ≠ y := fun e => len_ne h (by rw [e])
    simp [this]
  have hxy := len_eq h
  refine loop_up x.length (fun i => ⟨0, [(0, ids x), (1, ids y), (5, .v (.int .i64 i))], []⟩) (fun i => x.take i = y.take i) ?_ (by simp) ?_ ?_
  · (simp only [go_sem, ↓reduceIte]) <;> rfl
  · intro i hi hj
    have hy : i < y.length := by omega
    simp only [go_sem, ↓reduceIte, List.length_map, dlt_t hi, nth_map Id.A x i hi, nth_map Id.A y i hy, Id.A_def, wrap_suc (show i < 9223372036854775807 by omega)]
    refine condW_i (fun h => ?_) (fun h => ?_) <;> simp only [go_sem, ↓reduceIte, wrap_suc (show i < 9223372036854775807 by omega)]
    · have : x ≠ y := by rintro rfl; simp at h
      simp [this]
    · have : x[i] = y[i] := by simpa using h
      rw [List.take_succ_eq_append_getElem hi, List.take_succ_eq_append_getElem hy, hj, this]
  · intro hj
    have : x = y := by
      rw [List.take_length] at hj
      rw [hj, hxy, List.take_length]
    simp only [go_sem, ↓reduceIte, List.length_map, dlt_f (Nat.lt_irrefl _), this]
theorem c_r11_HasID (l : List Id) (x : Id) (hl : l.length ≤ maxLen) : CallOk Go.Proofs.Tryz.prog G n_r11_HasID [ids l, .ag x.A] [] fun r T => r = .v (.bool (decide (x ∈ l))) ∧ T = [] := by
  refine fun_okH h_r11_HasID_ok (by decide) ?_
  unfold h_r11_HasID
  unfold maxLen at hl
  simp only [go_sem, ↓reduceIte, List.length_map, Id.A_def]
  refine loop_up l.length (fun i => ⟨0, [(0, ids l), (3, .ptr 0 0), (5, .v (.int .i64 i))], [some (.box x.A)]⟩) (fun i => x ∉ l.take i) ?_ (by simp) ?_ ?_
  · simp only [go_sem, ↓reduceIte]; rfl
  · intro i hi hj
    simp only [go_sem, ↓reduceIte, List.length_map, dlt_t hi, nth_map Id.A l i hi, Id.A_def, wrap_suc (show i < 9223372036854775807 by omega)]
    refine condW_i (fun h => ?_) (fun h => ?_) <;> simp only [go_sem, ↓reduceIte, wrap_suc (show i < 9223372036854775807 by omega)]
    · have : l[i] = x := by simpa using h
      have : x ∈ l := by rw [← this]; exact List.getElem_mem hi
      simp [this]
    · refine ⟨rfl, ?_⟩
      have : l[i] ≠ x := by simpa using h
      intro hx
      rw [List.take_succ_eq_append_getElem hi] at hx
      rcases List.mem_append.1 hx with hx | hx
      · exact hj hx
      · exact this (List.mem_singleton.1 hx).symm
  · intro hj
    rw [List.take_length] at hj
    simp only [go_sem, ↓reduceIte, List.length_map, dlt_f (Nat.lt_irrefl _), hj]
end
section
variable {G : Nat → Option (List AV)}
set_option maxHeartbeats 2000000
end
def Id.K (x : Id) : List Value := [.int .i64 x.a, .int .i64 x.b, .int .u64 x.c]
def msortI (l : List Id) : List Id := l.mergeSort (fun x y => !(y.lt x))
def cmpI (x y : Id) : Int := if x.lt y then -1 else if y.lt x then 1 else 0
section
variable {G : Nat → Option (List AV)}
theorem c_recon_sorted_1 (x y : Id) : CallOk Go.Proofs.Tryz.prog G n_recon_sorted_1 [.ag x.A, .ag y.A] [] fun r T => r = .v (.int .i64 (cmpI x y)) ∧ T = [] := by
  refine fun_okH h_recon_sorted_1_ok (by decide) ?_
  unfold h_recon_sorted_1
  simp only [go_sem, ↓reduceIte, Id.A_def]
  refine call_pure (subL_refl _) rfl (c_op_Less x y) rfl ?_
  simp only [go_sem, ↓reduceIte]
  refine condW_i (fun h => ?_) (fun h => ?_)
  · simp only [go_sem, ↓reduceIte, cmpI, h]
  · simp only [go_sem, ↓reduceIte]
    refine call_pure (subL_refl _) rfl (c_op_Less y x) rfl ?_
    simp only [go_sem, ↓reduceIte]
    refine condW_i (fun h2 => ?_) (fun h2 => ?_) <;> simp only [go_sem, ↓reduceIte, cmpI, h, h2]
theorem c_SortI (l : List Id) (hl : l.length < 4611686018427387904) : CallOk Go.Proofs.Tryz.prog G n_slices_SortFunc_Lapi_Ident_api_Ident [.own 0, .cl n_recon_sorted_1 []] [some (.arr 3 (l.map Id.A))] fun r T => r = .tup [] ∧ T = [some (.arr 3 ((msortI l).map Id.A))] := by
  have hlt : ∀ x y : Id, Go.Proofs.ltOf cmpI x y = x.lt y := by
    intro x y
    unfold Go.Proofs.ltOf cmpI
    cases h : x.lt y
    · cases y.lt x <;> simp
    · simp
  have := sort_ok (k := 3) (enc := Id.K) Go.Proofs.Tryz.laysSort Go.Proofs.Tryz.isAgg35 Go.Proofs.Tryz.sizeOf35 (fun _ => rfl) (fun x v hv => by simp [Id.K] at hv; rcases hv with rfl | rfl | rfl <;> rfl)
    (fun x c hc => by simp [cellsOf, Id.K] at hc; rcases hc with rfl | rfl | rfl <;> rfl) (cf := cmpI)
    ⟨fun x => by rw [hlt, Id.lt_irrefl], fun x y z h1 h2 => by rw [hlt] at *; exact Id.lt_trans h1 h2, fun x y z h1 h2 => by rw [hlt] at *; exact Id.nlt_trans h1 h2⟩
    (fun x y h1 h2 => by rw [hlt] at *; exact Id.lt_total h1 h2) (g := n_recon_sorted_1) (Go.Proofs.enters_of Go.Proofs.Tryz.func61 (by kernel_rfl) rfl) (Go.Proofs.enters_of Go.Proofs.Tryz.func60 (by kernel_rfl) rfl) (G := G) c_recon_sorted_1 l hl
  have e : (fun x y : Id => !(Go.Proofs.ltOf cmpI y x)) = fun x y => !(y.lt x) := by funext x y; rw [hlt]
  rw [e] at this
  exact this
theorem c_recon_sorted (l : List Id) (hl : l.length < 4611686018427387904) : CallOk Go.Proofs.Tryz.prog G n_recon_sorted [.own 0] [some (.arr 3 (l.map Id.A))] fun r T => r = .own 0 ∧ T = [some (.arr 3 ((msortI l).map Id.A))] := by
  refine fun_okH h_recon_sorted_ok (by simp) ?_
  unfold h_recon_sorted
  simp only [go_sem, ↓reduceIte]
  refine call_at [0] (subL_refl _) (by decide) (by simp) rfl rfl (c_SortI l hl) ?_
  rintro r T' ⟨rfl, rfl⟩
  simp only [go_sem, ↓reduceIte]
end
end Hud
end
section
namespace Hud
open Go Go.Proofs Go.Sort Go.Shelf
section
variable {P : Program} {α : Type} [Inhabited α] {enc : α → List Value} {k : Nat}
theorem srt_heapV {w : World} {g m : Nat} {cur : Array Value} {E : TypeId} {d : Array α} {os : Array Obj} (hk : ∀ x, (enc x).length = k) (hw : w.heap[g]? = some (.cells cur E (0, 0))) (hs : d.size * k ≤ cur.size) :
    (∀ b, b < w.heap.size → b ≠ g → (sortWorldK enc k w g 0 m d os).heap[b]? = w.heap[b]?) ∧
    (∃ cur', (sortWorldK enc k w g 0 m d os).heap[g]? = some (.cells cur' E (0, 0)) ∧ cur'.size = cur.size ∧ cur'.toList.take (d.size * k) = d.toList.flatMap enc ∧ cur'.toList.drop (d.size * k) = cur.toList.drop (d.size * k)) ∧ w.heap.size ≤ (sortWorldK enc k w g 0 m d os).heap.size := by
  obtain ⟨h1, ⟨cur', h2, h3, h4⟩, h5⟩ := srt_heap (m := m) (os := os) hk hw hs
  refine ⟨h1, ⟨cur', h2, h3, h4, ?_⟩, h5⟩
  have hlt : g < w.heap.size := by
    rcases Nat.lt_or_ge g w.heap.size with hh | hh
    · exact hh
    · rw [Array.getElem?_eq_none hh] at hw; simp at hw
  have hheap : (sortWorldK enc k w g 0 m d os).heap = w.heap.modify g (onCells (putCells id 0 (flatK enc k d))) ++ os := rfl
  rw [hheap, Array.getElem?_append_left (by simpa using hlt), Array.getElem?_modify, if_pos rfl, hw] at h2
  simp only [Option.map_some, onCells, Option.some.injEq, Obj.cells.injEq, and_true] at h2
  subst h2
  apply List.ext_getElem?
  intro t
  rw [List.getElem?_drop, List.getElem?_drop]
  rcases Nat.lt_or_ge (d.size * k + t) cur.size with ht | ht
  · rw [List.getElem?_eq_getElem (by simpa [putCells] using ht), List.getElem?_eq_getElem (by simpa using ht)]
    simp only [putCells, Array.getElem_toList, Array.getElem_mapIdx]
    rw [if_neg (by rw [size_flatK]; omega)]
  · rw [List.getElem?_eq_none (by simpa [putCells] using ht), List.getElem?_eq_none (by simpa using ht)]
theorem flatMap_take (hk : ∀ x, (enc x).length = k) (l : List α) (n : Nat) (hn : n ≤ l.length) : (l.flatMap enc).take (n * k) = (l.take n).flatMap enc ∧ (l.flatMap enc).drop (n * k) = (l.drop n).flatMap enc := by
  have e : l.flatMap enc = (l.take n).flatMap enc ++ (l.drop n).flatMap enc := by rw [← List.flatMap_append, List.take_append_drop]
  have hl : ((l.take n).flatMap enc).length = n * k := by rw [srt_len hk, List.length_take, Nat.min_eq_left hn]
  rw [e]
  exact ⟨List.take_left' hl, List.drop_left' hl⟩
theorem sort_okV {ρ : Ren} (L : SlLaysF0.n6 P ρ) (aE : ∀ w, (isAgg (ρ.t 24)).run P w = .ok true w) (zE : ∀ w, (Go.sizeOf (ρ.t 24)).run P w = .ok k w) (hk : ∀ x, (enc x).length = k) (h1 : ∀ x, ∀ v ∈ enc x, v.oneCell' = true) (hcl : ∀ x, ∀ c ∈ cellsOf enc x, closedA c = true)
    {cf : α → α → Int} (hO : SWO (ltOf cf)) (hT : ∀ x y, (ltOf cf) x y = false → (ltOf cf) y x = false → x = y) {g : Nat} (eg : ∀ args w, (callFunc g args).run P w = .ok (.enter g args) w) (eS : ∀ args w, (callFunc (ρ.f 6) args).run P w = .ok (.enter (ρ.f 6) args) w) {G : Nat → Option (List AV)}
    (hcmp : ∀ x y, CallOk P G g [.ag (cellsOf enc x), .ag (cellsOf enc y)] [] fun r T => r = .v (.int .i64 (cf x y)) ∧ T = []) (l : List α) (n : Nat) (hn : n ≤ l.length) (hl : l.length < 4611686018427387904) :
    CallOk P G (ρ.f 6) [.vw 0 k 0 n, .cl g []] [some (.arr k (l.map (cellsOf enc)))] fun r T => r = .tup [] ∧ T = [some (.arr k ((((l.take n).mergeSort fun x y => !(ltOf cf) y x) ++ l.drop n).map (cellsOf enc)))] := by
  intro h φ w vals hG hI hA
  refine .inl ⟨eS _ _, ?_⟩
  simp only [RpL] at hA
  obtain ⟨u0, us0, hv0, hA0, u1, us1, rfl, hA1, rfl⟩ := hA
  simp only [Rp] at hA0 hA1
  obtain ⟨_, A1, c1, rfl, hc1, hc2, hA0⟩ := hA0
  obtain ⟨us, rfl, hus⟩ := hA1
  simp only [RpL] at hus
  have hus' : us = #[] := by simpa using hus
  subst hus'
  obtain rfl : vals = #[.slice A1 n c1, .func (.func g) #[] #[]] := by apply Array.toList_inj.1; simpa using hv0
  obtain ⟨hc, hobj⟩ := hI.obj 0 _ rfl
  have hperm := List.mergeSort_perm (l.take n) (fun x y => !(ltOf cf) y x)
  have hlt : (l.take n).length = n := by rw [List.length_take]; omega
  have hlen : ((l.take n).mergeSort fun x y => !(ltOf cf) y x).length = n := by rw [hperm.length_eq, hlt]
  by_cases h0 : n = 0
  · subst h0
    refine (AnyF.slices_SortFunc_none L A1 c1 (.func (.func g) #[] #[]) w).mono ?_
    rintro e w' ⟨rfl, rfl⟩
    have e0' : (l.take 0).mergeSort (fun x y => !(ltOf cf) y x) = [] := List.mergeSort_nil
    rw [e0', List.drop_zero, List.nil_append]
    exact ⟨_, rfl, .tup [], _, h, φ, ⟨rfl, rfl⟩, Evo.refl, hI, by simp only [Rp]; exact ⟨#[], rfl, by simp [RpL]⟩⟩
  rcases hobj with ⟨A0, e0, hnil⟩ | ⟨b, c, cur, E, e0, e1, e2, e3, e4, e5, e6⟩
  · have : l = [] := by simpa using hnil
    subst this
    simp at hn
    exact absurd hn h0
  · obtain ⟨gg, ll, cc, f1, f2, f3⟩ := hA0.resolve_left h0
    rw [e0] at f1
    injection f1 with f1 f4 f5
    injection f1 with f1
    injection f1 with f1
    subst f1
    subst f2
    rw [Nat.zero_mul]
    rw [List.length_map] at e2 e6
    have hb : b < w.heap.size := by
      rcases Nat.lt_or_ge b w.heap.size with hh | hh
      · exact hh
      · rw [Array.getElem?_eq_none hh] at e1; simp at e1
    have e7 := e6
    rw [flat_cells] at e7
    have e8 := rp_vals e7
    obtain ⟨t1, t2⟩ := flatMap_take hk l n hn
    have hsl : l.length * k ≤ cur.size := by rw [e4]; exact Nat.mul_le_mul_right k e2
    have hnk : n * k ≤ l.length * k := Nat.mul_le_mul_right k hn
    have e9 : cur.toList.take (n * k) = (l.take n).flatMap enc := by
      rw [← t1, ← e8, List.take_take, Nat.min_eq_left hnk]
    have e10 : (cur.toList.drop (n * k)).take ((l.length - n) * k) = (l.drop n).flatMap enc := by
      rw [← t2, ← e8, List.drop_take, Nat.sub_mul]
    have hH := holds_of (h := h) (l := l.take n) hk e1 (by rw [hlt, flat_cells, e9]; exact rp_of_vals)
    have hsz : n * k ≤ cur.size := by omega
    have hgh : ∀ b' cs, h b' = some cs → b' ≠ b := fun b' cs e he => by rw [he, e5] at e; simp at e
    have hC : CmpLays P g #[] enc k cf b 0 (l.take n).toArray.size w := by
      intro m os dk hdk x y
      obtain ⟨s1, ⟨cur', s2, s3, s4⟩, s5⟩ := srt_heap (m := m) (os := os) (d := dk) hk e1 (by rw [hdk, List.size_toArray, hlt]; exact hsz)
      have hI' : Inv h φ (sortWorldK enc k w b 0 m dk os) [] := ⟨fun b' cs e => by
        obtain ⟨E', fr, hw'⟩ := hI.gh b' cs e
        have hb' : b' < w.heap.size := by
          rcases Nat.lt_or_ge b' w.heap.size with hh | hh
          · exact hh
          · rw [Array.getElem?_eq_none hh] at hw'; simp at hw'
        exact ⟨E', fr, by rw [s1 b' hb' (hgh b' cs e)]; exact hw'⟩, fun i o e => by simp at e, fun i j oi oj b e => by simp at e⟩
      have hargs : RpL h φ 0 [.ag (cellsOf enc x), .ag (cellsOf enc y)] (#[Value.agg (enc x).toArray, .agg (enc y).toArray] ++ #[] : Array Value).toList := by
        have key : ∀ l : List Value, RpL h φ 0 (l.map .v) l := by
          intro l
          induction l with
          | nil => simp [RpL]
          | cons c l ih => simp only [List.map_cons, RpL]; exact ⟨c, l, rfl, by simp [Rp], ih⟩
        simp only [RpL]
        exact ⟨_, _, rfl, by simp only [Rp]; exact ⟨_, rfl, key (enc x)⟩, _, _, rfl, by simp only [Rp]; exact ⟨_, rfl, key (enc y)⟩, rfl⟩
      rcases hcmp x y h φ _ _ hG hI' hargs with ⟨_, hc⟩ | ⟨v, w', hc, _⟩
      · refine hc.mono ?_
        rintro e w' ⟨v, rfl, r, T', h', φ', ⟨rfl, rfl⟩, hE, hI2, hv⟩
        simp only [Rp] at hv
        subst hv
        refine ⟨rfl, w'.drawn - (sortWorldK enc k w b 0 m dk os).drawn, w'.heap.extract (sortWorldK enc k w b 0 m dk os).heap.size w'.heap.size, ?_⟩
        have hd := hE.drawn
        have hheap : w'.heap = (sortWorldK enc k w b 0 m dk os).heap ++ w'.heap.extract (sortWorldK enc k w b 0 m dk os).heap.size w'.heap.size := by
          apply Array.ext_getElem?
          intro i
          rcases Nat.lt_or_ge i (sortWorldK enc k w b 0 m dk os).heap.size with hi | hi
          · rw [Array.getElem?_append_left hi, hE.frame i hi (fun j o e => by simp at e)]
          · rw [Array.getElem?_append_right hi]
            have := hE.size
            rw [Array.getElem?_extract]
            split
            · congr 1; omega
            · rw [Array.getElem?_eq_none (by omega)]
        have e7 := hE.os
        have e8 := hE.tape
        have e9 := hE.output
        revert hd hheap e7 e8 e9
        generalize sortWorldK enc k w b 0 m dk os = W
        intro hd hheap e7 e8 e9
        obtain ⟨hp, tp, dr, o, op⟩ := w'
        simp only at hheap hd e7 e8 e9
        subst e7; subst e8; subst e9
        simp only [Go.Sort.grow, World.drewN]
        rw [← hheap]
        congr 1
        omega
      · rw [eg] at hc; simp at hc
    have key := AnyQ.slices_SortFunc_total L k aE zE enc hk h1 cf hO g #[] b 0 c1 (l.take n).toArray w eg hC hH hb (by rw [List.size_toArray, hlt]; omega) hT
    rw [List.size_toArray, hlt] at key
    refine key.mono ?_
    rintro e w' ⟨rfl, m, os, rfl⟩
    generalize ((l.take n).mergeSort fun x y => !(ltOf cf) y x) = l' at hlen
    obtain ⟨s1, ⟨cur', s2, s3, s4, s6⟩, s5⟩ := srt_heapV (m := m) (os := os) (d := l'.toArray) hk e1 (by rw [List.size_toArray, hlen]; exact hsz)
    rw [List.size_toArray, hlen] at s4 s6
    have hll : (l' ++ l.drop n).length = l.length := by rw [List.length_append, hlen, List.length_drop]; omega
    have hnew : cur'.toList.take (l.length * k) = (l' ++ l.drop n).flatMap enc := by
      rw [List.flatMap_append, ← e10, ← s6, ← List.take_append_drop (n * k) cur'.toList, s4]
      have hle : (l'.flatMap enc).length = n * k := by rw [srt_len hk, hlen]
      rw [show l.length * k = n * k + (l.length - n) * k by rw [Nat.sub_mul]; omega, ← hle, List.take_length_add_append]
      congr 2
      rw [List.drop_left' rfl]
    have := inv_set (w' := sortWorldK enc k w b 0 m l'.toArray os) (o' := .arr k ((l' ++ l.drop n).map (cellsOf enc))) hI rfl rfl rfl s5 (i := 0) (o := .arr k (l.map (cellsOf enc))) rfl
      (fun b' hb' hne => s1 b' hb' (fun e => hne (by rw [e0, e]; rfl)))
      ⟨fun x hx => by
        obtain ⟨y, _, rfl⟩ := List.mem_map.1 hx
        exact ⟨by simp [cellsOf, hk], hcl y⟩, .inr ⟨b, c, cur', E, by rw [List.length_map, hll]; simpa using e0, s2, by rw [List.length_map, hll]; exact e2, e3, by rw [s3]; exact e4, e5, by
          rw [List.length_map, flat_cells, hll, hnew]
          exact rp_of_vals⟩⟩
      (Nat.le_add_right _ _)
    exact ⟨_, rfl, .tup [], _, h, φ, ⟨rfl, rfl⟩, this.2, this.1, by simp only [Rp]; exact ⟨#[], rfl, by simp [RpL]⟩⟩
end
end Hud
end
