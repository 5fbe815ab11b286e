/- Operations that make an object, or write one. -/
import Derived.Test.YthmdkjeflllfpaaHudK
set_option linter.all false
namespace Hud
open Go

section
variable {P : Program} {G : Nat → Option (List AV)} {h : GH} {φ : Nat → Value} {T : Tab} {w : World} {s : List (Nat × AV)} {a : Act}

/-- It yields a value, in a world that has the objects T'. -/
def Makes (h : GH) (φ : Nat → Value) (T : Tab) (w : World) (run : Result Value) (x : AV) (T' : Tab) : Prop :=
  ∃ v w' h' φ', run = .ok v w' ∧ Evo h φ T w h' φ' T' w' ∧ Inv h' φ' w' T' ∧ Rp h' φ' T'.length x v

theorem heap_alloc_lt (w : World) (o : Obj) (b : Nat) (h : b < w.heap.size) : (w.alloc o).heap[b]? = w.heap[b]? 
    := by rw [World.alloc, Array.getElem?_push, if_neg (by omega)]

theorem new_box (hI : Inv h φ w T) {cs : List AV} {us : Array Value} (hr : RpL h φ T.length cs us.toList) (E : TypeId) :
    Makes h φ T w (.ok (.pointer (some ⟨w.heap.size, 0, none⟩)) (w.alloc (.cells us E))) (.ptr T.length 0) (T ++ [some (.box cs)]) := by
  have hn : h w.heap.size = none := by
    cases e : h w.heap.size with
    | none => rfl
    | some cs => have := ghost_lt hI e; omega
  have := inv_new (w' := w.alloc (.cells us E)) (o := .box cs) (v := .pointer (some ⟨w.heap.size, 0, none⟩)) hI rfl rfl rfl (by simp) (fun b hb => heap_alloc_lt w _ b hb)
    (fun g hg => by simp only [blk, Option.some.injEq] at hg; omega)
    ⟨w.heap.size, us, E, upd_self, heap_alloc_new w _, hn, hr.mono (GLe.refl h) (by omega) fun i hi => upd_lt hi⟩
  refine ⟨_, _, h, _, rfl, this.2, this.1, ?_⟩
  simp only [Rp]
  exact ⟨by simp, w.heap.size, upd_self, rfl⟩

theorem box_makes (hG : GOk G h) (hI : Inv h φ w T) (hS : SOk h φ T.length s a) {E : TypeId} {p : Operand} {x : AV} {T' : Tab} (he : hop T (evO G s) (.box p) = some (x, T')) :
    Makes h φ T w ((Instr.box E (a.eval p)).run P w) x T' := by
  simp only [hop] at he
  split at he
  · rename_i hone
    injection he with he; injection he with e1 e2; subst e1; subst e2
    have hr := cellsA_ok (ev_ok hG hS p) (fun c hc => List.all_eq_true.1 hone c hc)
    have : (Instr.box E (a.eval p)).run P w = .ok (.pointer (some ⟨w.heap.size, 0, none⟩)) (w.alloc (.cells (a.eval p).cells E)) := by
      simp [Instr.box, newVar, newRow]
    rw [this]
    exact new_box hI hr E
  · simp at he

theorem rpl_v (h : GH) (φ : Nat → Value) (n : Nat) : ∀ (us : List Value), RpL h φ n (us.map .v) us
  | [] => by simp [RpL]
  | u :: us => by simp only [List.map_cons, RpL]; exact ⟨u, us, rfl, by simp [Rp], rpl_v h φ n us⟩

theorem alloc_makes (hI : Inv h φ w T) {E : TypeId} {i : TypeInfo} {z : Value} (hi : P.info? E = some i) (hz : i.zero = some z) {ev : Operand → AV} {x : AV} {T' : Tab} (he : hop T ev (.alloc z.cells.toList) = some (x, T')) :
    Makes h φ T w ((Instr.alloc E true (.tuple #[])).run P w) x T' := by
  simp only [hop] at he
  injection he with he; injection he with e1 e2; subst e1; subst e2
  have : (Instr.alloc E true (.tuple #[])).run P w = .ok (.pointer (some ⟨w.heap.size, 0, none⟩)) (w.alloc (.cells z.cells E)) := by
    simp [Instr.alloc, zeroValue, typeInfo, hi, hz, newVar, newRow]
  rw [this]
  exact new_box hI (by simpa using rpl_v h φ T.length z.cells.toList) E

-- parts laid into cells
theorem fold_set (vs : Array Value) (off : Nat) (cs : Array Value) (hl : off + vs.size ≤ cs.size) :
    (vs.zipIdx.foldl (fun cs (c, j) => cs.setIfInBounds (off + j) c) cs).toList = cs.toList.take off ++ vs.toList ++ cs.toList.drop (off + vs.size) := by
  have key : ∀ (l : List Value) (k : Nat) (cs : Array Value), off + k + l.length ≤ cs.size →
      ((l.zipIdx k).foldl (fun (cs : Array Value) (p : Value × Nat) => cs.setIfInBounds (off + p.2) p.1) cs).toList = cs.toList.take (off + k) ++ l ++ cs.toList.drop (off + k + l.length) := by
    intro l
    induction l with
    | nil => intro k cs _; simp
    | cons v l ih =>
      intro k cs hc
      simp only [List.length_cons] at hc
      simp only [List.zipIdx_cons, List.foldl_cons]
      rw [ih (k + 1) _ (by simp; omega)]
      have := list_seg_step cs.toList (off + k) v l (by simp; omega)
      simpa [Array.toList_setIfInBounds, Nat.add_assoc] using this
  have := key vs.toList 0 cs (by simpa using hl)
  rw [← Array.foldl_toList, Array.toList_zipIdx]
  simpa using this

/-- The parts, as values. -/
def partsV (a : Act) (l : List (Nat × Nat × Operand)) : List (Nat × Nat × Value) := l.map fun p => (p.1, p.2.1, a.eval p.2.2)

def layV (cells : List Value) : List (Nat × Nat × Value) → Option (List Value)
  | [] => some cells
  | (off, n, x) :: r => if x.cells.size = n ∧ off + n ≤ cells.length then layV (cells.take off ++ x.cells.toList ++ cells.drop (off + n)) r else none

theorem lay_ok (hG : GOk G h) (hS : SOk h φ T.length s a) : ∀ (l : List (Nat × Nat × Operand)) {cells : List AV} {us : List Value} {cs : List AV}, RpL h φ T.length cells us →
    layA cells (l.map fun p => (p.1, p.2.1, evO G s p.2.2)) = some cs → ∃ vs, layV us (partsV a l) = some vs ∧ RpL h φ T.length cs vs
  | [], cells, us, cs, hr, e => by
    simp only [List.map_nil, layA, Option.some.injEq] at e
    subst e
    exact ⟨us, rfl, hr⟩
  | p :: l, cells, us, cs, hr, e => by
    simp only [List.map_cons, layA] at e
    split at e
    · rename_i hc
      have hx := cellsA_ok (ev_ok hG hS p.2.2) (fun c hc' => List.all_eq_true.1 hc.2.2 c hc')
      have hl := hx.length
      have hrl := hr.length
      simp only [partsV, List.map_cons, layV]
      rw [if_pos ⟨by simp only [Array.length_toList] at hl; omega, by omega⟩]
      exact lay_ok hG hS l (((hr.take _).app hx).app (hr.drop _)) e
    · simp at e

theorem fill_ok {place : Nat → Option (Nat × Nat)} (pl : Nat → Nat × Nat) : ∀ (l : List (Nat × Value)) (cells : Array Value) (vs : List Value),
    (∀ p ∈ l, place p.1 = some (pl p.1)) → layV cells.toList (l.map fun p => ((pl p.1).1, (pl p.1).2, p.2)) = some vs → Instr.fill place cells l = some vs.toArray
  | [], cells, vs, _, e => by
    simp only [List.map_nil, layV, Option.some.injEq] at e
    subst e
    simp [Instr.fill]
  | (i, v) :: l, cells, vs, hf, e => by
    have hp := hf (i, v) (by simp)
    simp only [List.map_cons, layV] at e
    split at e
    · rename_i hc
      simp only [Array.length_toList] at hc
      simp only [Instr.fill, hp]
      rw [if_neg (by simp; omega)]
      refine fill_ok pl l _ vs (fun p hp => hf p (by simp [hp])) ?_
      rw [fold_set _ _ _ (by omega), hc.1]
      exact e
    · simp at e

theorem partsA_eq (n : Nat) : ∀ (l : List (Nat × Operand)), partsA n l = l.map fun p => (p.1 * n, n, p.2)
  | [] => rfl
  | (i, x) :: l => by simp [partsA, partsA_eq n l]
def plB (P : Program) (fs : List Field) (i : Nat) : Nat × Nat := match fs[i]? with | some f => (f.offset, (sizeT P f.type).getD 0) | none => (0, 0)
theorem partsB_eq {fs : List Field} : ∀ {l : List (Nat × Operand)} {r : List (Nat × Nat × Operand)}, partsB P fs l = some r →
    r = (l.map fun p => ((plB P fs p.1).1, (plB P fs p.1).2, p.2)) ∧ ∀ p ∈ l, ∃ f n, fs[p.1]? = some f ∧ sizeT P f.type = some n ∧ plB P fs p.1 = (f.offset, n)
  | [], r, e => by simp only [partsB, Option.some.injEq] at e; subst e; simp
  | (i, x) :: l, r, e => by
    simp only [partsB] at e
    split at e
    · simp at e
    · rename_i f hf
      split at e
      · rename_i n l' hn hl
        injection e with e
        obtain ⟨h1, h2⟩ := partsB_eq hl
        have hp : plB P fs i = (f.offset, n) := by simp [plB, hf, hn]
        subst h1
        subst e
        refine ⟨by simp [hp], fun p hp' => ?_⟩
        rcases List.mem_cons.1 hp' with rfl | hp'
        · exact ⟨f, n, hf, hn, hp⟩
        · exact h2 p hp'
      · simp at e

theorem mapM_places (fs : List Field) (hs : ∀ f ∈ fs, (sizeT P f.type).isSome = true) :
    (fs.mapM fun f => do pure (f.offset, ← Go.sizeOf f.type) : Sem (List (Nat × Nat))).run P w = .ok (fs.map fun f => (f.offset, (sizeT P f.type).getD 0)) w := by
  induction fs with
  | nil => simp
  | cons f fs ih =>
    obtain ⟨n, hn⟩ := Option.isSome_iff_exists.1 (hs f (by simp))
    rw [List.mapM_cons]
    simp only [Sem.run_bind, sizeT_some hn, Result.andThen_ok, Sem.run_pure, ih fun f hf => hs f (by simp [hf]), List.map_cons, hn, Option.getD_some]

theorem bldS_gives {t : TypeId} {fs : Array Field} (ht : P.underlying t = some (.struct fs)) {i : TypeInfo} (hi : P.info? t = some i) {z : Value} (hz : i.zero = some z) {parts : Array (Nat × Operand)} {l : List (Nat × Nat × Operand)}
    (hl : partsB P fs.toList parts.toList = some l) (hfs : fs.toList.all (fun f => (sizeT P f.type).isSome) = true) (hG : GOk G h) (hS : SOk h φ T.length s a) {x : AV} {T' : Tab}
    (he : hop T (evO G s) (.bld z.cells.toList l) = some (x, T')) :
    T' = T ∧ ∃ v, (Instr.build t (parts.map fun (i, x) => (i, a.eval x))).run P w = .ok v w ∧ Rp h φ T.length x v := by
  simp only [hop] at he
  split at he
  · rename_i cs hcs
    injection he with he; injection he with e1 e2; subst e1; subst e2
    obtain ⟨vs, h1, h2⟩ := lay_ok hG hS l (rpl_v h φ T.length z.cells.toList) hcs
    obtain ⟨h3, h4⟩ := partsB_eq hl
    have hpl := mapM_places (P := P) (w := w) fs.toList (fun f hf => List.all_eq_true.1 hfs f hf)
    have hfill := fill_ok (place := fun i => (fs.toList.map fun f => (f.offset, (sizeT P f.type).getD 0)).toArray[i]?) (plB P fs.toList) (parts.toList.map fun p => (p.1, a.eval p.2)) z.cells vs
      (fun p hp => by
        obtain ⟨q, hq, rfl⟩ := List.mem_map.1 hp
        obtain ⟨f, n, hf, hn, hb⟩ := h4 q hq
        simp [hf, hb, hn]) (by rw [← h1, h3]; simp [partsV, List.map_map, Function.comp_def])
    refine ⟨rfl, .agg vs.toArray, ?_, by simp only [Rp]; exact ⟨_, rfl, by simpa using h2⟩⟩
    have hm : (fs.mapM fun f => do pure (f.offset, ← Go.sizeOf f.type) : Sem (Array (Nat × Nat))).run P w = .ok (fs.toList.map fun f => (f.offset, (sizeT P f.type).getD 0)).toArray w := by
      rw [Array.mapM_eq_mapM_toList]
      simp only [Sem.run_map, hpl, Result.andThen_ok]
    simp only [Instr.build, Sem.run_bind, zeroValue, typeInfo, run_program, Result.andThen_ok, hi, Sem.run_pure, hz, run_underlying ht, hm]
    simp only [Array.toList_map]
    rw [hfill]
    rfl
  · simp at he
end
end Hud
