/- From a contract of ours to a row of the given statements: arguments of whole numbers, truths and texts, aggregates of these and slices of such. No program in sight. -/
import Derived.Test.YthmdkjeflllfpaaHudY
import Derived.ProofKit
import Derived.Deep.Slices
set_option linter.all false
namespace Hud
open Go Go.RowKit Go.WideShapes Go.ChangeShapes Go.Deep

/-- A cell of a kind. -/
def okLeaf : LK → Value → Prop
  | .int k, v => ∃ n, v = .int k n ∧ (Lit.int k n).wf = true
  | .bool, v => ∃ b, v = .bool b
  | .str, v => ∃ s, v = .string s ∧ s.size ≤ maxLen
def okCells : List LK → List Value → Prop
  | [], vs => vs = []
  | k :: ks, vs => ∃ v r, vs = v :: r ∧ okLeaf k v ∧ okCells ks r
theorem okCells_app {a b : List LK} {u v : List Value} (h : okCells a u) (k : okCells b v) : okCells (a ++ b) (u ++ v) := by
  induction a generalizing u with
  | nil => simp only [okCells] at h; subst h; simpa using k
  | cons x a ih =>
    simp only [okCells] at h
    obtain ⟨w, r, rfl, h1, h2⟩ := h
    simp only [List.cons_append, okCells]
    exact ⟨w, r ++ v, rfl, h1, ih h2⟩
theorem okCells_len {a : List LK} {u : List Value} (h : okCells a u) : u.length = a.length := by
  induction a generalizing u with
  | nil => simp only [okCells] at h; subst h; rfl
  | cons x a ih => simp only [okCells] at h; obtain ⟨w, r, rfl, h1, h2⟩ := h; simp [ih h2]

mutual
/-- The kinds of a type's cells. -/
def shapeT (P : Program) : Nat → TypeId → Option (List LK)
  | 0, _ => none
  | n + 1, t => match P.underlying t with
    | some .bool => some [.bool]
    | some (.int k) => some [.int k]
    | some .string => some [.str]
    | some (.struct fs) => shapeF P n fs.toList 0
    | _ => none
def shapeF (P : Program) : Nat → List Field → Nat → Option (List LK)
  | 0, _, _ => none
  | _ + 1, [], _ => some []
  | n + 1, f :: fs, off => match shapeT P n f.type, shapeF P n fs (off + P.cellsOf f.type) with
    | some a, some b => if f.offset = off ∧ a.length = P.cellsOf f.type then some (a ++ b) else none
    | _, _ => none
end
section
variable {H : Type} {enc : TypeId × Value → H} {P : Program} {w : World} {base : Nat} {spare : Nat → Bool} {held : Bool}
mutual
theorem shapeT_ok : ∀ {n : Nat} {t : TypeId} {ks : List LK}, shapeT P n t = some ks → ks.length = P.cellsOf t → ∀ {fuel : Nat} {cs : List Value} {x : DataW H × List MemPlace}, DataW.trod enc P w base spare held fuel t cs = some x → okCells ks cs
  | 0, _, _, h, _, _, _, _, _ => by simp [shapeT] at h
  | n + 1, t, ks, h, hl, fuel, cs, x, e => by
    simp only [shapeT] at h
    split at h
    · rename_i ht
      injection h with h; subst h
      obtain ⟨b, hc, _⟩ := DataW.trod_bool ht e
      subst hc
      simp [okCells, okLeaf]
    · rename_i k ht
      injection h with h; subst h
      obtain ⟨m, hc, _, hw⟩ := DataW.trod_int ht e
      subst hc
      simp [okCells, okLeaf, hw]
    · rename_i ht
      injection h with h; subst h
      obtain ⟨s, hc, _, hw⟩ := DataW.trod_string ht e
      subst hc
      simp [okCells, okLeaf, hw]
    · rename_i fs ht
      obtain ⟨xs, m, _, _, hcl, hlen, hf⟩ := DataW.trod_struct ht e
      have := shapeF_ok h (cs := cs) (fun i f hi => by
        have h1 := hf i f (by simpa using hi)
        have h2 : i < xs.length := by
          rw [hlen]
          rcases Nat.lt_or_ge i fs.size with hh | hh
          · exact hh
          · rw [List.getElem?_eq_none (by simpa using hh)] at hi; simp at hi
        exact ⟨m, _, h1.trans (List.getElem?_eq_getElem h2)⟩) (by rw [hcl, ← hl, Nat.zero_add])
      simpa using this
    · simp at h
theorem shapeF_ok : ∀ {n : Nat} {fs : List Field} {off : Nat} {ks : List LK}, shapeF P n fs off = some ks → ∀ {cs : List Value}, (∀ (i : Nat) (f : Field), fs[i]? = some f → ∃ fuel x, DataW.trod enc P w base spare held fuel f.type ((cs.drop f.offset).take (P.cellsOf f.type)) = some x) →
    cs.length = off + ks.length → okCells ks (cs.drop off)
  | 0, _, _, _, h, _, _, _ => by simp [shapeF] at h
  | n + 1, [], off, ks, h, cs, hf, hl => by
    simp only [shapeF, Option.some.injEq] at h
    subst h
    simp only [okCells]
    exact List.drop_of_length_le (by simp at hl; omega)
  | n + 1, f :: fs, off, ks, h, cs, hf, hl => by
    simp only [shapeF] at h
    split at h
    · rename_i a b h1 h2
      split at h
      · rename_i hc
        injection h with h; subst h
        obtain ⟨hc1, hc2⟩ := hc
        obtain ⟨fuel, x, e⟩ := hf 0 f rfl
        have ih1 := shapeT_ok h1 hc2 e
        rw [List.length_append] at hl
        have ih2 := shapeF_ok h2 (cs := cs) (fun i g hi => hf (i + 1) g (by simpa using hi)) (by rw [← hc2]; omega)
        rw [hc1] at ih1
        have : cs.drop off = (cs.drop off).take (P.cellsOf f.type) ++ cs.drop (off + P.cellsOf f.type) := by
          rw [← List.drop_drop, List.take_append_drop]
        rw [this]
        exact okCells_app ih1 ih2
      · simp at h
    · simp at h
end
end

/-- All old memory: nobody writes it any more. -/
def allG (w : World) : GH := fun b => match w.heap[b]? with | some (.cells cs _ _) => some cs | _ => none
theorem allG_inv (w : World) (φ : Nat → Value) : Inv (allG w) φ w [] where
  gh := fun b cs e => by
    unfold allG at e
    split at e
    · rename_i c E fr h
      injection e with e; subst e
      exact ⟨E, fr, h⟩
    · simp at e
  obj := fun i o e => by simp at e
  dis := fun i j oi oj b e => by simp at e
theorem allG_cell {w : World} {b o : Nat} {v : Value} (h : w.cell? ⟨b, o, none⟩ = some v) : cellG (allG w) b o = some v := by
  unfold World.cell? at h
  unfold cellG allG
  split at h
  · rename_i c E fr h1
    simp only at h1
    rw [h1]
    simpa using h
  · simp at h
theorem leaf_closed {k : LK} {v : Value} (h : okLeaf k v) : closedA (.v v) = true := by
  cases k with
  | int k => obtain ⟨n, rfl, _⟩ := h; rfl
  | bool => obtain ⟨b, rfl⟩ := h; rfl
  | str => obtain ⟨s, rfl, _⟩ := h; rfl
theorem okCells_get {ks : List LK} {vs : List Value} (h : okCells ks vs) : ∀ {i : Nat} {v : Value}, vs[i]? = some v → ∃ k, okLeaf k v := by
  induction ks generalizing vs with
  | nil => simp only [okCells] at h; subst h; simp
  | cons k ks ih =>
    simp only [okCells] at h
    obtain ⟨u, r, rfl, h1, h2⟩ := h
    intro i v hi
    cases i with
    | zero => simp only [List.getElem?_cons_zero, Option.some.injEq] at hi; subst hi; exact ⟨k, h1⟩
    | succ i => exact ih h2 (by simpa using hi)

section
variable {H : Type} {enc : TypeId × Value → H} {P : Program} {W : World} {base : Nat} {spare : Nat → Bool} {held : Bool} {h : GH} {φ : Nat → Value}
/-- A slice that came in. -/
theorem slice_in {t e : TypeId} {ks : List LK} {n : Nat} (ht : P.underlying t = some (.slice e)) (hs : shapeT P n e = some ks) (hk : ks.length = P.cellsOf e) (hk0 : 0 < ks.length) {A : Option Addr} {l0 c0 : Nat} {d : DataW H} {ps : List MemPlace}
    (hd : DataW.Trod enc P W base spare held t (.slice A l0 c0) d ps) :
    ∃ es : List (List Value), (∀ x ∈ es, okCells ks x) ∧ es.length ≤ maxLen ∧ Rp (allG W) φ 0 (.ls ks.length (es.map fun x => x.map .v)) (.slice A l0 c0) := by
  obtain ⟨fuel, hd⟩ := hd
  rcases open_slice ht hd with ⟨h1, _⟩ | ⟨a, len, cap, m, n', D, Pl, h1, _, h3, h4, hm, _, hel⟩
  · obtain ⟨rfl, rfl, rfl⟩ : A = none ∧ l0 = 0 ∧ c0 = 0 := by simpa [Value.cells] using h1
    refine ⟨[], by simp, by simp, ?_⟩
    simp only [Rp, RpD, List.map_nil, List.length_nil]
    exact ⟨none, 0, rfl, Nat.le_refl _, Nat.zero_le _, by simp⟩
  · obtain ⟨rfl, rfl, rfl⟩ : A = some a ∧ l0 = len ∧ c0 = cap := by simpa [Value.cells] using h1
    have hlm : l0 ≤ m := by rw [hm]; split <;> omega
    have hex : ∀ i, ∃ c' : List Value, i < l0 → (W.cells? base (a.add (i * P.cellsOf e)) (P.cellsOf e) = some c' ∧ okCells ks c') := by
      intro i
      by_cases hi : i < l0
      · obtain ⟨c', hc1, hc2⟩ := hel i (by omega)
        exact ⟨c', fun _ => ⟨hc1, shapeT_ok hs hk hc2⟩⟩
      · exact ⟨[], fun hh => absurd hh hi⟩
    refine ⟨(List.range l0).map fun i => (hex i).choose, ?_, by simpa using Nat.le_trans h3 h4, ?_⟩
    · intro x hx
      obtain ⟨i, hi, rfl⟩ := List.mem_map.1 hx
      exact ((hex i).choose_spec (List.mem_range.1 hi)).2
    · simp only [Rp, RpD, List.length_map, List.length_range]
      refine ⟨some a, c0, rfl, h3, h4, ?_⟩
      rcases Nat.eq_zero_or_pos l0 with h0 | h0
      · exact .inl (by subst h0; rfl)
      · refine .inr ?_
        have hsp : a.spot = none := by
          obtain ⟨c', c1, _⟩ := hel 0 (by omega)
          obtain ⟨_, e2, e3⟩ := World.cells?_some c1
          have e4 := e3 0 (by omega)
          rw [List.getElem?_eq_getElem (by rw [e2]; omega), Nat.zero_mul] at e4
          have : (a.add 0).add 0 = a := by simp [Addr.add]
          rw [this] at e4
          unfold World.cell? at e4
          split at e4
          · split at e4
            · simp at e4
            · rename_i hs; simpa using hs
          · simp at e4
        obtain ⟨b, o, sp⟩ := a
        simp only at hsp
        subst hsp
        refine ⟨b, o, rfl, RpDE.mk fun j e' hj => ?_⟩
        rw [List.getElem?_map, List.getElem?_map] at hj
        rcases Nat.lt_or_ge j l0 with hjl | hjl
        · rw [List.getElem?_range hjl] at hj
          simp only [Option.map_some, Option.some.injEq] at hj
          subst hj
          obtain ⟨c1, c2⟩ := (hex j).choose_spec hjl
          obtain ⟨_, e2, e3⟩ := World.cells?_some c1
          refine ⟨by rw [List.length_map, e2, hk], RpDC.mk fun i c hc => ?_⟩
          rw [List.getElem?_map] at hc
          cases hv : (hex j).choose[i]? with
          | none => rw [hv] at hc; simp at hc
          | some u =>
            rw [hv] at hc
            simp only [Option.map_some, Option.some.injEq] at hc
            subst hc
            obtain ⟨k, hk'⟩ := okCells_get c2 hv
            have hi : i < P.cellsOf e := by
              rw [← e2]
              rcases Nat.lt_or_ge i (hex j).choose.length with hh | hh
              · exact hh
              · rw [List.getElem?_eq_none hh] at hv; simp at hv
            have e4 := e3 i hi
            rw [hv] at e4
            refine ⟨u, leaf_closed hk', ?_, by simp [RpD]⟩
            have : ((Addr.mk b o none).add (j * P.cellsOf e)).add i = ⟨b, o + j * ks.length + i, none⟩ := by
              rw [hk]
              by_cases h1 : j * P.cellsOf e = 0 <;> by_cases h2 : i = 0 <;> simp [Addr.add, h1, h2, Nat.add_assoc]
            rw [this] at e4
            exact allG_cell e4
        · rw [List.getElem?_eq_none (by simpa using hjl)] at hj; simp at hj
/-- An aggregate that came in. -/
theorem agg_in {t : TypeId} {ks : List LK} {n : Nat} (hs : shapeT P n t = some ks) (hk : ks.length = P.cellsOf t) {us : Array Value} {d : DataW H} {ps : List MemPlace} (hd : DataW.Trod enc P W base spare held t (.agg us) d ps) :
    okCells ks us.toList ∧ Rp h φ 0 (.ag (us.toList.map .v)) (.agg us) := by
  obtain ⟨fuel, hd⟩ := hd
  refine ⟨shapeT_ok hs hk hd, ?_⟩
  simp only [Rp]
  refine ⟨us, rfl, ?_⟩
  have : ∀ l : List Value, RpL h φ 0 (l.map .v) l := by
    intro l
    induction l with
    | nil => simp [RpL]
    | cons c l ih => simp only [List.map_cons, RpL]; exact ⟨c, l, rfl, by simp [Rp], ih⟩
  exact this _
theorem wf_i64 {n : Int} (hw : (Lit.int .i64 n).wf = true) : -9223372036854775808 ≤ n ∧ n ≤ 9223372036854775807 := by
  simp only [Lit.wf, Bool.and_eq_true, decide_eq_true_eq] at hw
  exact hw
theorem wf_u64 {n : Int} (hw : (Lit.int .u64 n).wf = true) : 0 ≤ n ∧ n ≤ 18446744073709551615 := by
  simp only [Lit.wf, Bool.and_eq_true, decide_eq_true_eq] at hw
  exact hw
/-- Whole numbers, out of cells. -/
theorem ints_of : ∀ {es : List (List Value)}, (∀ x ∈ es, okCells [.int .i64] x) → ∃ l : List Int, es.map (fun x => x.map AV.v) = l.map (fun n => [AV.v (.int .i64 n)]) ∧ ∀ n ∈ l, -9223372036854775808 ≤ n ∧ n ≤ 9223372036854775807
  | [], _ => ⟨[], rfl, by simp⟩
  | e :: es, he => by
    obtain ⟨l, h1, h2⟩ := ints_of (es := es) fun x hx => he x (by simp [hx])
    have := he e (by simp)
    simp only [okCells, okLeaf] at this
    obtain ⟨v, r, rfl, ⟨n, rfl, hw⟩, rfl⟩ := this
    refine ⟨n :: l, by simp [h1], ?_⟩
    intro m hm
    rcases List.mem_cons.1 hm with rfl | hm
    · exact wf_i64 hw
    · exact h2 m hm

theorem all_stays {W' : World} (hl : laidOutB P = true) (hb : Below W.heap.size W W') {sp : Nat → Bool} : ∀ {ts : List TypeId} {vs : List Value} {ds : List (DataW H)} {ps : List MemPlace}, (∀ t ∈ ts, P.readableRec t = true ∧ t < P.types.size) →
    DataW.TrodAll enc P W 0 (fun _ => true) true ts vs ds ps → (∀ x ∈ ps, x.block < W.heap.size) → (∀ x ∈ ps, sp x.block = true) → DataW.TrodAll enc P W' 0 sp true ts vs ds ps
  | [], [], [], ps, _, h, _, _ => by simpa [DataW.TrodAll] using h
  | t :: ts, v :: vs, d :: ds, ps, ht, h, hlt, hs => by
    simp only [DataW.TrodAll] at h ⊢
    obtain ⟨p, q, h1, h2, rfl⟩ := h
    obtain ⟨r1, r2⟩ := ht t (by simp)
    exact ⟨p, q, WideElems.Trod_stays hl r1 r2 h1 (fun x hx => hb.same (hlt x (by simp [hx]))) (fun x hx => hs x (by simp [hx])),
      all_stays hl hb (fun t ht' => ht t (by simp [ht'])) h2 (fun x hx => hlt x (by simp [hx])) (fun x hx => hs x (by simp [hx])), rfl⟩
  | [], _ :: _, _, _, _, h, _, _ => by simp [DataW.TrodAll] at h
  | [], [], _ :: _, _, _, h, _, _ => by simp [DataW.TrodAll] at h
  | _ :: _, [], _, _, _, h, _, _ => by simp [DataW.TrodAll] at h
  | _ :: _, _ :: _, [], _, _, h, _, _ => by simp [DataW.TrodAll] at h
theorem evo_below {h' : GH} {φ' : Nat → Value} {T' : Tab} {W' : World} (hE : Evo h φ [] W h' φ' T' W') : Go.RowKit.Below W.heap.size W W' :=
  ⟨hE.os, hE.tape, hE.output, hE.size, fun k hk => hE.frame k hk fun i o e => by simp at e⟩
/-- A LAW THAT IS TRUE: by its contract. -/
theorem law_post {f : FuncId} {fn : Func} {s : ChangeSpec} {apart fresh handsOn : Bool} {args : Array Value} {avs : List AV} {ds gs : List (DataW H)} {before : List MemPlace} {tb : TypeId}
    (hl : laidOutB P = true) (hW : DataW.Whole enc P fn.params.toList s.vars apart W args.toList ds gs before) (hv : s.vars = []) (hsp : s.fn H ds = { results := [.lit (.bool true)], args := ds })
    (hread : ∀ t ∈ fn.params.toList, P.readableRec t = true ∧ t < P.types.size) (hr : fn.resultTypes = #[tb]) (hb : P.underlying tb = some .bool)
    (ent : (callFunc f args).run P W = .ok (.enter f args) W) (hc : CallOk P (fun _ => none) f avs [] fun r T => r = .v (.bool true) ∧ T = []) (ha : RpL (allG W) φ 0 avs args.toList) :
    Calls P f args W fun e W' => ∃ v, e = .returned v ∧ s.post enc P fn apart fresh handsOn false W args v W' := by
  rcases hc (allG W) φ W args (fun g cs e => by simp at e) (allG_inv W φ) ha with ⟨_, hc⟩ | ⟨v, w', hc, _⟩
  · refine hc.mono ?_
    rintro e W' ⟨v, rfl, r, T', h', φ', ⟨rfl, rfl⟩, hE, _, hrv⟩
    simp only [Rp] at hrv
    subst hrv
    refine ⟨_, rfl, ?_⟩
    have hbe := evo_below hE
    have hW0 := hW
    obtain ⟨p, q, hA, hV, rfl, hz, hn⟩ := hW
    rw [hv] at hV
    obtain ⟨rfl, rfl⟩ := trodVars_none hV
    rw [List.append_nil] at hz hn
    have hlt : ∀ x ∈ p, x.block < W.heap.size := fun x hx => hW0.lt x (by simp [hx])
    have hres : ∀ (b : Nat) (sp : Nat → Bool) (hd : Bool), DataW.TrodAll enc P W' b sp hd fn.resultTypes.toList ((Value.bool true).resultList fn.resultTypes.size) [.lit (.bool true)] [] := by
      intro b sp hd
      rw [hr]
      exact trodAll_mk1 (shut_bool hb true)
    have hfn : s.fn H (ds ++ []) = { results := [.lit (.bool true)], args := ds } := by rw [List.append_nil]; exact hsp
    refine ⟨ds, [], p ++ [], [], p, [], hW0, ?_, ?_, ?_, ?_, fun _ => ?_⟩
    · rw [hfn]; exact hres _ _ _
    · rw [hfn]; exact all_stays hl hbe hread hA hlt fun x hx => by simpa using hlt x hx
    · rw [hfn]; simpa [hv, DataW.TrodVars] using hV
    · exact World.keptBut_mono (fun x hx => hx.elim) (hbe.frame fun _ => False)
    · rename_i hh; simp at hh
  · rw [ent] at hc; simp at hc
end
end Hud
