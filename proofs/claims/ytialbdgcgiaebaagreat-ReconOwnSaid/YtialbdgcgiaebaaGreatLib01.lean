import Derived.Test.YtialbdgcgiaebaaGreatLib00
set_option linter.all false
section
namespace Hud
open Go
def sizeT (P : Program) (t : TypeId) : Option Nat := (P.info? t).map (·.size)
def aggT (P : Program) (t : TypeId) : Option (Option Nat) :=
  match P.underlying t, P.info? t with
  | some (.struct _), some i => some (some i.size)
  | some (.array _ _), some i => some (some i.size)
  | some _, some _ => some none
  | _, _ => none
def aggOf (ag : Bool) (n : Nat) : Option Nat := if ag then some n else none
def kindsF (P : Program) (g : TypeId → Option (Bool × List LK)) : List Field → Nat → Option (List LK)
  | [], _ => some []
  | f :: fs, off => match g f.type with
    | some (ag, ks) => if f.name ≠ "_" ∧ f.offset = off ∧ aggT P f.type = some (aggOf ag ks.length) then
        match kindsF P g fs (off + ks.length) with
        | some l => some (ks ++ l)
        | none => none
      else none
    | none => none
def kindsT (P : Program) : Nat → TypeId → Option (Bool × List LK)
  | 0, _ => none
  | n + 1, t => match P.underlying t with
    | some (.int k) => some (false, [.int k])
    | some .bool => some (false, [.bool])
    | some .string => some (false, [.str])
    | some (.struct fs) => if P.stoodInHeld t then none else match kindsF P (kindsT P n) fs.toList 0 with
      | some ks => some (true, ks)
      | none => none
    | _ => none
def partsB (P : Program) (fs : List Field) : List (Nat × Operand) → Option (List (Nat × Nat × Operand))
  | [] => some []
  | (i, x) :: r => match fs[i]? with
    | none => none
    | some f => match sizeT P f.type, partsB P fs r with
      | some n, some l => some ((f.offset, n, x) :: l)
      | _, _ => none
def partsA (n : Nat) : List (Nat × Operand) → List (Nat × Nat × Operand)
  | [] => []
  | (i, x) :: r => (i * n, n, x) :: partsA n r
def repZ (z : List Value) : Nat → List Value
  | 0 => []
  | n + 1 => z ++ repZ z n
def compOp1 (P : Program) (o : Oper) : Option HOp :=
  match o.op with
  | .move x => some (.mov x)
  | .assign x => some (.mov x)
  | .pick c a b => some (.pick c a b)
  | .binOp op t x y _ =>
    if op = .eql ∨ op = .neq then
      match P.underlying t with
      | some (.int _) => some (.bin op x y)
      | some .bool => some (.eqb (op == .neq) x y)
      | some .string => some (.bin op x y)
      | some (.struct _) => match kindsT P 20 t with
        | some (_, ks) => if P.eqGuardType P.depth t then none else some (.eqa (op == .neq) ks x y)
        | none => none
      | _ => none
    else some (.bin op x y)
  | .unOp op _ x => some (.un op x)
  | .convert src dst x => match P.underlying src, P.underlying dst with
    | some _, some (.int k) => some (.conv k x)
    | _, _ => none
  | .box _ x => some (.box x)
  | .alloc e => match P.info? e with
    | some i => match i.zero with
      | some z => if z.cells.toList.all (fun x => oneC (.v x)) then some (.alloc z.cells.toList) else none
      | none => none
    | none => none
  | .build t parts => match P.underlying t, P.info? t with
    | some (.struct fs), some i => match i.zero, partsB P fs.toList parts.toList with
      | some z, some l => if fs.toList.all (fun f => (sizeT P f.type).isSome) then some (.bld z.cells.toList l) else none
      | _, _ => none
    | _, _ => none
  | .buildSlice t len parts => match P.underlying t with
    | some (.slice e) => match P.info? e with
      | some i => match i.zero with
        | some z => if z.cells.size = i.size ∧ 0 < i.size ∧ len * i.size ≤ 2 ^ 20 ∧ 0 < len then some (.bsl i.size (repZ z.cells.toList len) (partsA i.size parts.toList) len) else none
        | none => none
      | none => none
    | _ => none
  | .load t a => match aggT P t with
    | some n => some (.ld n a)
    | none => none
  | .store t a x => match sizeT P t with
    | some n => some (.st n a x)
    | none => none
  | .fieldAddr t x f => match P.underlying t with
    | some (.struct fs) => match fs[f]? with
      | some fd => match sizeT P fd.type with
        | some n => if n = 0 then none else some (.fad x fd.offset)
        | none => none
      | none => none
    | _ => none
  | .field t x f => match P.underlying t with
    | some (.struct fs) => match fs[f]? with
      | some fd => match aggT P fd.type with
        | some n => some (.fld x fd.offset n)
        | none => none
      | none => none
    | _ => none
  | .indexAddr t x ix => match P.underlying t with
    | some (.slice e) => match sizeT P e with
      | some k => if k = 0 then none else some (.iad x ix k)
      | none => none
    | some (.array len e) => match sizeT P e with
      | some k => some (.iadA x ix len k)
      | none => none
    | _ => none
  | .index t x ix => match P.underlying t with
    | some .string => some (.ixS x ix)
    | _ => none
  | .extract x i => some (.ext x i)
  | .nilCheck x => some (.nilc x)
  | .makeFunc (.func f) first caps => if first.size = 0 then some (.clo f caps.toList) else none
  | .call c => match c.callee with
    | .value f => some (.call f c.args.toList)
    | .builtin .len => match c.argTypes[0]?, c.args.toList with
      | some t, [x] => match P.underlying t with
        | some .string => some (.lenS x)
        | some (.slice _) => some (.lenL x)
        | _ => none
      | _, _ => none
    | .builtin .append => match c.argTypes.toList, c.args.toList with
      | [t, t'], [x, y] => if t' ≠ t then none else match P.underlying t with
        | some (.slice e) => match P.info? e with
          | some i => match i.zero with
            | some z => if z.cells.size = i.size ∧ 0 < i.size then some (.app x y i.size i.bytes) else none
            | none => none
          | none => none
        | _ => none
      | _, _ => none
    | _ => none
  | _ => none
end Hud
end
section
namespace Hud
open Go
theorem getT_some {T : Tab} {i : Nat} {o : AObj} (e : getT T i = some o) : T[i]? = some (some o) := by
  unfold getT at e
  split at e
  · rename_i o' h; injection e with e; subst e; exact h
  · simp at e
theorem getT_lt {T : Tab} {i : Nat} {o : AObj} (e : getT T i = some o) : i < T.length := by
  have := getT_some e
  rcases Nat.lt_or_ge i T.length with h | h
  · exact h
  · simp [List.getElem?_eq_none h] at this
section
variable {P : Program} {G : Nat → Option (List AV)} {h : GH} {φ : Nat → Value} {n : Nat} {T : Tab} {w : World} {s : List (Nat × AV)} {a : Act}
def SOk (h : GH) (φ : Nat → Value) (n : Nat) (s : List (Nat × AV)) (a : Act) : Prop := ∀ i, Rp h φ n (getS s i) (a.tmps.getD i undef)
theorem ev_ok (hG : GOk G h) (hS : SOk h φ n s a) (x : Operand) : Rp h φ n (evO G s x) (a.eval x) := by
  cases x with
  | tmp t => exact hS t
  | const v => simp [evO, Act.eval, Rp]
  | global g =>
    simp only [evO, Act.eval]
    split
    · rename_i cs hg; simp only [Rp]; exact ⟨g, 0, rfl, hG g cs hg⟩
    · simp [Rp]
  | func f => simp only [evO, Act.eval, Rp]; exact ⟨#[], rfl, by simp [RpL]⟩
theorem ev_v (hG : GOk G h) (hS : SOk h φ n s a) {x : Operand} {v : Value} (e : evO G s x = .v v) : a.eval x = v := by
  have := ev_ok hG hS x
  rw [e] at this
  simpa [Rp] using this
theorem evL_ok (hG : GOk G h) (hS : SOk h φ n s a) (l : List Operand) : RpL h φ n (l.map (evO G s)) (l.map a.eval) := by
  induction l with
  | nil => simp [RpL]
  | cons x l ih => simp only [List.map_cons, RpL]; exact ⟨_, _, rfl, ev_ok hG hS x, ih⟩
theorem cellsA_ok : ∀ {x : AV} {u : Value}, Rp h φ n x u → (∀ c ∈ cellsA x, oneC c = true) → RpL h φ n (cellsA x) u.cells.toList
  | .ag cs, u, e, _ => by
    simp only [Rp] at e
    obtain ⟨us, rfl, h2⟩ := e
    exact h2
  | .v x, u, e, ho => by
    simp only [Rp] at e
    subst e
    cases u with
    | agg us =>
      simp only [cellsA, Value.cells]
      exact RpL.mk (by simp) fun i c u hc hu => by
        simp only [List.getElem?_map] at hc
        rw [hu] at hc
        simp at hc
        subst hc
        simp [Rp]
    | _ => simp [cellsA, Value.cells, RpL, Rp]
  | .ls k es, u, e, _ => by
    have e' := e
    simp only [Rp, RpD] at e'
    obtain ⟨A, c, rfl, _⟩ := e'
    simp only [cellsA, Value.cells, RpL]
    exact ⟨_, [], rfl, e, rfl⟩
  | .own i, u, e, _ => by
    have e' := e
    simp only [Rp] at e'
    obtain ⟨_, _, A, l, c, rfl⟩ := e'
    simp only [cellsA, Value.cells, RpL]
    exact ⟨_, [], rfl, e, rfl⟩
  | .ptr i o, u, e, _ => by
    have e' := e
    simp only [Rp] at e'
    obtain ⟨_, g, _, rfl⟩ := e'
    simp only [cellsA, Value.cells, RpL]
    exact ⟨_, [], rfl, e, rfl⟩
  | .elt i k j o, u, e, _ => by
    have e' := e
    simp only [Rp] at e'
    obtain ⟨_, g, _, _, _, rfl⟩ := e'
    simp only [cellsA, Value.cells, RpL]
    exact ⟨_, [], rfl, e, rfl⟩
  | .mp i, u, e, _ => by
    have e' := e
    simp only [Rp] at e'
    obtain ⟨_, _, g, rfl⟩ := e'
    simp only [cellsA, Value.cells, RpL]
    exact ⟨_, [], rfl, e, rfl⟩
  | .yl i, u, e, _ => by
    have e' := e
    simp only [Rp] at e'
    obtain ⟨_, _, g, rfl⟩ := e'
    simp only [cellsA, Value.cells, RpL]
    exact ⟨_, [], rfl, e, rfl⟩
  | .vw i k j o, u, e, _ => by
    have e' := e
    simp only [Rp] at e'
    obtain ⟨_, A, c, rfl, _⟩ := e'
    simp only [cellsA, Value.cells, RpL]
    exact ⟨_, [], rfl, e, rfl⟩
  | .rp cs, u, e, _ => by
    have e' := e
    simp only [Rp] at e'
    obtain ⟨_, _, rfl, _⟩ := e'
    simp only [cellsA, Value.cells, RpL]
    exact ⟨_, [], rfl, e, rfl⟩
  | .cl f cs, u, e, _ => by
    have e' := e
    simp only [Rp] at e'
    obtain ⟨us, rfl, _⟩ := e'
    simp only [cellsA, Value.cells, RpL]
    exact ⟨_, [], rfl, e, rfl⟩
  | .bm f kk cs, u, e, _ => by
    have e' := e
    simp only [Rp] at e'
    obtain ⟨us, rfl, _⟩ := e'
    simp only [cellsA, Value.cells, RpL]
    exact ⟨_, [], rfl, e, rfl⟩
  | .tup cs, u, e, ho => by simp [cellsA, oneC] at ho
  | .any, u, e, ho => by simp [cellsA, oneC] at ho
theorem oneC_ok : ∀ {x : AV} {u : Value}, Rp h φ n x u → oneC x = true → u.oneCell' = true
  | .v x, u, e, ho => by
    simp only [Rp] at e
    subst e
    cases u <;> simp_all [oneC, Value.oneCell']
  | .ls k es, u, e, _ => by simp only [Rp, RpD] at e; obtain ⟨A, c, rfl, _⟩ := e; rfl
  | .own i, u, e, _ => by simp only [Rp] at e; obtain ⟨_, _, A, l, c, rfl⟩ := e; rfl
  | .ptr i o, u, e, _ => by simp only [Rp] at e; obtain ⟨_, g, _, rfl⟩ := e; rfl
  | .elt i k j o, u, e, _ => by simp only [Rp] at e; obtain ⟨_, g, _, _, _, rfl⟩ := e; rfl
  | .vw i k j o, u, e, _ => by simp only [Rp] at e; obtain ⟨_, A, c, rfl, _⟩ := e; rfl
  | .mp i, u, e, _ => by simp only [Rp] at e; obtain ⟨_, _, g, rfl⟩ := e; rfl
  | .yl i, u, e, _ => by simp only [Rp] at e; obtain ⟨_, _, g, rfl⟩ := e; rfl
  | .rp cs, u, e, _ => by simp only [Rp] at e; obtain ⟨_, _, rfl, _⟩ := e; rfl
  | .cl f cs, u, e, _ => by simp only [Rp] at e; obtain ⟨us, rfl, _⟩ := e; rfl
  | .bm f kk cs, u, e, _ => by simp only [Rp] at e; obtain ⟨us, rfl, _⟩ := e; rfl
  | .ag cs, u, e, ho => by simp [oneC] at ho
  | .tup cs, u, e, ho => by simp [oneC] at ho
  | .any, u, e, ho => by simp [oneC] at ho
theorem cutA_ok {cs : List AV} {us : List Value} (hr : RpL h φ n cs us) {off : Nat} {x : AV} : ∀ {m : Option Nat}, cutA cs off m = some x →
    match m with
    | none => ∃ u, us[off]? = some u ∧ Rp h φ n x u
    | some k => off + k ≤ us.length ∧ Rp h φ n x (.agg ((us.drop off).take k).toArray)
  | none, e => by
    simp only [cutA] at e
    exact hr.get e
  | some k, e => by
    simp only [cutA] at e
    split at e
    · rename_i hle
      injection e with e
      subst e
      have hl := hr.length
      exact ⟨by omega, by simp only [Rp]; exact ⟨_, rfl, by simpa using (hr.drop off).take k⟩⟩
    · simp at e
theorem box_cells {i : Nat} {cs : List AV} (hI : Inv h φ w T) (hg : getT T i = some (.box cs)) :
    ∃ (g : Nat) (us : Array Value) (E : TypeId), φ i = .pointer (some ⟨g, 0, none⟩) ∧ w.heap[g]? = some (.cells us E (0, 0)) ∧ h g = none ∧ RpL h φ T.length cs us.toList :=
  hI.obj i _ (getT_some hg)
theorem cell_of {g : Nat} {us : Array Value} {E : TypeId} {fr : Nat × Nat} (hw : w.heap[g]? = some (.cells us E fr)) (o : Nat) : w.cell? ⟨g, o, none⟩ = us[o]? := by
  simp [World.cell?, hw]
theorem cellG_of {b o : Nat} {u : Value} (hI : Inv h φ w T) (e : cellG h b o = some u) : w.cell? ⟨b, o, none⟩ = some u := by
  unfold cellG at e
  cases hb : h b with
  | none => simp [hb] at e
  | some cs =>
    obtain ⟨E, fr, hw⟩ := hI.gh b cs hb
    rw [cell_of hw]
    simpa [hb] using e
theorem aggT_some {t : TypeId} {m : Option Nat} (e : aggT P t = some m) :
    match m with
    | none => (isAgg t).run P w = .ok false w ∧ True
    | some k => (isAgg t).run P w = .ok true w ∧ (Go.sizeOf t).run P w = .ok k w := by
  unfold aggT at e
  split at e
  · rename_i fs i hu hi
    injection e with e; subst e
    simp [isAgg, run_underlying hu, Go.sizeOf, typeInfo, hi]
  · rename_i l el i hu hi
    injection e with e; subst e
    simp [isAgg, run_underlying hu, Go.sizeOf, typeInfo, hi]
  · rename_i d i h1 h2 hu hi
    injection e with e; subst e
    refine ⟨?_, trivial⟩
    simp only [isAgg, Sem.run_bind, run_underlying hu, Result.andThen_ok]
    cases d <;> first | rfl | (exfalso; first | exact h1 _ rfl | exact h2 _ _ rfl)
  · simp at e
theorem loadVar_ok {t : TypeId} {m : Option Nat} (e : aggT P t = some m) {b o : Nat} {us : List Value} (hc : ∀ j u, us[j]? = some u → w.cell? ⟨b, o + j, none⟩ = some u) :
    match m with
    | none => ∀ u, us[0]? = some u → (loadVar t ⟨b, o, none⟩).run P w = .ok u w
    | some k => k ≤ us.length → (loadVar t ⟨b, o, none⟩).run P w = .ok (.agg (us.take k).toArray) w := by
  have ha := aggT_some (w := w) e
  cases m with
  | none =>
    intro u hu
    have := hc 0 u hu
    simp only [Nat.add_zero] at this
    simp [loadVar, ha.1, this]
  | some k =>
    intro hk
    have hl := run_loadCells_list (P := P) (w := w) ⟨b, o, none⟩ (us.take k) (fun j v hv => by
      have : (⟨b, o, none⟩ : Addr).add j = ⟨b, o + j, none⟩ := by unfold Addr.add; split <;> simp_all
      rw [this]
      refine hc j v ?_
      rw [List.getElem?_take] at hv
      split at hv
      · exact hv
      · simp at hv)
    have hlen : (us.take k).length = k := by simp; omega
    rw [hlen] at hl
    simp [loadVar, ha.1, ha.2, hl]
end
end Hud
end
section
namespace Hud
open Go
section
variable {P : Program} {G : Nat → Option (List AV)} {h : GH} {φ : Nat → Value} {T : Tab} {w : World} {s : List (Nat × AV)} {a : Act}
theorem bin_run {op : BinOp} {t : TypeId} {x y : Operand} {a b u : Value} (e : pbin op a b = some u) :
    (do eqGuard op t x y a b; binOp op t a b : Sem Value).run P w = .ok u w := by
  unfold pbin at e
  split at e
  · rename_i k p k' q
    cases op
    case shl =>
      simp only at e
      split at e
      · simp at e
      · rename_i hq
        injection e with e; subst e
        have : (binOp BinOp.shl t (Value.int k p) (Value.int k' q)) = Op.shift BinOp.shl k p k' q := rfl
        simp [eqGuard, this, Op.shift, hq]
    case shr =>
      simp only at e
      split at e
      · simp at e
      · rename_i hq
        injection e with e; subst e
        have : (binOp BinOp.shr t (Value.int k p) (Value.int k' q)) = Op.shift BinOp.shr k p k' q := rfl
        simp [eqGuard, this, Op.shift, hq]
    all_goals
      simp only at e
      split at e
      · rename_i hk
        subst hk
        first
          | (injection e with e; subst e; simp [eqGuard, binOp, Op.intArith, Op.intDiv, Op.intBits, Op.intCmp]; done)
          | (split at e
             · simp at e
             · rename_i hq
               injection e with e; subst e; simp [eqGuard, binOp, Op.intDiv, hq])
          | (simp at e; done)
      · simp at e
  · rename_i p q
    cases op <;> simp only at e <;> (try split at e) <;> (try (simp at e; done)) <;> (injection e with e; subst e) <;> (try (simp [eqGuard, binOp, Op.stringOp]; done))
    rename_i hle
    unfold maxLen at hle
    simp [eqGuard, binOp, Op.stringOp]
    omega
  · simp at e
theorem equal_bool {t : TypeId} (ht : P.underlying t = some .bool) {a b : Bool} : (Op.equal t (.bool a) (.bool b)).run P w = .ok (a == b) w := by
  have key : ∀ d, (Op.equalIn (d + 1) t (.bool a) (.bool b)).run P w = .ok (a == b) w := fun d => by simp [Op.equalIn, run_underlying ht]
  exact key 9999
theorem eqb_run {op : BinOp} (hop : op = .eql ∨ op = .neq) {t : TypeId} (ht : P.underlying t = some .bool) {x y : Operand} {a b : Bool} :
    (do eqGuard op t x y (.bool a) (.bool b); binOp op t (.bool a) (.bool b) : Sem Value).run P w = .ok (.bool (if op == .neq then !(a == b) else a == b)) w := by
  rcases hop with rfl | rfl
  · have e : binOp .eql t (.bool a) (.bool b) = (do pure (.bool (← Op.equal t (.bool a) (.bool b)))) := rfl
    rw [e]
    simp [eqGuard, equal_bool ht]
  · have e : binOp .neq t (.bool a) (.bool b) = (do pure (.bool (!(← Op.equal t (.bool a) (.bool b))))) := rfl
    rw [e]
    simp [eqGuard, equal_bool ht]
theorem un_run {op : UnOp} {a u : Value} (e : pun op a = some u) : (Op.unary op a).run P w = .ok u w := by
  unfold pun at e
  split at e
  · cases op <;> simp only at e <;> (try (simp at e; done)) <;> (injection e with e; subst e; simp [Op.unary])
  · rename_i k p
    cases op <;> simp only at e <;> (try (simp at e; done)) <;> (injection e with e; subst e; simp [Op.unary, Op.intArith, Op.intBits])
  · simp at e
end
end Hud
end
section
namespace Hud
open Go
section
variable {P : Program} {w : World}
theorem eqV_len : ∀ {ks : List LK} {xs ys : List Value} {b : Bool}, eqV ks xs ys = some b → xs.length = ks.length ∧ ys.length = ks.length
  | [], xs, ys, b, e => by cases xs <;> cases ys <;> simp_all [eqV]
  | k :: ks, xs, ys, b, e => by
    cases xs with
    | nil => cases k <;> simp [eqV] at e
    | cons x xs =>
      cases ys with
      | nil => cases k <;> cases x <;> simp [eqV] at e
      | cons y ys =>
        cases k <;> cases x <;> cases y <;> simp only [eqV] at e <;> (try (simp at e; done))
        case int.int.int k k1 p k2 q =>
          split at e
          · split at e
            · rename_i r hr
              have := eqV_len hr
              simp [this.1, this.2]
            · simp at e
          · simp at e
        all_goals
          split at e
          · rename_i r hr
            have := eqV_len hr
            simp [this.1, this.2]
          · simp at e
theorem eqV_app : ∀ {ks ls : List LK} {xs ys : List Value} {b : Bool}, eqV (ks ++ ls) xs ys = some b →
    ∃ b1 b2, eqV ks (xs.take ks.length) (ys.take ks.length) = some b1 ∧ eqV ls (xs.drop ks.length) (ys.drop ks.length) = some b2 ∧ b = (b1 && b2)
  | [], ls, xs, ys, b, e => ⟨true, b, by simp [eqV], by simpa using e, by simp⟩
  | k :: ks, ls, xs, ys, b, e => by
    cases xs with
    | nil => cases k <;> simp [eqV] at e
    | cons x xs =>
      cases ys with
      | nil => cases k <;> cases x <;> simp [eqV] at e
      | cons y ys =>
        simp only [List.cons_append] at e
        cases k <;> cases x <;> cases y <;> simp only [eqV] at e <;> (try (simp at e; done))
        case int.int.int k k1 a k2 c =>
          split at e
          · rename_i hk
            split at e
            · rename_i r hr
              injection e with e
              obtain ⟨b1, b2, h1, h2, h3⟩ := eqV_app hr
              exact ⟨a == c && b1, b2, by simp [eqV, hk, h1], by simpa using h2, by rw [← e, h3]; simp [Bool.and_assoc]⟩
            · simp at e
          · simp at e
        case bool.bool.bool a c =>
          split at e
          · rename_i r hr
            injection e with e
            obtain ⟨b1, b2, h1, h2, h3⟩ := eqV_app hr
            exact ⟨a == c && b1, b2, by simp [eqV, h1], by simpa using h2, by rw [← e, h3]; simp [Bool.and_assoc]⟩
          · simp at e
        case str.string.string a c =>
          split at e
          · rename_i r hr
            injection e with e
            obtain ⟨b1, b2, h1, h2, h3⟩ := eqV_app hr
            exact ⟨a.toList == c.toList && b1, b2, by simp [eqV, h1], by simpa using h2, by rw [← e, h3]; simp [Bool.and_assoc]⟩
          · simp at e
abbrev packV (ag : Bool) (xs : List Value) : Value := keyV ag xs
theorem part_run {t : TypeId} {X : Array Value} {off : Nat} {ag : Bool} {n : Nat} (ha : aggT P t = some (aggOf ag n)) (hn : ag = false → n = 1) (hl : off + n ≤ X.size) :
    (part t X off).run P w = .ok (packV ag ((X.toList.drop off).take n)) w := by
  cases ag with
  | false =>
    have := hn rfl
    subst this
    have h0 : aggT P t = some none := ha
    have h := aggT_some (w := w) h0
    have hx : X[off]? = some X[off] := Array.getElem?_eq_getElem (by omega)
    simp only [part, Sem.run_bind, h.1, Result.andThen_ok, Bool.false_eq_true, if_false, hx, keyV]
    simp [List.getElem?_drop, hx]
  | true =>
    have h0 : aggT P t = some (some n) := ha
    have h := aggT_some (w := w) h0
    simp only [part, Sem.run_bind, h.1, h.2, Result.andThen_ok, if_true, keyV, Sem.run_pure]
    congr 2
    apply Array.toList_inj.1
    simp [Array.toList_extract, List.extract]
theorem eq_fields {n : Nat} (ih : ∀ t ag ks, kindsT P n t = some (ag, ks) → (ag = false → ks.length = 1) ∧ ∀ d, n ≤ d → ∀ xs ys b, eqV ks xs ys = some b → (Op.equalIn d t (packV ag xs) (packV ag ys)).run P w = .ok b w)
    {d : Nat} (hd : n ≤ d) (X Y : Array Value) : ∀ (fs : List Field) (off : Nat) (ks : List LK) (b : Bool), kindsF P (kindsT P n) fs off = some ks →
      eqV ks (X.toList.drop off) (Y.toList.drop off) = some b → off ≤ X.size → off ≤ Y.size → (Op.eqFields d X Y fs).run P w = .ok b w
  | [], off, ks, b, hk, he, _, _ => by
    simp only [kindsF] at hk
    injection hk with hk
    subst hk
    cases hx : X.toList.drop off <;> cases hy : Y.toList.drop off <;> rw [hx, hy] at he <;> simp [eqV] at he
    subst he
    simp [Op.eqFields]
  | f :: fs, off, ks, b, hk, he, hX, hY => by
    simp only [kindsF] at hk
    split at hk
    · rename_i ag ks1 hg
      split at hk
      · rename_i hc
        obtain ⟨hname, hoff, hag⟩ := hc
        split at hk
        · rename_i l hl
          injection hk with hk
          subst hk
          obtain ⟨b1, b2, h1, h2, h3⟩ := eqV_app he
          have hlen := eqV_len he
          simp only [List.length_drop, List.length_append, Array.length_toList] at hlen
          obtain ⟨hone, hi⟩ := ih _ _ _ hg
          have hpx : (part f.type X f.offset).run P w = .ok (packV ag ((X.toList.drop off).take ks1.length)) w := by
            rw [hoff]; exact part_run hag hone (by omega)
          have hpy : (part f.type Y f.offset).run P w = .ok (packV ag ((Y.toList.drop off).take ks1.length)) w := by
            rw [hoff]; exact part_run hag hone (by omega)
          have hr := hi d hd _ _ _ h1
          simp only [Op.eqFields, hname, ne_eq, not_false_eq_true, if_true, Sem.run_bind, hpx, hpy, Result.andThen_ok, hr]
          rw [List.drop_drop, List.drop_drop] at h2
          have hrec := eq_fields ih hd X Y fs (off + ks1.length) l b2 hl h2 (by omega) (by omega)
          cases b1
          · simp [h3]
          · simp [hrec, h3]
        · simp at hk
      · simp at hk
    · simp at hk
theorem eq_type : ∀ (n : Nat) (t : TypeId) (ag : Bool) (ks : List LK), kindsT P n t = some (ag, ks) →
    (ag = false → ks.length = 1) ∧ ∀ d, n ≤ d → ∀ xs ys b, eqV ks xs ys = some b → (Op.equalIn d t (packV ag xs) (packV ag ys)).run P w = .ok b w
  | 0, _, _, _, e => by simp [kindsT] at e
  | n + 1, t, ag, ks, e => by
    have leaf : ∀ (k : LK) (xs ys : List Value) (b : Bool), eqV [k] xs ys = some b → ∃ x y, xs = [x] ∧ ys = [y] := by
      intro k xs ys b hb
      have := eqV_len hb
      match xs, ys, this with
      | [x], [y], _ => exact ⟨x, y, rfl, rfl⟩
    simp only [kindsT] at e
    split at e
    · rename_i k hu
      injection e with e; injection e with e1 e2; subst e1; subst e2
      refine ⟨fun _ => rfl, fun d hd xs ys b hb => ?_⟩
      obtain ⟨d, rfl⟩ : ∃ d', d = d' + 1 := ⟨d - 1, by omega⟩
      obtain ⟨x, y, rfl, rfl⟩ := leaf _ _ _ _ hb
      cases x <;> cases y <;> simp only [eqV] at hb <;> (try (simp at hb; done))
      split at hb
      · rename_i hk
        obtain ⟨rfl, rfl⟩ := hk
        injection hb with hb
        subst hb
        simp only [keyV, eqV, Bool.and_true, Bool.false_eq_true, if_false, List.getD_cons_zero]
        exact run_equalIn_int w d t _ _ _ _ hu
      · simp at hb
    · rename_i hu
      injection e with e; injection e with e1 e2; subst e1; subst e2
      refine ⟨fun _ => rfl, fun d hd xs ys b hb => ?_⟩
      obtain ⟨d, rfl⟩ : ∃ d', d = d' + 1 := ⟨d - 1, by omega⟩
      obtain ⟨x, y, rfl, rfl⟩ := leaf _ _ _ _ hb
      cases x <;> cases y <;> simp only [eqV] at hb <;> (try (simp at hb; done))
      injection hb with hb
      subst hb
      simp [keyV, run_equalIn_bool' w d t _ _ hu]
    · rename_i hu
      injection e with e; injection e with e1 e2; subst e1; subst e2
      refine ⟨fun _ => rfl, fun d hd xs ys b hb => ?_⟩
      obtain ⟨d, rfl⟩ : ∃ d', d = d' + 1 := ⟨d - 1, by omega⟩
      obtain ⟨x, y, rfl, rfl⟩ := leaf _ _ _ _ hb
      cases x <;> cases y <;> simp only [eqV] at hb <;> (try (simp at hb; done))
      injection hb with hb
      subst hb
      simp [keyV, run_equalIn_string w d t _ _ hu]
    · rename_i fs hu
      split at e
      · simp at e
      · rename_i hs
        split at e
        · rename_i l hl
          injection e with e; injection e with e1 e2; subst e1; subst e2
          refine ⟨fun h => by simp at h, fun d hd xs ys b hb => ?_⟩
          obtain ⟨d, rfl⟩ : ∃ d', d = d' + 1 := ⟨d - 1, by omega⟩
          have hf : P.fieldsOf t = fs := by simp [Program.fieldsOf, hu]
          have := run_equalIn_struct (P := P) w d t xs.toArray ys.toArray (by rw [hf]; exact hu) (by simpa using hs)
          simp only [keyV, if_true]
          rw [this, hf]
          exact eq_fields (eq_type n) (by omega) xs.toArray ys.toArray fs.toList 0 l b hl (by simpa using hb) (by simp) (by simp)
        · simp at e
    · simp at e
end
end Hud
end
