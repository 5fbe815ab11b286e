/- More operations: parts of slices and strings, tests against nil, the greater and the lesser. -/
import Derived.Test.YthmdkjeflllfpaaHudQ
set_option linter.all false
namespace Hud
open Go

section
variable {P : Program} {G : Nat → Option (List AV)} {h : GH} {φ : Nat → Value} {T : Tab} {w : World} {s : List (Nat × AV)} {a : Act}

/-- A bound that is such a number. -/
def Bnd (o : Option Value) (d n : Nat) : Prop := (o = none ∧ n = d) ∨ ∃ k i, o = some (.int k i) ∧ 0 ≤ i ∧ n = i.toNat

theorem run_sliceBound {k : IntKind} {i : Int} {y : Nat} {c : BoundsCode} (h0 : 0 ≤ i) (h1 : i.toNat ≤ y) : (Instr.sliceBound (.int k i) y c).run P w = .ok i.toNat w := by
  have : 0 ≤ i ∧ i ≤ y := ⟨h0, by omega⟩
  simp [Instr.sliceBound, asIntOf, this]

theorem run_sliceBounds {b : Bool} {len cap l m : Nat} {lo hi : Option Value} (hl : Bnd lo 0 l) (hh : Bnd hi len m) (h1 : l ≤ m) (h2 : m ≤ cap) : (Instr.sliceBounds b len cap lo hi none).run P w = .ok (l, m, cap) w := by
  rcases hl with ⟨rfl, rfl⟩ | ⟨k, i, rfl, h0, rfl⟩ <;> rcases hh with ⟨rfl, rfl⟩ | ⟨k', i', rfl, h0', rfl⟩
  · simp [Instr.sliceBounds]
  · simp [Instr.sliceBounds, run_sliceBound h0' h2]
  · simp [Instr.sliceBounds, run_sliceBound h0 h1]
  · simp [Instr.sliceBounds, run_sliceBound h0 h1, run_sliceBound h0' h2]

theorem run_slice {t e : TypeId} (ht : P.underlying t = some (.slice e)) {k : Nat} (hk : sizeT P e = some k) {A : Option Addr} {len cap l m : Nat} {lo hi : Option Value} (hl : Bnd lo 0 l) (hh : Bnd hi len m) (h1 : l ≤ m) (h2 : m ≤ cap) :
    (Instr.sliceAt t (.slice A len cap) lo hi none).run P w = .ok (.slice (if cap = l then A else A.map (·.add (l * k))) (m - l) (cap - l)) w := by
  simp [Instr.sliceAt, Instr.slice, run_underlying ht, run_sliceBounds hl hh h1 h2, sizeT_some hk]

theorem run_sliceS {t : TypeId} (ht : P.underlying t = some .string) {sb : ByteArray} {l m : Nat} {lo hi : Option Value} (hl : Bnd lo 0 l) (hh : Bnd hi sb.size m) (h1 : l ≤ m) (h2 : m ≤ sb.size) :
    (Instr.sliceAt t (.string sb) lo hi none).run P w = .ok (.string (sb.extract l m)) w := by
  simp [Instr.sliceAt, Instr.slice, run_underlying ht, run_sliceBounds hl hh h1 h2]

def bound (ev : Operand → AV) (o : Option Operand) (d : Nat) : Option Nat := match o with
  | none => some d
  | some o => match ev o with
    | .v (.int _ n) => if 0 ≤ n then some n.toNat else none
    | _ => none
theorem bound_ok (hG : GOk G h) (hS : SOk h φ T.length s a) {o : Option Operand} {d n : Nat} (e : bound (evO G s) o d = some n) : Bnd (o.map a.eval) d n := by
  unfold bound at e
  split at e
  · injection e with e; exact .inl ⟨rfl, e.symm⟩
  · rename_i x
    split at e
    · rename_i k i hx
      split at e
      · rename_i h0
        injection e with e
        exact .inr ⟨k, i, by simp [ev_v hG hS hx], h0, e.symm⟩
      · simp at e
    · simp at e

theorem slc_gives {t e : TypeId} (ht : P.underlying t = some (.slice e)) {k : Nat} (hk : sizeT P e = some k)
    (hG : GOk G h) (hI : Inv h φ w T) (hS : SOk h φ T.length s a) {p : Operand} {lo hi : Option Operand} {x : AV} {T' : Tab} (he : hop T (evO G s) (.slc p lo hi k) = some (x, T')) :
    T' = T ∧ ∃ v, (Instr.sliceAt t (a.eval p) (lo.map a.eval) (hi.map a.eval) none).run P w = .ok v w ∧ Rp h φ T.length x v := by
  have hp := ev_ok hG hS p
  change (match evO G s p with
    | .ls k' es => match bound (evO G s) lo 0, bound (evO G s) hi es.length with
      | some l, some h => if k = k' ∧ l ≤ h ∧ h ≤ es.length then some (.ls k ((es.drop l).take (h - l)), T) else none
      | _, _ => none
    | .own a => match getT T a with
      | some (.arr k' es) => match bound (evO G s) lo 0, bound (evO G s) hi es.length with
        | some l, some h => if k = k' ∧ l ≤ h ∧ h ≤ es.length then some (.vw a k l (h - l), T) else none
        | _, _ => none
      | _ => none
    | .vw a k' lo' m => match bound (evO G s) lo 0, bound (evO G s) hi m with
      | some l, some h => if k = k' ∧ l ≤ h ∧ h ≤ m then some (.vw a k (lo' + l) (h - l), T) else none
      | _, _ => none
    | .v (.slice none 0 0) => match bound (evO G s) lo 0, bound (evO G s) hi 0 with
      | some l, some h => if l = 0 ∧ h = 0 then some (.v (.slice none 0 0), T) else none
      | _, _ => none
    | _ => none) = some (x, T') at he
  split at he
  · rename_i k' es hev
    rw [hev] at hp; simp only [Rp, RpD] at hp
    obtain ⟨A, c, hu, h1, h2, h3⟩ := hp
    split at he
    · rename_i l m hl hm
      split at he
      · rename_i hc
        obtain ⟨rfl, hlm, hme⟩ := hc
        injection he with he; injection he with e1 e2; subst e1; subst e2
        rw [hu]
        refine ⟨rfl, _, run_slice ht hk (bound_ok hG hS hl) (bound_ok hG hS hm) hlm (by omega), ?_⟩
        have hlen : ((es.drop l).take (m - l)).length = m - l := by rw [List.length_take, List.length_drop]; omega
        simp only [Rp, RpD]
        refine ⟨_, c - l, by rw [hlen], by rw [hlen]; omega, by omega, ?_⟩
        by_cases h0 : m - l = 0
        · exact .inl (by rw [h0]; simp)
        · rcases h3 with rfl | ⟨b, o, rfl, hE⟩
          · simp at hme; omega
          · refine .inr ⟨b, o + l * k, by rw [if_neg (by omega)]; simp [add_none], ?_⟩
            exact (hE.drop l).take _
      · simp at he
    · simp at he
  · rename_i i hev
    rw [hev] at hp; simp only [Rp] at hp
    split at he
    · rename_i k' es hg
      split at he
      · rename_i l m hl hm
        split at he
        · rename_i hc
          obtain ⟨rfl, hlm, hme⟩ := hc
          injection he with he; injection he with e1 e2; subst e1; subst e2
          obtain ⟨_, h1 | ⟨g, c, cur, E, hφ, _, h2, h3, _⟩⟩ := arr_cells hI hg
          · obtain ⟨h1, rfl⟩ := h1
            rw [hp.2.1, h1]
            refine ⟨rfl, _, run_slice ht hk (bound_ok hG hS hl) (bound_ok hG hS hm) hlm (by simpa using hme), ?_⟩
            simp only [Rp]
            simp only [List.length_nil] at hme
            exact ⟨hp.1, _, _, rfl, by omega, by omega, .inl (by omega)⟩
          · rw [hp.2.1, hφ]
            refine ⟨rfl, _, run_slice ht hk (bound_ok hG hS hl) (bound_ok hG hS hm) hlm (by omega), ?_⟩
            simp only [Rp]
            refine ⟨hp.1, _, _, rfl, by omega, by omega, ?_⟩
            by_cases h0 : m - l = 0
            · exact .inl h0
            · exact .inr ⟨g, _, c, hφ, by rw [if_neg (by omega)]; simp [add_none], by omega⟩
        · simp at he
      · simp at he
    · simp at he
  · rename_i i k' lo' n hev
    rw [hev] at hp; simp only [Rp] at hp
    obtain ⟨hi0, A, c, hu, h1, h2, h3⟩ := hp
    split at he
    · rename_i l m hl hm
      split at he
      · rename_i hc
        obtain ⟨rfl, hlm, hme⟩ := hc
        injection he with he; injection he with e1 e2; subst e1; subst e2
        rw [hu]
        refine ⟨rfl, _, run_slice ht hk (bound_ok hG hS hl) (bound_ok hG hS hm) hlm (by omega), ?_⟩
        simp only [Rp]
        refine ⟨hi0, _, _, rfl, by omega, by omega, ?_⟩
        by_cases h0 : m - l = 0
        · exact .inl h0
        · rcases h3 with rfl | ⟨g, len, c', hφ, rfl, hle⟩
          · omega
          · exact .inr ⟨g, len, c', hφ, by rw [if_neg (by omega)]; simp [add_none, Nat.add_mul], by omega⟩
      · simp at he
    · simp at he
  · rename_i hev
    rw [ev_v hG hS hev]
    split at he
    · rename_i l m hl hm
      split at he
      · rename_i hc
        obtain ⟨rfl, rfl⟩ := hc
        injection he with he; injection he with e1 e2; subst e1; subst e2
        exact ⟨rfl, _, run_slice ht hk (bound_ok hG hS hl) (bound_ok hG hS hm) (Nat.le_refl _) (Nat.le_refl _), by simp [Rp]⟩
      · simp at he
    · simp at he
  · simp at he

theorem slcS_gives {t : TypeId} (ht : P.underlying t = some .string)
    (hG : GOk G h) (hS : SOk h φ T.length s a) {p : Operand} {lo hi : Option Operand} {x : AV} {T' : Tab} (he : hop T (evO G s) (.slcS p lo hi) = some (x, T')) :
    T' = T ∧ ∃ v, (Instr.sliceAt t (a.eval p) (lo.map a.eval) (hi.map a.eval) none).run P w = .ok v w ∧ Rp h φ T.length x v := by
  change (match evO G s p with
    | .v (.string sb) => match bound (evO G s) lo 0, bound (evO G s) hi sb.size with
      | some l, some h => if l ≤ h ∧ h ≤ sb.size then some (.v (.string (sb.extract l h)), T) else none
      | _, _ => none
    | _ => none) = some (x, T') at he
  split at he
  · rename_i sb hev
    rw [ev_v hG hS hev]
    split at he
    · rename_i l m hl hm
      split at he
      · rename_i hc
        injection he with he; injection he with e1 e2; subst e1; subst e2
        exact ⟨rfl, _, run_sliceS ht (bound_ok hG hS hl) (bound_ok hG hS hm) hc.1 hc.2, by simp [Rp]⟩
      · simp at he
    · simp at he
  · simp at he

/-- Which sort of nil a constant is, at a type. -/
def nilK (d : TypeDesc) (c : Value) : Option Nat :=
  match d, c with
  | .pointer _, .pointer none => some 0
  | .slice _, .slice none 0 0 => some 1
  | .func _ _ _, .nilFunc => some 2
  | _, _ => none

def nilable : Value → Prop
  | .pointer _ => True
  | .slice _ _ _ => True
  | .nilFunc => True
  | .func _ _ _ => True
  | _ => False
theorem depth1 : ∃ d, Op.maxDepth = d + 1 := ⟨9999, rfl⟩
theorem nil_bin {t : TypeId} {d : TypeDesc} {c u : Value} {kd : Nat} (hk : nilK d c = some kd) {neg b : Bool} {p y : Operand} (h1 : (Op.equal t u c).run P w = .ok b w)
    (h2 : nilable u) :
    (do eqGuard (if neg then .neq else .eql) t p y u c; binOp (if neg then .neq else .eql) t u c).run P w = .ok (.bool (if neg then !b else b)) w := by
  unfold nilK at hk
  split at hk
  · cases u <;> simp only [nilable] at h2 <;> cases neg <;> simp [eqGuard, binOp, h1]
  · cases u <;> simp only [nilable] at h2 <;> cases neg <;> simp [eqGuard, binOp, h1]
  · cases u <;> simp only [nilable] at h2 <;> cases neg <;> simp [eqGuard, binOp, h1]
  · simp at hk

theorem nilS_gives {t : TypeId} {d : TypeDesc} (ht : P.underlying t = some d) {c : Value} {kd : Nat} (hk : nilK d c = some kd) {neg : Bool} {p y : Operand}
    (hG : GOk G h) (hI : Inv h φ w T) (hS : SOk h φ T.length s a) {x : AV} {T' : Tab} (he : hop T (evO G s) (.nilS neg kd p) = some (x, T')) :
    T' = T ∧ ∃ v, (do eqGuard (if neg then .neq else .eql) t p y (a.eval p) c; binOp (if neg then .neq else .eql) t (a.eval p) c).run P w = .ok v w ∧ Rp h φ T.length x v := by
  have hp := ev_ok hG hS p
  have fin : ∀ b : Bool, x = .v (.bool (if neg then !b else b)) → (∀ u, u = a.eval p → (∃ g : Nat, (Op.equal t u c).run P w = .ok b w ∧ nilable u)) →
      ∃ v, (do eqGuard (if neg then .neq else .eql) t p y (a.eval p) c; binOp (if neg then .neq else .eql) t (a.eval p) c).run P w = .ok v w ∧ Rp h φ T.length x v := by
    intro b hx hrun
    obtain ⟨g, h1, h2⟩ := hrun _ rfl
    exact ⟨.bool (if neg then !b else b), nil_bin hk h1 h2, by rw [hx]; simp [Rp]⟩
  simp only [hop] at he
  split at he
  · rename_i b hb
    injection he with he; injection he with e1 e2; subst e1; subst e2
    refine ⟨rfl, fin b rfl fun u hu => ?_⟩
    subst hu
    unfold nilK at hk
    split at hb
    all_goals
      (try injection hb with hb)
      (try subst hb)
    · rename_i hev
      rw [ev_v hG hS hev]
      split at hk <;> simp at hk
      exact ⟨0, by obtain ⟨d', hd'⟩ := depth1; simp [Op.equal, hd', Op.equalIn, run_underlying ht], trivial⟩
    · rename_i i o hev
      rw [hev] at hp; simp only [Rp] at hp
      obtain ⟨_, g, _, hu⟩ := hp
      rw [hu]
      split at hk <;> simp at hk
      exact ⟨0, by obtain ⟨d', hd'⟩ := depth1; simp [Op.equal, hd', Op.equalIn, run_underlying ht], trivial⟩
    · rename_i i k j o hev
      rw [hev] at hp; simp only [Rp] at hp
      obtain ⟨_, g, l, cc, _, hu⟩ := hp
      rw [hu]
      split at hk <;> simp at hk
      exact ⟨0, by obtain ⟨d', hd'⟩ := depth1; simp [Op.equal, hd', Op.equalIn, run_underlying ht], trivial⟩
    · rename_i cs hev
      rw [hev] at hp; simp only [Rp] at hp
      obtain ⟨b', o, hu, _⟩ := hp
      rw [hu]
      split at hk <;> simp at hk
      exact ⟨0, by obtain ⟨d', hd'⟩ := depth1; simp [Op.equal, hd', Op.equalIn, run_underlying ht], trivial⟩
    · rename_i hev
      rw [ev_v hG hS hev]
      split at hk <;> simp at hk
      exact ⟨1, by obtain ⟨d', hd'⟩ := depth1; simp [Op.equal, hd', Op.equalIn, run_underlying ht], trivial⟩
    · rename_i i hev
      split at hb
      · rename_i k e es hg
        injection hb with hb
        subst hb
        rw [hev] at hp; simp only [Rp] at hp
        obtain ⟨_, h1 | ⟨g, cc, cur, E, hφ, _⟩⟩ := arr_cells hI hg
        · simp at h1
        · rw [hp.2.1, hφ]
          split at hk <;> simp at hk
          exact ⟨1, by obtain ⟨d', hd'⟩ := depth1; simp [Op.equal, hd', Op.equalIn, run_underlying ht], trivial⟩
      · simp at hb
    · rename_i k e es hev
      rw [hev] at hp; simp only [Rp, RpD] at hp
      obtain ⟨A, cc, hu, _, _, h3⟩ := hp
      rcases h3 with h3 | ⟨b', o, rfl, _⟩
      · simp at h3
      · rw [hu]
        split at hk <;> simp at hk
        exact ⟨1, by obtain ⟨d', hd'⟩ := depth1; simp [Op.equal, hd', Op.equalIn, run_underlying ht], trivial⟩
    · rename_i hev
      rw [ev_v hG hS hev]
      split at hk <;> simp at hk
      exact ⟨2, by obtain ⟨d', hd'⟩ := depth1; simp [Op.equal, hd', Op.equalIn, run_underlying ht], trivial⟩
    · rename_i f cs hev
      rw [hev] at hp; simp only [Rp] at hp
      obtain ⟨us, hu, _⟩ := hp
      rw [hu]
      split at hk <;> simp at hk
      exact ⟨3, by obtain ⟨d', hd'⟩ := depth1; simp [Op.equal, hd', Op.equalIn, run_underlying ht], trivial⟩
    · simp at hb
  · simp at he

theorem mm_gives {ts : Array TypeId} {ty : TypeId} {mx : Bool} {p q : Operand}
    (hG : GOk G h) (hS : SOk h φ T.length s a) {x : AV} {T' : Tab} (he : hop T (evO G s) (.mm mx p q) = some (x, T')) :
    T' = T ∧ ∃ v, (if mx then Builtin.max_ ts ty #[a.eval p, a.eval q] else Builtin.min_ ts ty #[a.eval p, a.eval q]).run P w = .ok v w ∧ Rp h φ T.length x v := by
  simp only [hop] at he
  split at he
  · rename_i k i k' j h1 h2
    split at he
    · rename_i hk
      subst hk
      injection he with he; injection he with e1 e2; subst e1; subst e2
      rw [ev_v hG hS h1, ev_v hG hS h2]
      cases mx
      · exact ⟨rfl, _, by simp [Builtin.min_, Builtin.min2]; rfl, by simp [Rp]⟩
      · exact ⟨rfl, _, by simp [Builtin.max_, Builtin.max2]; rfl, by simp [Rp]⟩
    · simp at he
  · simp at he
end

def compOp2 (P : Program) (o : Oper) : Option HOp :=
  match o.op with
  | .slice t x lo hi none => match P.underlying t with
    | some (.slice e) => match sizeT P e with
      | some k => some (.slc x lo hi k)
      | none => none
    | some .string => some (.slcS x lo hi)
    | _ => none
  | .binOp op t x (.const c) _ => match P.underlying t with
    | some d => match nilK d c with
      | some k => if op = .eql then some (.nilS false k x) else if op = .neq then some (.nilS true k x) else none
      | none => none
    | none => none
  | .call c => match c.callee, c.args.toList with
    | .builtin .max, [x, y] => some (.mm true x y)
    | .builtin .min, [x, y] => some (.mm false x y)
    | _, _ => none
  | _ => none

section
variable {P : Program} {G : Nat → Option (List AV)} {h : GH} {φ : Nat → Value} {w : World} {a : Act} {st : St} {K : AV → Tab → Prop} {next : Act → World → Prop} {Q : Exit → Act → World → Prop}

theorem op_sound2 {o : Oper} {ho : HOp} (hc : compOp2 P o = some ho) (hw : opW P G st ho K) (hG : GOk G h) (hI : Inv h φ w st.T) (hS : SOk h φ st.T.length st.s a)
    (hn : ∀ v w', Ret h φ st.T w K v w' → next (a.put o.dst v) w') : o.wp P a w next Q := by
  have pure_op : ∀ {sv : Sem Value} (_ : execOp a.eval o = (do pure (.value (← sv)))) (_ : ∀ f l, ho ≠ .call f l) (_ : ∀ x T', hop st.T (evO G st.s) ho = some (x, T') → T' = st.T ∧ ∃ v, sv.run P w = .ok v w ∧ Rp h φ st.T.length x v), o.wp P a w next Q := by
    intro sv he hcall hrun
    obtain ⟨x, T', e, hk⟩ := hopW hcall hw
    obtain ⟨rfl, v, h1, h2⟩ := hrun x T' e
    exact val_wp he h1 (hn v w (ret_pure hI h2 hk))
  obtain ⟨dst, op, ty, pos, after, guard⟩ := o
  unfold compOp2 at hc
  simp only at hc
  split at hc
  · rename_i t x lo hi
    split at hc
    · rename_i e ht
      split at hc
      · rename_i k hk
        injection hc with hc
        subst hc
        exact pure_op (sv := Instr.sliceAt t (a.eval x) (lo.map a.eval) (hi.map a.eval) none) rfl (by simp) fun y T' he => slc_gives ht hk hG hI hS he
      · simp at hc
    · rename_i ht
      injection hc with hc
      subst hc
      exact pure_op (sv := Instr.sliceAt t (a.eval x) (lo.map a.eval) (hi.map a.eval) none) rfl (by simp) fun y T' he => slcS_gives ht hG hS he
    · simp at hc
  · rename_i op t x c yt
    split at hc
    · rename_i d ht
      split at hc
      · rename_i k hk
        split at hc
        · rename_i hop
          subst hop
          injection hc with hc
          subst hc
          exact pure_op (sv := do eqGuard .eql t x (.const c) (a.eval x) c; binOp .eql t (a.eval x) c) rfl (by simp) fun y T' he => nilS_gives (neg := false) ht hk hG hI hS he
        · split at hc
          · rename_i hop
            subst hop
            injection hc with hc
            subst hc
            exact pure_op (sv := do eqGuard .neq t x (.const c) (a.eval x) c; binOp .neq t (a.eval x) c) rfl (by simp) fun y T' he => nilS_gives (neg := true) ht hk hG hI hS he
          · simp at hc
      · simp at hc
    · simp at hc
  · rename_i c
    obtain ⟨callee, args, argTypes⟩ := c
    simp only at hc
    split at hc
    · rename_i x y hargs
      have ha : args = #[x, y] := Array.toList_inj.1 (by rw [hargs])
      subst ha
      injection hc with hc
      subst hc
      exact pure_op (sv := Builtin.max_ argTypes ty #[a.eval x, a.eval y]) (by simp [execOp, resolve, invoke, builtin]) (by simp) fun z T' he => mm_gives (ts := argTypes) (ty := ty) (mx := true) hG hS he
    · rename_i x y hargs
      have ha : args = #[x, y] := Array.toList_inj.1 (by rw [hargs])
      subst ha
      injection hc with hc
      subst hc
      exact pure_op (sv := Builtin.min_ argTypes ty #[a.eval x, a.eval y]) (by simp [execOp, resolve, invoke, builtin]) (by simp) fun z T' he => mm_gives (ts := argTypes) (ty := ty) (mx := false) hG hS he
    · simp at hc
  · simp at hc

end
end Hud
