/- Rows of operations, code, functions. -/
import Derived.Test.YthmdkjeflllfpaaHudQb
set_option linter.all false
namespace Hud
open Go

def compOper (P : Program) (N : Nat) (ops : Array Oper) (o : Oper) : Option HOper :=
  if o.dst.all (· < N) = false then none else
  match compOp P o with
  | none => none
  | some h => match o.guard with
    | none => some ⟨o.dst, h, none⟩
    | some (j, b) => match (ops[j]?).bind (·.dst) with
      | some d => some ⟨o.dst, h, some (d, b)⟩
      | none => none

def compOps (P : Program) (N : Nat) (ops : Array Oper) : List Oper → Option (List HOper)
  | [] => some []
  | o :: os => match compOper P N ops o, compOps P N ops os with
    | some h, some hs => some (h :: hs)
    | _, _ => none

-- slots
theorem getS_del (l : List (Nat × AV)) (j i : Nat) (h : i ≠ j) : getS (delS l j) i = getS l i := by
  induction l with
  | nil => rfl
  | cons p l ih =>
    obtain ⟨k, x⟩ := p
    simp only [delS]
    split
    · rename_i hk
      subst hk
      simp only [getS]
      rw [if_neg (fun e => h e.symm)]
      exact ih
    · simp only [getS]
      split
      · rfl
      · exact ih
theorem getS_put (l : List (Nat × AV)) (j i : Nat) (x : AV) : getS (putS l j x) i = if j = i then x else getS l i := by
  unfold putS
  simp only [getS]
  split
  · rfl
  · rename_i h; exact getS_del l j i (fun e => h e.symm)
theorem mem_ins {p q : Nat × AV} {l : List (Nat × AV)} (h : q ∈ insS p l) : q = p ∨ q ∈ l := by
  induction l with
  | nil => simp only [insS, List.mem_singleton] at h; exact .inl h
  | cons r l ih =>
    simp only [insS] at h
    split at h
    · rcases List.mem_cons.1 h with h | h
      · exact .inl h
      · exact .inr h
    · rcases List.mem_cons.1 h with h | h
      · exact .inr (by simp [h])
      · rcases ih h with h | h
        · exact .inl h
        · exact .inr (by simp [h])
theorem mem_sort {q : Nat × AV} {l : List (Nat × AV)} (h : q ∈ sortS l) : q ∈ l := by
  induction l with
  | nil => simp [sortS] at h
  | cons p l ih =>
    rcases mem_ins h with h | h
    · simp [h]
    · simp [ih h]
theorem mem_drop {d : List Nat} {q : Nat × AV} {l : List (Nat × AV)} (h : q ∈ dropS d l) : q ∈ l := by
  induction l with
  | nil => simp [dropS] at h
  | cons p l ih =>
    obtain ⟨k, x⟩ := p
    simp only [dropS] at h
    split at h
    · simp [ih h]
    · rcases List.mem_cons.1 h with h | h
      · simp [h]
      · simp [ih h]
/-- Each slot once. -/
def Once (l : List (Nat × AV)) : Prop := ∀ i x y, (i, x) ∈ l → (i, y) ∈ l → x = y
theorem once_get {l : List (Nat × AV)} (h : Once l) {i : Nat} {x : AV} (hm : (i, x) ∈ l) : getS l i = x := by
  induction l with
  | nil => simp at hm
  | cons p l ih =>
    obtain ⟨k, y⟩ := p
    simp only [getS]
    split
    · rename_i hk
      subst hk
      exact h k y x (by simp) hm
    · rename_i hk
      rcases List.mem_cons.1 hm with hm | hm
      · injection hm with h1 _; exact absurd h1.symm hk
      · exact ih (fun i a b ha hb => h i a b (by simp [ha]) (by simp [hb])) hm
theorem get_mem {l : List (Nat × AV)} {i : Nat} : getS l i = .any ∨ (i, getS l i) ∈ l := by
  induction l with
  | nil => exact .inl rfl
  | cons p l ih =>
    obtain ⟨k, y⟩ := p
    simp only [getS]
    split
    · rename_i hk; subst hk; exact .inr (by simp)
    · rcases ih with ih | ih
      · exact .inl ih
      · exact .inr (by simp [ih])
theorem once_del {l : List (Nat × AV)} (h : Once l) (j : Nat) : (∀ q ∈ delS l j, q ∈ l ∧ q.1 ≠ j) := by
  intro q hq
  induction l with
  | nil => simp [delS] at hq
  | cons p l ih =>
    obtain ⟨k, y⟩ := p
    have hl : Once l := fun i a b ha hb => h i a b (by simp [ha]) (by simp [hb])
    simp only [delS] at hq
    split at hq
    · have := ih hl hq; exact ⟨by simp [this.1], this.2⟩
    · rename_i hk
      rcases List.mem_cons.1 hq with rfl | hq
      · exact ⟨by simp, hk⟩
      · have := ih hl hq; exact ⟨by simp [this.1], this.2⟩
theorem once_put {l : List (Nat × AV)} (h : Once l) (j : Nat) (x : AV) : Once (putS l j x) := by
  intro i a b ha hb
  unfold putS at ha hb
  rcases List.mem_cons.1 ha with ha | ha <;> rcases List.mem_cons.1 hb with hb | hb
  · injection ha with _ h1; injection hb with _ h2; rw [h1, h2]
  · injection ha with h1 _; exact absurd h1 (once_del h j _ hb).2
  · injection hb with h1 _; exact absurd h1 (once_del h j _ ha).2
  · exact h i a b (once_del h j _ ha).1 (once_del h j _ hb).1

theorem mem_rn {L : List Nat} {q : Nat × AV} {l : List (Nat × AV)} (h : q ∈ rnS L l) : ∃ x, (q.1, x) ∈ l ∧ q.2 = rnA L x := by
  induction l with
  | nil => simp [rnS] at h
  | cons p l ih =>
    obtain ⟨k, y⟩ := p
    simp only [rnS] at h
    rcases List.mem_cons.1 h with rfl | h
    · exact ⟨y, by simp, rfl⟩
    · obtain ⟨x, h1, h2⟩ := ih h; exact ⟨x, by simp [h1], h2⟩

/-- A state, beside a function's beginning. -/
structure SInv (P : Program) (G : Nat → Option (List AV)) (N : Nat) (h0 : GH) (φ0 : Nat → Value) (T0 : Tab) (w0 : World) (st : St) (a : Act) (w : World) : Prop where
  r : st.r = T0.length
  once : Once st.s
  ex : ∃ h φ, GOk G h ∧ Evo h0 φ0 T0 w0 h φ st.T w ∧ Inv h φ w st.T ∧ SOk h φ st.T.length st.s a
  sz : N ≤ a.tmps.size
  df : a.defers = []

section
variable {P : Program} {G : Nat → Option (List AV)} {N : Nat} {h0 : GH} {φ0 : Nat → Value} {T0 : Tab} {w0 : World} {a : Act} {w : World}

theorem gcs_ok {st : St} (hr : st.r ≤ 200) (d : List Nat) (hS : SInv P G N h0 φ0 T0 w0 st a w) : SInv P G N h0 φ0 T0 w0 (gcs d st) a w := by
  obtain ⟨hr0, honce, ⟨h, φ, hG, hE, hI, hSl⟩, hsz, hdf⟩ := hS
  have hnd : (reach st.T (List.range st.r ++ idsS (sortS (dropS d st.s)))).Nodup := reach_nodup _ _
  obtain ⟨l, hl⟩ : ∃ l, reach st.T (List.range st.r ++ idsS (sortS (dropS d st.s))) = List.range st.r ++ l := by
    exact reach_range st.T st.r _
  have hgc : gcs d st = ⟨st.r, rnS (reach st.T (List.range st.r ++ idsS (sortS (dropS d st.s)))) (sortS (dropS d st.s)), rnT (reach st.T (List.range st.r ++ idsS (sortS (dropS d st.s)))) st.T⟩ := rfl
  rw [hgc]
  revert hnd hl
  generalize reach st.T (List.range st.r ++ idsS (sortS (dropS d st.s))) = L
  intro hnd hl
  have hφ : Names L φ (fun j => φ (L.getD j 0)) := by
    intro j i e
    simp [List.getD_eq_getElem?_getD, e]
  have hlen : (rnT L st.T).length = L.length := by simp [rnT]
  have hpre : ∀ i, i < st.r → L[i]? = some i := by
    intro i hi
    rw [hl, List.getElem?_append_left (by simpa using hi)]
    simp [hi]
  have hmem : ∀ i x, (i, x) ∈ sortS (dropS d st.s) → (i, x) ∈ st.s := fun i x hm => mem_drop (mem_sort hm)
  refine ⟨hr0, ?_, ⟨h, _, hG, ?_, inv_rn hnd hI hφ, ?_⟩, hsz, hdf⟩
  · intro i x y hx hy
    obtain ⟨x', h1, h2⟩ := mem_rn hx
    obtain ⟨y', h3, h4⟩ := mem_rn hy
    simp only at h2 h4
    rw [h2, h4, honce i x' y' (hmem _ _ h1) (hmem _ _ h3)]
  · refine ⟨hE.os, hE.tape, hE.output, hE.size, hE.frame, hE.le, hE.gfr, fun i hi => ?_, fun i o b e hb => ?_, ?_, hE.drawn⟩
    · have h1 := hpre i (by omega)
      show φ (L.getD i 0) = _
      rw [List.getD_eq_getElem?_getD, h1]
      exact hE.phi i hi
    · obtain ⟨i', o', h1, h2, _⟩ := rnT_get e
      have hii := hφ i i' h1
      simp only at hii
      simp only [hii] at hb
      exact hE.org i' o' b h2 hb
    · show T0.length ≤ (rnT L st.T).length
      rw [hlen, hl, List.length_append, List.length_range]
      omega
  · intro i
    show Rp h _ (rnT L st.T).length (getS (rnS L (sortS (dropS d st.s))) i) _
    rcases get_mem (l := rnS L (sortS (dropS d st.s))) (i := i) with e | e
    · rw [e]; simp [Rp]
    · obtain ⟨x, h1, h2⟩ := mem_rn e
      simp only at h1 h2
      rw [h2, hlen]
      have := hSl i
      rw [once_get honce (hmem _ _ h1)] at this
      exact rnA_ok hφ this

/-- A slot is written. -/
theorem sok_put {h : GH} {φ : Nat → Value} {n : Nat} {s : List (Nat × AV)} {o : Option Nat} {x : AV} {v : Value} (hs : SOk h φ n s a) (hx : Rp h φ n x v) (ho : ∀ j, o = some j → j < a.tmps.size) : SOk h φ n (putO s o x) (a.put o v) := by
  intro i
  cases o with
  | none => exact hs i
  | some j =>
    have hj := ho j rfl
    simp only [putO, getS_put, Act.put]
    split
    · rename_i hij
      subst hij
      rw [show (a.tmps.setIfInBounds j v).getD j undef = v from by simp [Array.getD_eq_getD_getElem?, hj]]
      exact hx
    · rename_i hij
      rw [show (a.tmps.setIfInBounds j v).getD i undef = a.tmps.getD i undef from by simp [Array.getD_eq_getD_getElem?, Array.getElem?_setIfInBounds, hij]]
      exact hs i

theorem wants_ok {h : GH} {φ : Nat → Value} {n : Nat} {s : List (Nat × AV)} {ops : Array Oper} {o : Oper} {g : Option (Nat × Bool)} {b : Bool} (hs : SOk h φ n s a)
    (hg : match o.guard with | none => g = none | some (j, t) => ∃ d, (ops[j]?).bind (·.dst) = some d ∧ g = some (d, t)) (hw : wants s g = some b) : Region.wanted o (yielded ops a.tmps) = b := by
  cases hgd : o.guard with
  | none =>
    rw [hgd] at hg
    simp only at hg
    subst hg
    simp only [wants, Option.some.injEq] at hw
    subst hw
    simp [Region.wanted, hgd]
  | some jt =>
    obtain ⟨j, t⟩ := jt
    rw [hgd] at hg
    obtain ⟨d, hd, rfl⟩ := hg
    have hv := hs d
    simp only [wants] at hw
    have hyield : yielded ops a.tmps j = (match a.tmps[d]? with | some (.bool x) => some x | _ => none) := by
      unfold yielded
      rw [hd]
      simp only [Option.bind_some]
      cases a.tmps[d]? with
      | none => rfl
      | some v => cases v <;> rfl
    split at hw
    · rename_i x hx
      rw [hx] at hv
      simp only [Rp] at hv
      injection hw with hw
      have : a.tmps[d]? = some (.bool x) := by
        rcases Nat.lt_or_ge d a.tmps.size with hlt | hge
        · rw [Array.getElem?_eq_getElem hlt]
          simpa [Array.getD_eq_getD_getElem?, hlt] using hv
        · rw [Array.getD_eq_getD_getElem?, Array.getElem?_eq_none hge] at hv
          simp [undef] at hv
      simp only [Region.wanted, hgd, hyield, this]
      rw [← hw]
      cases x <;> cases t <;> rfl
    · rename_i us hx
      rw [hx] at hv
      simp only [Rp] at hv
      injection hw with hw
      subst hw
      have : yielded ops a.tmps j = none := by
        rw [hyield]
        rcases Nat.lt_or_ge d a.tmps.size with hlt | hge
        · have h2 : a.tmps[d] = .tuple us := by simpa [Array.getD_eq_getD_getElem?, hlt] using hv
          rw [Array.getElem?_eq_getElem hlt, h2]
        · rw [Array.getElem?_eq_none hge]
      simp [Region.wanted, hgd, this]
    · simp at hw

theorem compOper_some {ops : Array Oper} {o : Oper} {ho : HOper} (hc : compOper P N ops o = some ho) :
    (∀ j, o.dst = some j → j < N) ∧ ho.dst = o.dst ∧ compOp P o = some ho.op ∧ (match o.guard with | none => ho.guard = none | some (j, t) => ∃ d, (ops[j]?).bind (·.dst) = some d ∧ ho.guard = some (d, t)) := by
  unfold compOper at hc
  split at hc
  · simp at hc
  · rename_i hd
    have hd' : ∀ j, o.dst = some j → j < N := by
      intro j hj
      rw [hj] at hd
      simpa using hd
    split at hc
    · simp at hc
    · rename_i h hh
      split at hc
      · rename_i hg
        injection hc with hc
        subst hc
        exact ⟨hd', rfl, hh, rfl⟩
      · rename_i j b hg
        split at hc
        · rename_i d hdd
          injection hc with hc
          subst hc
          exact ⟨hd', rfl, hh, d, hdd, rfl⟩
        · simp at hc

theorem once_putO {l : List (Nat × AV)} (h : Once l) (o : Option Nat) (x : AV) : Once (putO l o x) := by
  cases o with
  | none => exact h
  | some j => exact once_put h j x

theorem ops_sound {ops : Array Oper} {Q : Exit → Act → World → Prop} : ∀ {l : List Oper} {hl : List HOper} {st : St} {a : Act} {w : World} {K : St → Prop}, compOps P N ops l = some hl → opsW P G hl st K → SInv P G N h0 φ0 T0 w0 st a w →
    (∀ st' a' w', K st' → SInv P G N h0 φ0 T0 w0 st' a' w' → Q .normal a' w') → wpList P ops Q l a w
  | [], hl, st, a, w, K, hc, hw, hS, hn => by
    simp only [compOps, Option.some.injEq] at hc
    subst hc
    exact hn st a w hw hS
  | o :: l, hl, st, a, w, K, hc, hw, hS, hn => by
    simp only [compOps] at hc
    split at hc
    · rename_i ho hl' h1 h2
      injection hc with hc
      subst hc
      obtain ⟨hr, honce, ⟨h, φ, hG, hE, hI, hSl⟩, hsz, hdf⟩ := hS
      obtain ⟨c1, c2, c3, c4⟩ := compOper_some h1
      have hdst : ∀ j, o.dst = some j → j < a.tmps.size := fun j hj => Nat.lt_of_lt_of_le (c1 j hj) hsz
      have hput : ∀ v, N ≤ (a.put o.dst v).tmps.size ∧ (a.put o.dst v).defers = [] := by
        intro v
        cases o.dst with
        | none => exact ⟨hsz, hdf⟩
        | some j => exact ⟨by simpa [Act.put] using hsz, hdf⟩
      simp only [opsW] at hw
      rw [c2] at hw
      split at hw
      · rename_i hwt
        have hwant := wants_ok hSl c4 hwt
        unfold wpList
        rw [if_pos hwant]
        refine .inl (op_sound c3 hw hG hI hSl fun v w' hret => ?_)
        obtain ⟨x, T', h', φ', hk, hE', hI', hx⟩ := hret
        have hSl' : SOk h' φ' T'.length st.s a := fun i => (hSl i).mono hE'.le hE'.len hE'.phi
        exact ops_sound h2 hk ⟨hr, once_putO honce _ _, ⟨h', φ', hG.mono hE'.le, hE.trans hE', hI', sok_put hSl' hx hdst⟩, (hput v).1, (hput v).2⟩ hn
      · rename_i hwt
        have hwant := wants_ok hSl c4 hwt
        unfold wpList
        rw [if_neg (by simp [hwant])]
        exact ops_sound h2 hw ⟨hr, once_putO honce _ _, ⟨h, φ, hG, hE, hI, sok_put hSl (by simp [Rp]) hdst⟩, (hput _).1, (hput _).2⟩ hn
      · exact hw.elim
    · simp at hc

end
end Hud
