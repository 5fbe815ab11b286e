/- The abstract values of our own VC generator, and how they stand for Go's values. No program in sight. -/
import Derived.WalkKit
set_option linter.all false
namespace Hud
open Go

/-- An abstract value: exactly a value; an immutable slice (its elements, each of k cells); an aggregate of cells; the slice, the box that object i is; an element's place; some elements of the slice that object i is; a place among immutable cells; a closure; a tuple; whatever. -/
inductive AV where
  | v (x : Value)
  | ls (k : Nat) (es : List (List AV))
  | ag (cs : List AV)
  | own (i : Nat)
  | ptr (i off : Nat)
  | elt (i k j off : Nat)
  | vw (i k lo n : Nat)
  | mp (i : Nat)
  | rp (cs : List AV)
  | cl (f : Nat) (caps : List AV)
  | tup (vs : List AV)
  | any
  deriving Inhabited

/-- One cell, without any object. -/
def closedA : AV → Bool
  | .v (.agg _) => false
  | .v (.tuple _) => false
  | .v _ => true
  | .ls _ _ => true
  | _ => false

/-- Blocks that are never written any more, and what they hold. -/
abbrev GH := Nat → Option (Array Value)

def cellG (h : GH) (b o : Nat) : Option Value := (h b).bind (·[o]?)

mutual
/-- A value without any object. -/
def RpD (h : GH) : AV → Value → Prop
  | .v x, u => u = x
  | .ls k es, u => ∃ A c, u = .slice A es.length c ∧ es.length ≤ c ∧ c ≤ maxLen ∧ (es = [] ∨ ∃ b o, A = some ⟨b, o, none⟩ ∧ RpDE h b k es o)
  | .ag cs, u => ∃ us : Array Value, u = .agg us ∧ RpDL h cs us.toList
  | .any, _ => True
  | _, _ => False
def RpDE (h : GH) (b k : Nat) : List (List AV) → Nat → Prop
  | [], _ => True
  | e :: es, o => e.length = k ∧ RpDC h b e o ∧ RpDE h b k es (o + k)
def RpDC (h : GH) (b : Nat) : List AV → Nat → Prop
  | [], _ => True
  | c :: cs, o => (∃ u, closedA c = true ∧ cellG h b o = some u ∧ RpD h c u) ∧ RpDC h b cs (o + 1)
def RpDL (h : GH) : List AV → List Value → Prop
  | [], us => us = []
  | c :: cs, us => ∃ u us', us = u :: us' ∧ RpD h c u ∧ RpDL h cs us'
end

mutual
def Rp (h : GH) (φ : Nat → Value) (n : Nat) : AV → Value → Prop
  | .v x, u => u = x
  | .ls k es, u => RpD h (.ls k es) u
  | .ag cs, u => ∃ us : Array Value, u = .agg us ∧ RpL h φ n cs us.toList
  | .own i, u => i < n ∧ u = φ i ∧ ∃ A l c, u = .slice A l c
  | .ptr i off, u => i < n ∧ ∃ g, φ i = .pointer (some ⟨g, 0, none⟩) ∧ u = .pointer (some ⟨g, off, none⟩)
  | .elt i k j off, u => i < n ∧ ∃ g l c, φ i = .slice (some ⟨g, 0, none⟩) l c ∧ u = .pointer (some ⟨g, j * k + off, none⟩)
  | .mp i, u => i < n ∧ u = φ i ∧ ∃ g, u = .map (some g)
  | .vw i k lo m, u => i < n ∧ ∃ A c, u = .slice A m c ∧ m ≤ c ∧ c ≤ maxLen ∧ (m = 0 ∨ ∃ g l c', φ i = .slice (some ⟨g, 0, none⟩) l c' ∧ A = some ⟨g, lo * k, none⟩ ∧ lo + m ≤ l)
  | .rp cs, u => ∃ b o, u = .pointer (some ⟨b, o, none⟩) ∧ RpDC h b cs o
  | .cl f caps, u => ∃ us : Array Value, u = .func (.func f) #[] us ∧ RpL h φ n caps us.toList
  | .tup vs, u => ∃ us : Array Value, u = .tuple us ∧ RpL h φ n vs us.toList
  | .any, _ => True
def RpL (h : GH) (φ : Nat → Value) (n : Nat) : List AV → List Value → Prop
  | [], us => us = []
  | c :: cs, us => ∃ u us', us = u :: us' ∧ Rp h φ n c u ∧ RpL h φ n cs us'
end

def GLe (h h' : GH) : Prop := ∀ b cs, h b = some cs → h' b = some cs
theorem GLe.refl (h : GH) : GLe h h := fun _ _ e => e
theorem GLe.trans {a b c : GH} (h : GLe a b) (k : GLe b c) : GLe a c := fun x cs e => k x cs (h x cs e)
theorem GLe.cell {h h' : GH} (g : GLe h h') {b o : Nat} {u : Value} (e : cellG h b o = some u) : cellG h' b o = some u := by
  unfold cellG at *
  cases hb : h b with
  | none => simp [hb] at e
  | some cs => rw [hb] at e; rw [g b cs hb]; exact e

mutual
theorem RpD.mono {h h' : GH} (g : GLe h h') : ∀ {x : AV} {u : Value}, RpD h x u → RpD h' x u
  | .v _, _, e => by simpa [RpD] using e
  | .ls k es, u, e => by
    simp only [RpD] at e ⊢
    obtain ⟨A, c, h1, h2, h3, h4⟩ := e
    exact ⟨A, c, h1, h2, h3, h4.imp id fun ⟨b, o, hA, hE⟩ => ⟨b, o, hA, RpDE.mono g hE⟩⟩
  | .ag cs, u, e => by
    simp only [RpD] at e ⊢
    obtain ⟨us, h1, h2⟩ := e
    exact ⟨us, h1, RpDL.mono g h2⟩
  | .any, _, _ => by simp [RpD]
  | .own _, _, e => by simp [RpD] at e
  | .ptr _ _, _, e => by simp [RpD] at e
  | .elt _ _ _ _, _, e => by simp [RpD] at e
  | .vw _ _ _ _, _, e => by simp [RpD] at e
  | .mp _, _, e => by simp [RpD] at e
  | .rp _, _, e => by simp [RpD] at e
  | .cl _ _, _, e => by simp [RpD] at e
  | .tup _, _, e => by simp [RpD] at e
theorem RpDE.mono {h h' : GH} (g : GLe h h') {b k : Nat} : ∀ {es : List (List AV)} {o : Nat}, RpDE h b k es o → RpDE h' b k es o
  | [], _, _ => by simp [RpDE]
  | e :: es, o, hh => by
    simp only [RpDE] at hh ⊢
    exact ⟨hh.1, RpDC.mono g hh.2.1, RpDE.mono g hh.2.2⟩
theorem RpDC.mono {h h' : GH} (g : GLe h h') {b : Nat} : ∀ {cs : List AV} {o : Nat}, RpDC h b cs o → RpDC h' b cs o
  | [], _, _ => by simp [RpDC]
  | c :: cs, o, hh => by
    simp only [RpDC] at hh ⊢
    obtain ⟨⟨u, h0, h1, h2⟩, h3⟩ := hh
    exact ⟨⟨u, h0, g.cell h1, RpD.mono g h2⟩, RpDC.mono g h3⟩
theorem RpDL.mono {h h' : GH} (g : GLe h h') : ∀ {cs : List AV} {us : List Value}, RpDL h cs us → RpDL h' cs us
  | [], _, e => by simpa [RpDL] using e
  | c :: cs, us, hh => by
    simp only [RpDL] at hh ⊢
    obtain ⟨u, us', h1, h2, h3⟩ := hh
    exact ⟨u, us', h1, RpD.mono g h2, RpDL.mono g h3⟩
end

mutual
theorem Rp.mono {h h' : GH} {φ φ' : Nat → Value} {n n' : Nat} (g : GLe h h') (hn : n ≤ n') (hp : ∀ i, i < n → φ' i = φ i) : ∀ {x : AV} {u : Value}, Rp h φ n x u → Rp h' φ' n' x u
  | .v _, _, e => by simpa [Rp] using e
  | .ls k es, u, e => by simp only [Rp] at e ⊢; exact RpD.mono g e
  | .ag cs, u, e => by
    simp only [Rp] at e ⊢
    obtain ⟨us, h1, h2⟩ := e
    exact ⟨us, h1, RpL.mono g hn hp h2⟩
  | .any, _, _ => by simp [Rp]
  | .own i, _, e => by simp only [Rp] at e ⊢; exact ⟨by omega, by rw [hp i e.1]; exact e.2.1, e.2.2⟩
  | .ptr i _, _, e => by simp only [Rp] at e ⊢; exact ⟨by omega, by rw [hp i e.1]; exact e.2⟩
  | .elt i _ _ _, _, e => by simp only [Rp] at e ⊢; exact ⟨by omega, by rw [hp i e.1]; exact e.2⟩
  | .vw i _ _ _, _, e => by simp only [Rp] at e ⊢; exact ⟨by omega, by rw [hp i e.1]; exact e.2⟩
  | .mp i, _, e => by simp only [Rp] at e ⊢; exact ⟨by omega, by rw [hp i e.1]; exact e.2.1, e.2.2⟩
  | .rp cs, u, e => by
    simp only [Rp] at e ⊢
    obtain ⟨b, o, h1, h2⟩ := e
    exact ⟨b, o, h1, RpDC.mono g h2⟩
  | .cl f caps, u, e => by
    simp only [Rp] at e ⊢
    obtain ⟨us, h1, h2⟩ := e
    exact ⟨us, h1, RpL.mono g hn hp h2⟩
  | .tup vs, u, e => by
    simp only [Rp] at e ⊢
    obtain ⟨us, h1, h2⟩ := e
    exact ⟨us, h1, RpL.mono g hn hp h2⟩
theorem RpL.mono {h h' : GH} {φ φ' : Nat → Value} {n n' : Nat} (g : GLe h h') (hn : n ≤ n') (hp : ∀ i, i < n → φ' i = φ i) : ∀ {cs : List AV} {us : List Value}, RpL h φ n cs us → RpL h' φ' n' cs us
  | [], _, e => by simpa [RpL] using e
  | c :: cs, us, hh => by
    simp only [RpL] at hh ⊢
    obtain ⟨u, us', h1, h2, h3⟩ := hh
    exact ⟨u, us', h1, Rp.mono g hn hp h2, RpL.mono g hn hp h3⟩
end

-- a closed value is one, whatever the objects are
mutual
theorem RpD.to {h : GH} {φ : Nat → Value} {n : Nat} : ∀ {x : AV} {u : Value}, RpD h x u → Rp h φ n x u
  | .v _, _, e => by simpa [Rp, RpD] using e
  | .ls k es, u, e => by simp only [Rp]; exact e
  | .ag cs, u, e => by
    simp only [RpD] at e
    simp only [Rp]
    obtain ⟨us, h1, h2⟩ := e
    exact ⟨us, h1, RpDL.to h2⟩
  | .any, _, _ => by simp [Rp]
  | .own _, _, e => by simp [RpD] at e
  | .ptr _ _, _, e => by simp [RpD] at e
  | .elt _ _ _ _, _, e => by simp [RpD] at e
  | .vw _ _ _ _, _, e => by simp [RpD] at e
  | .mp _, _, e => by simp [RpD] at e
  | .rp _, _, e => by simp [RpD] at e
  | .cl _ _, _, e => by simp [RpD] at e
  | .tup _, _, e => by simp [RpD] at e
theorem RpDL.to {h : GH} {φ : Nat → Value} {n : Nat} : ∀ {cs : List AV} {us : List Value}, RpDL h cs us → RpL h φ n cs us
  | [], _, e => by simpa [RpDL, RpL] using e
  | c :: cs, us, hh => by
    simp only [RpDL] at hh
    simp only [RpL]
    obtain ⟨u, us', h1, h2, h3⟩ := hh
    exact ⟨u, us', h1, RpD.to h2, RpDL.to h3⟩
end

theorem RpL.length {h : GH} {φ : Nat → Value} {n : Nat} : ∀ {cs : List AV} {us : List Value}, RpL h φ n cs us → cs.length = us.length
  | [], us, e => by simp only [RpL] at e; subst e; rfl
  | c :: cs, us, e => by
    simp only [RpL] at e
    obtain ⟨u, us', rfl, _, h⟩ := e
    simp [h.length]
theorem RpDL.length {h : GH} : ∀ {cs : List AV} {us : List Value}, RpDL h cs us → cs.length = us.length
  | [], us, e => by simp only [RpDL] at e; subst e; rfl
  | c :: cs, us, e => by
    simp only [RpDL] at e
    obtain ⟨u, us', rfl, _, h⟩ := e
    simp [h.length]

theorem RpL.get {h : GH} {φ : Nat → Value} {n : Nat} : ∀ {cs : List AV} {us : List Value}, RpL h φ n cs us → ∀ {i : Nat} {c : AV}, cs[i]? = some c → ∃ u, us[i]? = some u ∧ Rp h φ n c u
  | [], us, e, i, c, hi => by simp at hi
  | d :: cs, us, e, i, c, hi => by
    simp only [RpL] at e
    obtain ⟨u, us', rfl, h1, h2⟩ := e
    cases i with
    | zero => simp only [List.getElem?_cons_zero, Option.some.injEq] at hi; subst hi; exact ⟨u, by simp, h1⟩
    | succ i => simp only [List.getElem?_cons_succ] at hi ⊢; exact h2.get hi
theorem RpL.mk {h : GH} {φ : Nat → Value} {n : Nat} : ∀ {cs : List AV} {us : List Value}, cs.length = us.length → (∀ (i : Nat) (c : AV) (u : Value), cs[i]? = some c → us[i]? = some u → Rp h φ n c u) → RpL h φ n cs us
  | [], us, e, _ => by simp only [RpL]; exact List.eq_nil_of_length_eq_zero (by simpa using e.symm)
  | d :: cs, [], e, _ => by simp at e
  | d :: cs, u :: us, e, hh => by
    simp only [RpL]
    exact ⟨u, us, rfl, hh 0 d u (by simp) (by simp), RpL.mk (by simpa using e) fun i c x hc hx => hh (i + 1) c x (by simpa using hc) (by simpa using hx)⟩
theorem RpL.app {h : GH} {φ : Nat → Value} {n : Nat} {cs ds : List AV} {us vs : List Value} (a : RpL h φ n cs us) (b : RpL h φ n ds vs) : RpL h φ n (cs ++ ds) (us ++ vs) := by
  induction cs generalizing us with
  | nil => simp only [RpL] at a; subst a; simpa using b
  | cons c cs ih =>
    simp only [RpL] at a
    obtain ⟨u, us', rfl, h1, h2⟩ := a
    simp only [List.cons_append, RpL]
    exact ⟨u, us' ++ vs, rfl, h1, ih h2⟩
theorem RpL.take {h : GH} {φ : Nat → Value} {n : Nat} {cs : List AV} {us : List Value} (a : RpL h φ n cs us) (m : Nat) : RpL h φ n (cs.take m) (us.take m) :=
  RpL.mk (by simp [a.length]) fun i c u hc hu => by
    rw [List.getElem?_take] at hc hu
    split at hc
    · rw [if_pos (by assumption)] at hu
      obtain ⟨u', h1, h2⟩ := a.get hc
      rw [h1] at hu
      injection hu with hu
      subst hu
      exact h2
    · simp at hc
theorem RpL.drop {h : GH} {φ : Nat → Value} {n : Nat} {cs : List AV} {us : List Value} (a : RpL h φ n cs us) (m : Nat) : RpL h φ n (cs.drop m) (us.drop m) :=
  RpL.mk (by simp [a.length]) fun i c u hc hu => by
    rw [List.getElem?_drop] at hc hu
    obtain ⟨u', h1, h2⟩ := a.get hc
    rw [h1] at hu
    injection hu with hu
    subst hu
    exact h2
theorem RpL.set {h : GH} {φ : Nat → Value} {n : Nat} {cs : List AV} {us : List Value} (a : RpL h φ n cs us) {m : Nat} {c : AV} {u : Value} (hc : Rp h φ n c u) : RpL h φ n (cs.set m c) (us.set m u) :=
  RpL.mk (by simp [a.length]) fun i d x hd hx => by
    have hl := a.length
    rw [List.getElem?_set] at hd hx
    by_cases hn : m = i
    · simp only [hn, if_true] at hd hx
      split at hd
      · rw [if_pos (by omega)] at hx; injection hd with hd; injection hx with hx; subst hd; subst hx; exact hc
      · simp at hd
    · simp only [hn, if_false] at hd hx
      obtain ⟨u', h1, h2⟩ := a.get hd
      rw [h1] at hx
      injection hx with hx
      subst hx
      exact h2
theorem RpDL.get {h : GH} : ∀ {cs : List AV} {us : List Value}, RpDL h cs us → ∀ {i : Nat} {c : AV}, cs[i]? = some c → ∃ u, us[i]? = some u ∧ RpD h c u
  | [], us, e, i, c, hi => by simp at hi
  | d :: cs, us, e, i, c, hi => by
    simp only [RpDL] at e
    obtain ⟨u, us', rfl, h1, h2⟩ := e
    cases i with
    | zero => simp only [List.getElem?_cons_zero, Option.some.injEq] at hi; subst hi; exact ⟨u, by simp, h1⟩
    | succ i => simp only [List.getElem?_cons_succ] at hi ⊢; exact h2.get hi
theorem RpDL.mk {h : GH} : ∀ {cs : List AV} {us : List Value}, cs.length = us.length → (∀ (i : Nat) (c : AV) (u : Value), cs[i]? = some c → us[i]? = some u → RpD h c u) → RpDL h cs us
  | [], us, e, _ => by simp only [RpDL]; exact List.eq_nil_of_length_eq_zero (by simpa using e.symm)
  | d :: cs, [], e, _ => by simp at e
  | d :: cs, u :: us, e, hh => by
    simp only [RpDL]
    exact ⟨u, us, rfl, hh 0 d u (by simp) (by simp), RpDL.mk (by simpa using e) fun i c x hc hx => hh (i + 1) c x (by simpa using hc) (by simpa using hx)⟩
theorem RpDC.get {h : GH} {b : Nat} : ∀ {cs : List AV} {o : Nat}, RpDC h b cs o → ∀ {i : Nat} {c : AV}, cs[i]? = some c → ∃ u, closedA c = true ∧ cellG h b (o + i) = some u ∧ RpD h c u
  | [], _, _, i, c, hi => by simp at hi
  | d :: cs, o, e, i, c, hi => by
    simp only [RpDC] at e
    obtain ⟨⟨u, hc, h0, h1⟩, h2⟩ := e
    cases i with
    | zero => simp only [List.getElem?_cons_zero, Option.some.injEq] at hi; subst hi; exact ⟨u, hc, h0, h1⟩
    | succ i => simp only [List.getElem?_cons_succ] at hi; obtain ⟨u', c0, a, b⟩ := h2.get hi; exact ⟨u', c0, by rw [← a]; congr 1; omega, b⟩
theorem RpDC.mk {h : GH} {b : Nat} : ∀ {cs : List AV} {o : Nat}, (∀ (i : Nat) (c : AV), cs[i]? = some c → ∃ u, closedA c = true ∧ cellG h b (o + i) = some u ∧ RpD h c u) → RpDC h b cs o
  | [], _, _ => by simp [RpDC]
  | d :: cs, o, hh => by
    simp only [RpDC]
    exact ⟨hh 0 d (by simp), RpDC.mk fun i c hc => by obtain ⟨u, h0, h1, h2⟩ := hh (i + 1) c (by simpa using hc); exact ⟨u, h0, by rw [← h1]; congr 1; omega, h2⟩⟩
theorem RpDC.drop {h : GH} {b : Nat} {cs : List AV} {o : Nat} (a : RpDC h b cs o) (n : Nat) : RpDC h b (cs.drop n) (o + n) :=
  RpDC.mk fun i c hc => by
    rw [List.getElem?_drop] at hc
    obtain ⟨u, h0, h1, h2⟩ := a.get hc
    exact ⟨u, h0, by rw [← h1]; congr 1; omega, h2⟩
theorem RpDE.get {h : GH} {b k : Nat} : ∀ {es : List (List AV)} {o : Nat}, RpDE h b k es o → ∀ {j : Nat} {e : List AV}, es[j]? = some e → e.length = k ∧ RpDC h b e (o + j * k)
  | [], _, _, j, e, hj => by simp at hj
  | d :: es, o, hh, j, e, hj => by
    simp only [RpDE] at hh
    cases j with
    | zero => simp only [List.getElem?_cons_zero, Option.some.injEq] at hj; subst hj; exact ⟨hh.1, by simpa using hh.2.1⟩
    | succ j => simp only [List.getElem?_cons_succ] at hj; obtain ⟨h1, h2⟩ := hh.2.2.get hj; exact ⟨h1, by rw [show o + (j + 1) * k = o + k + j * k from by rw [Nat.succ_mul]; omega]; exact h2⟩
theorem RpDE.mk {h : GH} {b k : Nat} : ∀ {es : List (List AV)} {o : Nat}, (∀ (j : Nat) (e : List AV), es[j]? = some e → e.length = k ∧ RpDC h b e (o + j * k)) → RpDE h b k es o
  | [], _, _ => by simp [RpDE]
  | d :: es, o, hh => by
    simp only [RpDE]
    obtain ⟨h1, h2⟩ := hh 0 d (by simp)
    exact ⟨h1, by simpa using h2, RpDE.mk fun j e hj => by obtain ⟨h3, h4⟩ := hh (j + 1) e (by simpa using hj); exact ⟨h3, by rw [show o + (j + 1) * k = o + k + j * k from by rw [Nat.succ_mul]; omega] at h4; exact h4⟩⟩
end Hud
