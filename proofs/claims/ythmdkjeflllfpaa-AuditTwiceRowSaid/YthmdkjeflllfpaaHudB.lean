/- The objects that a function owns, what stays of a world, and what a contract says. No program in sight. -/
import Derived.Test.YthmdkjeflllfpaaHudA
set_option linter.all false
namespace Hud
open Go

/-- A box of cells; an array whose first elements are known (closed ones, of k cells each); a map: its keys' cells, its values, when each entry was made, the next time. -/
inductive AObj where
  | box (cs : List AV)
  | arr (k : Nat) (es : List (List AV))
  | map (ag : Bool) (ks : List (List Value)) (vs : List AV) (bs : List Nat) (cl : Nat)
  deriving Inhabited

abbrev Tab := List (Option AObj)

def blk : Value → Option Nat
  | .pointer (some a) => some a.block
  | .slice (some a) _ _ => some a.block
  | .map (some g) => some g
  | _ => none

def keyV (ag : Bool) (xs : List Value) : Value := if ag then .agg xs.toArray else xs.getD 0 undef

def objAt (h : GH) (φ : Nat → Value) (n : Nat) (w : World) (i : Nat) : AObj → Prop
  | .box cs => ∃ (g : Nat) (us : Array Value) (E : TypeId), φ i = .pointer (some ⟨g, 0, none⟩) ∧ w.heap[g]? = some (.cells us E (0, 0)) ∧ h g = none ∧ RpL h φ n cs us.toList
  | .arr k es => (∀ e ∈ es, e.length = k ∧ ∀ c ∈ e, closedA c = true) ∧ ((φ i = .slice none 0 0 ∧ es = []) ∨
      ∃ (g c : Nat) (cur : Array Value) (E : TypeId), φ i = .slice (some ⟨g, 0, none⟩) es.length c ∧ w.heap[g]? = some (.cells cur E (0, 0)) ∧ es.length ≤ c ∧ c ≤ maxLen ∧ cur.size = c * k ∧ h g = none ∧
        RpDL h es.flatten (cur.toList.take (es.length * k)))
  | .map ag ks vs bs cl => ∃ (g : Nat) (ens : Array MapEntry), φ i = .map (some g) ∧ w.heap[g]? = some (.map ens cl) ∧ h g = none ∧
      ens.toList.map (·.key) = ks.map (keyV ag) ∧ ens.toList.map (·.born) = bs ∧ RpL h φ n vs (ens.toList.map (·.val))

structure Inv (h : GH) (φ : Nat → Value) (w : World) (T : Tab) : Prop where
  gh : ∀ b cs, h b = some cs → ∃ E fr, w.heap[b]? = some (.cells cs E fr)
  obj : ∀ i o, T[i]? = some (some o) → objAt h φ T.length w i o
  dis : ∀ i j oi oj b, T[i]? = some (some oi) → T[j]? = some (some oj) → blk (φ i) = some b → blk (φ j) = some b → i = j

structure Evo (h : GH) (φ : Nat → Value) (T : Tab) (w : World) (h' : GH) (φ' : Nat → Value) (T' : Tab) (w' : World) : Prop where
  os : w'.os = w.os
  tape : w'.tape = w.tape
  output : w'.output = w.output
  size : w.heap.size ≤ w'.heap.size
  frame : ∀ b, b < w.heap.size → (∀ i o, T[i]? = some (some o) → blk (φ i) ≠ some b) → w'.heap[b]? = w.heap[b]?
  le : GLe h h'
  gfr : ∀ b cs, h' b = some cs → h b = some cs ∨ w.heap.size ≤ b ∨ ∃ i o, T[i]? = some (some o) ∧ blk (φ i) = some b
  phi : ∀ i, i < T.length → φ' i = φ i
  org : ∀ i o b, T'[i]? = some (some o) → blk (φ' i) = some b → w.heap.size ≤ b ∨ ∃ j oj, T[j]? = some (some oj) ∧ blk (φ j) = some b
  len : T.length ≤ T'.length
  drawn : w.drawn ≤ w'.drawn

theorem Evo.refl {h : GH} {φ : Nat → Value} {T : Tab} {w : World} : Evo h φ T w h φ T w :=
  ⟨rfl, rfl, rfl, Nat.le_refl _, fun _ _ _ => rfl, GLe.refl h, fun _ _ e => .inl e, fun _ _ => rfl, fun i o b hi hb => .inr ⟨i, o, hi, hb⟩, Nat.le_refl _, Nat.le_refl _⟩

theorem Evo.trans {h0 h1 h2 : GH} {φ0 φ1 φ2 : Nat → Value} {T0 T1 T2 : Tab} {w0 w1 w2 : World} (a : Evo h0 φ0 T0 w0 h1 φ1 T1 w1) (b : Evo h1 φ1 T1 w1 h2 φ2 T2 w2) :
    Evo h0 φ0 T0 w0 h2 φ2 T2 w2 where
  os := b.os.trans a.os
  tape := b.tape.trans a.tape
  output := b.output.trans a.output
  size := Nat.le_trans a.size b.size
  frame := fun g hg hn => by
    rw [b.frame g (Nat.lt_of_lt_of_le hg a.size) (fun i o hi hb => ?_), a.frame g hg hn]
    rcases a.org i o g hi hb with h | ⟨j, oj, hj, hbj⟩
    · omega
    · exact hn j oj hj hbj
  le := a.le.trans b.le
  gfr := fun g cs hg => by
    rcases b.gfr g cs hg with h | h | ⟨i, o, hi, hb⟩
    · exact a.gfr g cs h
    · exact .inr (.inl (Nat.le_trans a.size h))
    · exact .inr (a.org i o g hi hb)
  phi := fun i hi => (b.phi i (Nat.lt_of_lt_of_le hi a.len)).trans (a.phi i hi)
  org := fun i o g hi hb => by
    rcases b.org i o g hi hb with h | ⟨j, oj, hj, hbj⟩
    · exact .inl (Nat.le_trans a.size h)
    · exact a.org j oj g hj hbj
  len := Nat.le_trans a.len b.len
  drawn := Nat.le_trans a.drawn b.drawn

/-- What stands in the package-level variables that are known. -/
def GOk (G : Nat → Option (List AV)) (h : GH) : Prop := ∀ g cs, G g = some cs → RpDC h g cs 0
theorem GOk.mono {G : Nat → Option (List AV)} {h h' : GH} (a : GOk G h) (g : GLe h h') : GOk G h' := fun i cs e => (a i cs e).mono g

/-- What is handed back: it stands for an abstract value, beside objects, such as 'post' says. -/
def Ret (h : GH) (φ : Nat → Value) (T : Tab) (w : World) (post : AV → Tab → Prop) (v : Value) (w' : World) : Prop :=
  ∃ r T' h' φ', post r T' ∧ Evo h φ T w h' φ' T' w' ∧ Inv h' φ' w' T' ∧ Rp h' φ' T'.length r v

/-- THE CONTRACT: called with such values, with such objects: it returns, 'post' holds of what it returns and of the objects behind it. -/
def CallOk (P : Program) (G : Nat → Option (List AV)) (f : FuncId) (args : List AV) (T : Tab) (post : AV → Tab → Prop) : Prop :=
  ∀ (h : GH) (φ : Nat → Value) (w : World) (vals : Array Value), GOk G h → Inv h φ w T → RpL h φ T.length args vals.toList →
    ((callFunc f vals).run P w = .ok (.enter f vals) w ∧ Calls P f vals w (fun e w' => ∃ v, e = .returned v ∧ Ret h φ T w post v w')) ∨
    (∃ v w', (callFunc f vals).run P w = .ok (.value v) w' ∧ Ret h φ T w post v w')

theorem Ret.mono {h : GH} {φ : Nat → Value} {T : Tab} {w : World} {p q : AV → Tab → Prop} {v : Value} {w' : World} (a : Ret h φ T w p v w') (hpq : ∀ r T', p r T' → q r T') : Ret h φ T w q v w' :=
  let ⟨r, T', h', φ', e1, e2⟩ := a
  ⟨r, T', h', φ', hpq _ _ e1, e2⟩
theorem CallOk.mono {P : Program} {G : Nat → Option (List AV)} {f : FuncId} {args : List AV} {T : Tab} {p q : AV → Tab → Prop} (a : CallOk P G f args T p) (hpq : ∀ r T', p r T' → q r T') :
    CallOk P G f args T q := fun h φ w vals hG hI hA =>
  (a h φ w vals hG hI hA).imp (fun ⟨e, c⟩ => ⟨e, c.mono fun _ _ ⟨v, e1, e2⟩ => ⟨v, e1, e2.mono hpq⟩⟩) (fun ⟨v, w', e, c⟩ => ⟨v, w', e, c.mono hpq⟩)
end Hud
