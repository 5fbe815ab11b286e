/- Operations on maps. -/
import Derived.Test.YthmdkjeflllfpaaHudQa
import Derived.Test.YthmdkjeflllfpaaHudQ1
set_option linter.all false
namespace Hud
open Go

def compOp3 (P : Program) (o : Oper) : Option HOp :=
  match o.op with
  | .makeMap t none => match P.underlying t with
    | some (.map kt _) => match kindsT P 20 kt with
      | some (ag, _) => some (.mkm ag)
      | none => none
    | _ => none
  | .lookup t m k ok => match P.underlying t with
    | some (.map kt et) => match kindsT P 20 kt, P.info? et with
      | some (ag, ls), some i => match i.zero with
        | some z => some (.lku ag ls z m k ok)
        | none => none
      | _, _ => none
    | _ => none
  | .mapUpdate t m k x => match P.underlying t with
    | some (.map kt _) => match kindsT P 20 kt with
      | some (ag, ls) => some (.mup ag ls m k x)
      | none => none
    | _ => none
  | .insert t m k x => match P.underlying t with
    | some (.map kt _) => match kindsT P 20 kt with
      | some (ag, ls) => some (.mup ag ls m k x)
      | none => none
    | _ => none
  | .call c => match c.callee, c.args.toList, c.argTypes[0]? with
    | .builtin .len, [x], some t => match P.underlying t with
      | some (.map _ _) => some (.lenM x)
      | _ => none
    | _, _, _ => none
  | _ => none

def compOp (P : Program) (o : Oper) : Option HOp :=
  match compOp1 P o with
  | some h => some h
  | none => match compOp2 P o with
    | some h => some h
    | none => compOp3 P o

section
variable {P : Program} {G : Nat → Option (List AV)} {h : GH} {φ : Nat → Value} {w : World} {a : Act} {st : St} {K : AV → Tab → Prop} {next : Act → World → Prop} {Q : Exit → Act → World → Prop}

theorem op_sound3 {o : Oper} {ho : HOp} (hc : compOp3 P o = some ho) (hw : opW P G st ho K) (hG : GOk G h) (hI : Inv h φ w st.T) (hS : SOk h φ st.T.length st.s a)
    (hn : ∀ v w', Ret h φ st.T w K v w' → next (a.put o.dst v) w') : o.wp P a w next Q := by
  have pure_op : ∀ {sv : Sem Value} (_ : execOp a.eval o = (do pure (.value (← sv)))) (_ : ∀ f l, ho ≠ .call f l) (_ : ∀ x T', hop st.T (evO G st.s) ho = some (x, T') → T' = st.T ∧ ∃ v, sv.run P w = .ok v w ∧ Rp h φ st.T.length x v), o.wp P a w next Q := by
    intro sv he hcall hrun
    obtain ⟨x, T', e, hk⟩ := hopW hcall hw
    obtain ⟨rfl, v, h1, h2⟩ := hrun x T' e
    exact val_wp he h1 (hn v w (ret_pure hI h2 hk))
  have make_op : ∀ {sv : Sem Value} (_ : execOp a.eval o = (do pure (.value (← sv)))) (_ : ∀ f l, ho ≠ .call f l) (_ : ∀ x T', hop st.T (evO G st.s) ho = some (x, T') → Makes h φ st.T w (sv.run P w) x T'), o.wp P a w next Q := by
    intro sv he hcall hrun
    obtain ⟨x, T', e, hk⟩ := hopW hcall hw
    obtain ⟨v, w', h1, h2⟩ := ret_makes (hrun x T' e) hk
    exact val_wp he h1 (hn v w' h2)
  have unit_op : ∀ {su : Sem Unit} (_ : execOp a.eval o = (do su; pure .skip)) (_ : ∀ f l, ho ≠ .call f l) (_ : ∀ x T', hop st.T (evO G st.s) ho = some (x, T') → ∃ w', su.run P w = .ok () w' ∧ x = .v undef ∧ Evo h φ st.T w h φ T' w' ∧ Inv h φ w' T'), o.wp P a w next Q := by
    intro su he hcall hrun
    obtain ⟨x, T', e, hk⟩ := hopW hcall hw
    obtain ⟨w', h1, rfl, h2, h3⟩ := hrun x T' e
    unfold Oper.wp
    rw [he]
    simp only [Sem.run_bind, h1, Result.andThen_ok, Sem.run_pure]
    exact hn undef w' ⟨_, T', h, φ, hk, h2, h3, by simp [Rp]⟩
  obtain ⟨dst, op, ty, pos, after, guard⟩ := o
  unfold compOp3 at hc
  simp only at hc
  split at hc
  · rename_i t
    split at hc
    · rename_i kt et ht
      split at hc
      · rename_i ag ls hk
        injection hc with hc
        subst hc
        refine make_op (sv := Instr.makeMap t none) rfl (by simp) fun x T' he => ?_
        simp only [hop, Option.some.injEq, Prod.mk.injEq] at he
        obtain ⟨rfl, rfl⟩ := he
        exact mkm_makes hI t ag
      · simp at hc
    · simp at hc
  · rename_i t m k ok
    split at hc
    · rename_i kt et ht
      split at hc
      · rename_i ag ls i hk hi
        split at hc
        · rename_i z hz
          injection hc with hc
          subst hc
          exact pure_op (sv := Instr.lookup t (a.eval m) (a.eval k) ok) rfl (by simp) fun y T' he => lku_gives ht hk hi hz hG hI hS he
        · simp at hc
      · simp at hc
    · simp at hc
  · rename_i t m k x
    split at hc
    · rename_i kt et ht
      split at hc
      · rename_i ag ls hk
        injection hc with hc
        subst hc
        exact unit_op (su := Instr.mapUpdate t (a.eval m) (a.eval k) (a.eval x)) rfl (by simp) fun y T' he => mup_makes ht hk hG hI hS he
      · simp at hc
    · simp at hc
  · rename_i t m k x
    split at hc
    · rename_i kt et ht
      split at hc
      · rename_i ag ls hk
        injection hc with hc
        subst hc
        exact unit_op (su := Instr.mapUpdate t (a.eval m) (a.eval k) (a.eval x)) rfl (by simp) fun y T' he => mup_makes ht hk hG hI hS he
      · simp at hc
    · simp at hc
  · rename_i c
    obtain ⟨callee, args, argTypes⟩ := c
    simp only at hc
    split at hc
    · rename_i x t hargs hts
      have ha : args = #[x] := Array.toList_inj.1 (by rw [hargs])
      subst ha
      split at hc
      · rename_i kt et ht
        injection hc with hc
        subst hc
        exact pure_op (sv := Builtin.len_ argTypes ty #[a.eval x]) (by simp [execOp, resolve, invoke, builtin]) (by simp) fun y T' he => lenM_gives ht hts hG hI hS he
      · simp at hc
    · simp at hc
  · simp at hc

theorem op_sound {o : Oper} {ho : HOp} (hc : compOp P o = some ho) (hw : opW P G st ho K) (hG : GOk G h) (hI : Inv h φ w st.T) (hS : SOk h φ st.T.length st.s a)
    (hn : ∀ v w', Ret h φ st.T w K v w' → next (a.put o.dst v) w') : o.wp P a w next Q := by
  unfold compOp at hc
  split at hc
  · rename_i h1 e
    injection hc with hc
    subst hc
    exact op_sound1 e hw hG hI hS hn
  · split at hc
    · rename_i h1 e
      injection hc with hc
      subst hc
      exact op_sound2 e hw hG hI hS hn
    · exact op_sound3 hc hw hG hI hS hn
end
end Hud
