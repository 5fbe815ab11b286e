import Derived.Test.YtialbdgcgiaebaaGreatLib05
import Derived.OrdersIn
import Derived.TacticsIn
import Derived.RangeFuncRecord
set_option linter.all false
section
namespace Hud
open Go
def compOp3 (P : Program) (o : Oper) : Option HOp :=
  match o.op with
  | .makeMap t none => match P.underlying t with
    | some (.map kt _) => match kindsT P 20 kt with
      | some (ag, _) => some (.mkm ag)
      | none => none
    | _ => none
  | .lookup t m k ok => match P.underlying t with
    | some (.map kt et) => match kindsT P 20 kt, P.info? et with
      | some (ag, ls), some i => match i.zero with
        | some z => some (.lku ag ls z m k ok)
        | none => none
      | _, _ => none
    | _ => none
  | .mapUpdate t m k x => match P.underlying t with
    | some (.map kt _) => match kindsT P 20 kt with
      | some (ag, ls) => some (.mup ag ls m k x)
      | none => none
    | _ => none
  | .insert t m k x => match P.underlying t with
    | some (.map kt _) => match kindsT P 20 kt with
      | some (ag, ls) => some (.mup ag ls m k x)
      | none => none
    | _ => none
  | .call c => match c.callee, c.args.toList, c.argTypes[0]? with
    | .builtin .len, [x], some t => match P.underlying t with
      | some (.map _ _) => some (.lenM x)
      | _ => none
    | _, _, _ => none
  | _ => none
def compOp4 (P : Program) (o : Oper) : Option HOp :=
  match o.op with
  | .buildSlice t len parts => match P.underlying t with
    | some (.slice e) => match P.info? e with
      | some i => if len = 0 ∧ parts.size = 0 then some (.bsl i.size [] [] 0) else none
      | none => none
    | _ => none
  | .makeSlice t x y => match P.underlying t with
    | some (.slice e) => match P.info? e with
      | some i => match i.zero with
        | some z => if z.cells.size = i.size ∧ 0 < i.size ∧ (z.cells.toList.all fun x => closedA (.v x)) = true then some (.mks i.size z.cells.toList i.bytes x y) else none
        | none => none
      | none => none
    | _ => none
  | .convert src d x => match P.underlying src, P.underlying d with
    | some .string, some (.slice e) => match P.underlying e with
      | some (.int .u8) => some (.s2b x)
      | _ => none
    | some (.slice e), some .string => match P.underlying e with
      | some (.int .u8) => some (.b2s x)
      | _ => none
    | _, _ => none
  | .slice t x lo (some hi) (some mx) => match P.underlying t with
    | some (.slice e) => match sizeT P e with
      | some k => some (.slx x lo hi mx k)
      | none => none
    | _ => none
  | .mapEntry t m k => match P.underlying t with
    | some (.map kt et) => match kindsT P 20 kt, P.info? et with
      | some (ag, ls), some i => match i.zero with
        | some z => some (.men ag ls z m k)
        | none => none
      | _, _ => none
    | _ => none
  | .entryStore _ m s x => some (.mst m s x)
  | .call c => match c.callee, c.args.toList, c.argTypes[0]? with
    | .builtin .delete, [m, k], some t => match P.underlying t with
      | some (.map kt _) => match kindsT P 20 kt with
        | some (ag, ls) => some (.del ag ls m k)
        | none => none
      | _ => none
    | _, _, _ => none
  | _ => none
def compOp5 (P : Program) (o : Oper) : Option HOp :=
  match o.op with
  | .makeFunc (.func f) first caps => some (.bmo f first.size (first.toList ++ caps.toList))
  | .range t m => match P.underlying t with
    | some (.map _ _) => some (.rgm m)
    | _ => none
  | .next it false => some (.nxt it)
  | .entry it => some (.ent it)
  | .panic _ => some .bad
  | .makeInterface _ _ => some .bad
  | .call c => match c.callee, c.args.toList, c.argTypes.toList with
    | .builtin .clear, [x], [t] => match P.underlying t with
      | some (.slice e) => match P.info? e with
        | some i => match i.zero with
          | some z => if z.cells.size = i.size ∧ 0 < i.size ∧ (z.cells.toList.all fun v => oneC (.v v)) = true then some (.clr x i.size z.cells.toList) else none
          | none => none
        | none => none
      | _ => none
    | _, _, _ => none
  | _ => none
def compOp (P : Program) (o : Oper) : Option HOp :=
  match compOp1 P o with
  | some h => some h
  | none => match compOp2 P o with
    | some h => some h
    | none => match compOp3 P o with
      | some h => some h
      | none => match compOp4 P o with
        | some h => some h
        | none => compOp5 P o
section
variable {P : Program} {G : Nat → Option (List AV)} {h : GH} {φ : Nat → Value} {w : World} {a : Act} {st : St} {K : AV → Tab → Prop} {next : Act → World → Prop} {Q : Exit → Act → World → Prop}
theorem op_sound3 {o : Oper} {ho : HOp} (hc : compOp3 P o = some ho) (hw : opW P G st ho K) (hG : GOk G h) (hI : Inv h φ w st.T) (hS : SOk h φ st.T.length st.s a)
    (hn : ∀ v w', Ret h φ st.T w K v w' → next (a.put o.dst v) w') : OpOk P o a w next := by
  have pure_op : ∀ {sv : Sem Value} (_ : execOp a.eval o = (do pure (.value (← sv)))) (_ : (∀ f l, ho ≠ .call f l) ∧ (∀ p, ho ≠ .nxt p) ∧ ∀ n k x, ho ≠ .nilS n k x) (_ : ∀ x T', hop st.T (evO G st.s) ho = some (x, T') → T' = st.T ∧ ∃ v, sv.run P w = .ok v w ∧ Rp h φ st.T.length x v), OpOk P o a w next := by
    intro sv he hcall hrun
    obtain ⟨x, T', e, hk⟩ := hopW hcall hw
    obtain ⟨rfl, v, h1, h2⟩ := hrun x T' e
    exact val_wp he h1 (hn v w (ret_pure hI h2 hk))
  have make_op : ∀ {sv : Sem Value} (_ : execOp a.eval o = (do pure (.value (← sv)))) (_ : (∀ f l, ho ≠ .call f l) ∧ (∀ p, ho ≠ .nxt p) ∧ ∀ n k x, ho ≠ .nilS n k x) (_ : ∀ x T', hop st.T (evO G st.s) ho = some (x, T') → Makes h φ st.T w (sv.run P w) x T'), OpOk P o a w next := by
    intro sv he hcall hrun
    obtain ⟨x, T', e, hk⟩ := hopW hcall hw
    obtain ⟨v, w', h1, h2⟩ := ret_makes (hrun x T' e) hk
    exact val_wp he h1 (hn v w' h2)
  have unit_op : ∀ {su : Sem Unit} (_ : execOp a.eval o = (do su; pure .skip)) (_ : (∀ f l, ho ≠ .call f l) ∧ (∀ p, ho ≠ .nxt p) ∧ ∀ n k x, ho ≠ .nilS n k x) (_ : ∀ x T', hop st.T (evO G st.s) ho = some (x, T') → ∃ w', su.run P w = .ok () w' ∧ x = .v undef ∧ Evo h φ st.T w h φ T' w' ∧ Inv h φ w' T'), OpOk P o a w next := by
    intro su he hcall hrun
    obtain ⟨x, T', e, hk⟩ := hopW hcall hw
    obtain ⟨w', h1, rfl, h2, h3⟩ := hrun x T' e
    unfold OpOk
    rw [he]
    simp only [Sem.run_bind, h1, Result.andThen_ok, Sem.run_pure]
    exact hn undef w' ⟨_, T', h, φ, hk, h2, h3, by simp [Rp]⟩
  obtain ⟨dst, op, ty, pos, after, guard⟩ := o
  unfold compOp3 at hc
  simp only at hc
  split at hc
  · rename_i t
    split at hc
    · rename_i kt et ht
      split at hc
      · rename_i ag ls hk
        injection hc with hc
        subst hc
        refine make_op (sv := Instr.makeMap t none) rfl (by simp) fun x T' he => ?_
        simp only [hop, Option.some.injEq, Prod.mk.injEq] at he
        obtain ⟨rfl, rfl⟩ := he
        exact mkm_makes hI t ag
      · simp at hc
    · simp at hc
  · rename_i t m k ok
    split at hc
    · rename_i kt et ht
      split at hc
      · rename_i ag ls i hk hi
        split at hc
        · rename_i z hz
          injection hc with hc
          subst hc
          exact pure_op (sv := Instr.lookup t (a.eval m) (a.eval k) ok) rfl (by simp) fun y T' he => lku_gives ht hk hi hz hG hI hS he
        · simp at hc
      · simp at hc
    · simp at hc
  · rename_i t m k x
    split at hc
    · rename_i kt et ht
      split at hc
      · rename_i ag ls hk
        injection hc with hc
        subst hc
        exact unit_op (su := Instr.mapUpdate t (a.eval m) (a.eval k) (a.eval x)) rfl (by simp) fun y T' he => mup_makes ht hk hG hI hS he
      · simp at hc
    · simp at hc
  · rename_i t m k x
    split at hc
    · rename_i kt et ht
      split at hc
      · rename_i ag ls hk
        injection hc with hc
        subst hc
        exact unit_op (su := Instr.mapUpdate t (a.eval m) (a.eval k) (a.eval x)) rfl (by simp) fun y T' he => mup_makes ht hk hG hI hS he
      · simp at hc
    · simp at hc
  · rename_i c
    obtain ⟨callee, args, argTypes⟩ := c
    simp only at hc
    split at hc
    · rename_i x t hargs hts
      have ha : args = #[x] := Array.toList_inj.1 (by rw [hargs])
      subst ha
      split at hc
      · rename_i kt et ht
        injection hc with hc
        subst hc
        exact pure_op (sv := Builtin.len_ argTypes ty #[a.eval x]) (by simp [execOp, resolve, invoke, builtin]) (by simp) fun y T' he => lenM_gives ht hts hG hI hS he
      · simp at hc
    · simp at hc
  · simp at hc
theorem op_sound4 {o : Oper} {ho : HOp} (hc : compOp4 P o = some ho) (hw : opW P G st ho K) (hG : GOk G h) (hI : Inv h φ w st.T) (hS : SOk h φ st.T.length st.s a)
    (hn : ∀ v w', Ret h φ st.T w K v w' → next (a.put o.dst v) w') : OpOk P o a w next := by
  have pure_op : ∀ {sv : Sem Value} (_ : execOp a.eval o = (do pure (.value (← sv)))) (_ : (∀ f l, ho ≠ .call f l) ∧ (∀ p, ho ≠ .nxt p) ∧ ∀ n k x, ho ≠ .nilS n k x) (_ : ∀ x T', hop st.T (evO G st.s) ho = some (x, T') → T' = st.T ∧ ∃ v, sv.run P w = .ok v w ∧ Rp h φ st.T.length x v), OpOk P o a w next := by
    intro sv he hcall hrun
    obtain ⟨x, T', e, hk⟩ := hopW hcall hw
    obtain ⟨rfl, v, h1, h2⟩ := hrun x T' e
    exact val_wp he h1 (hn v w (ret_pure hI h2 hk))
  have make_op : ∀ {sv : Sem Value} (_ : execOp a.eval o = (do pure (.value (← sv)))) (_ : (∀ f l, ho ≠ .call f l) ∧ (∀ p, ho ≠ .nxt p) ∧ ∀ n k x, ho ≠ .nilS n k x) (_ : ∀ x T', hop st.T (evO G st.s) ho = some (x, T') → Makes h φ st.T w (sv.run P w) x T'), OpOk P o a w next := by
    intro sv he hcall hrun
    obtain ⟨x, T', e, hk⟩ := hopW hcall hw
    obtain ⟨v, w', h1, h2⟩ := ret_makes (hrun x T' e) hk
    exact val_wp he h1 (hn v w' h2)
  have unit_op : ∀ {su : Sem Unit} (_ : execOp a.eval o = (do su; pure .skip)) (_ : (∀ f l, ho ≠ .call f l) ∧ (∀ p, ho ≠ .nxt p) ∧ ∀ n k x, ho ≠ .nilS n k x) (_ : ∀ x T', hop st.T (evO G st.s) ho = some (x, T') → ∃ w', su.run P w = .ok () w' ∧ x = .v undef ∧ Evo h φ st.T w h φ T' w' ∧ Inv h φ w' T'), OpOk P o a w next := by
    intro su he hcall hrun
    obtain ⟨x, T', e, hk⟩ := hopW hcall hw
    obtain ⟨w', h1, rfl, h2, h3⟩ := hrun x T' e
    unfold OpOk
    rw [he]
    simp only [Sem.run_bind, h1, Result.andThen_ok, Sem.run_pure]
    exact hn undef w' ⟨_, T', h, φ, hk, h2, h3, by simp [Rp]⟩
  obtain ⟨dst, op, ty, pos, after, guard⟩ := o
  unfold compOp4 at hc
  simp only at hc
  split at hc
  · rename_i t len parts
    split at hc
    · rename_i e ht
      split at hc
      · rename_i i hi
        split at hc
        · rename_i hcs
          obtain ⟨rfl, hp⟩ := hcs
          have : parts = #[] := Array.eq_empty_of_size_eq_zero hp
          subst this
          injection hc with hc
          subst hc
          exact make_op (sv := Instr.buildSlice t 0 #[]) (by simp [execOp]) (by simp) fun y T' he => bsl0_makes ht hi hI he
        · simp at hc
      · simp at hc
    · simp at hc
  · rename_i t x y
    split at hc
    · rename_i e ht
      split at hc
      · rename_i i hi
        split at hc
        · rename_i z hz
          split at hc
          · rename_i hcs
            injection hc with hc
            subst hc
            exact make_op (sv := Instr.makeSlice t (a.eval x) (a.eval y)) rfl (by simp) fun y T' he => mks_makes ht hi hz hcs.1 hcs.2.1 hcs.2.2 hG hI hS he
          · simp at hc
        · simp at hc
      · simp at hc
    · simp at hc
  · rename_i src d x
    split at hc
    · rename_i e hs hd
      split at hc
      · rename_i hu8
        injection hc with hc
        subst hc
        exact make_op (sv := convert src d (a.eval x)) rfl (by simp) fun y T' he => s2b_makes hs hd hu8 hG hI hS he
      · simp at hc
    · rename_i e hs hd
      split at hc
      · rename_i hu8
        injection hc with hc
        subst hc
        exact pure_op (sv := convert src d (a.eval x)) rfl (by simp) fun y T' he => b2s_gives hs hd hu8 hG hI hS he
      · simp at hc
    · simp at hc
  · rename_i t x lo hi mx
    split at hc
    · rename_i e ht
      split at hc
      · rename_i k hk
        injection hc with hc
        subst hc
        exact make_op (sv := Instr.sliceAt t (a.eval x) (lo.map a.eval) (some (a.eval hi)) (some (a.eval mx))) rfl (by simp) fun y T' he => slx_makes ht hk hG hI hS he
      · simp at hc
    · simp at hc
  · rename_i t m k
    split at hc
    · rename_i kt et ht
      split at hc
      · rename_i ag ls i hk hi
        split at hc
        · rename_i z hz
          injection hc with hc
          subst hc
          exact make_op (sv := Instr.mapEntry t (a.eval m) (a.eval k)) rfl (by simp) fun y T' he => men_makes ht hk hi hz hG hI hS he
        · simp at hc
      · simp at hc
    · simp at hc
  · rename_i t m k x
    injection hc with hc
    subst hc
    exact unit_op (su := Instr.entryStore t (a.eval m) (a.eval k) (a.eval x)) rfl (by simp) fun y T' he => mst_makes hG hI hS he
  · rename_i c
    obtain ⟨callee, args, argTypes⟩ := c
    simp only at hc
    split at hc
    · rename_i m k t hargs hts
      have ha : args = #[m, k] := Array.toList_inj.1 (by rw [hargs])
      subst ha
      split at hc
      · rename_i kt et ht
        split at hc
        · rename_i ag ls hk
          injection hc with hc
          subst hc
          exact make_op (sv := Builtin.delete_ argTypes ty #[a.eval m, a.eval k]) (by simp [execOp, resolve, invoke, builtin]) (by simp) fun y T' he => del_makes ht hk hts hG hI hS he
        · simp at hc
      · simp at hc
    · simp at hc
  · simp at hc
theorem op_sound5 {o : Oper} {ho : HOp} (hc : compOp5 P o = some ho) (hw : opW P G st ho K) (hG : GOk G h) (hI : Inv h φ w st.T) (hS : SOk h φ st.T.length st.s a)
    (hn : ∀ v w', Ret h φ st.T w K v w' → next (a.put o.dst v) w') : OpOk P o a w next := by
  have pure_op : ∀ {sv : Sem Value} (_ : execOp a.eval o = (do pure (.value (← sv)))) (_ : (∀ f l, ho ≠ .call f l) ∧ (∀ p, ho ≠ .nxt p) ∧ ∀ n k x, ho ≠ .nilS n k x) (_ : ∀ x T', hop st.T (evO G st.s) ho = some (x, T') → T' = st.T ∧ ∃ v, sv.run P w = .ok v w ∧ Rp h φ st.T.length x v), OpOk P o a w next := by
    intro sv he hcall hrun
    obtain ⟨x, T', e, hk⟩ := hopW hcall hw
    obtain ⟨rfl, v, h1, h2⟩ := hrun x T' e
    exact val_wp he h1 (hn v w (ret_pure hI h2 hk))
  have make_op : ∀ {sv : Sem Value} (_ : execOp a.eval o = (do pure (.value (← sv)))) (_ : (∀ f l, ho ≠ .call f l) ∧ (∀ p, ho ≠ .nxt p) ∧ ∀ n k x, ho ≠ .nilS n k x) (_ : ∀ x T', hop st.T (evO G st.s) ho = some (x, T') → Makes h φ st.T w (sv.run P w) x T'), OpOk P o a w next := by
    intro sv he hcall hrun
    obtain ⟨x, T', e, hk⟩ := hopW hcall hw
    obtain ⟨v, w', h1, h2⟩ := ret_makes (hrun x T' e) hk
    exact val_wp he h1 (hn v w' h2)
  obtain ⟨dst, op, ty, pos, after, guard⟩ := o
  unfold compOp5 at hc
  simp only at hc
  split at hc
  · rename_i f first caps
    injection hc with hc
    subst hc
    refine pure_op (sv := pure (.func (.func f) (first.map a.eval) (caps.map a.eval))) (by simp [execOp, Instr.makeFunc]) (by simp) fun y T' he => ?_
    simp only [hop, Option.some.injEq, Prod.mk.injEq] at he
    obtain ⟨rfl, rfl⟩ := he
    refine ⟨rfl, _, rfl, ?_⟩
    simp only [Rp]
    refine ⟨(first ++ caps).map a.eval, ?_, ?_⟩
    · have h1 : (first ++ caps).map a.eval = (first.map a.eval) ++ (caps.map a.eval) := by simp
      have h2 : (((first ++ caps).map a.eval).toList.take first.size).toArray = first.map a.eval := by
        apply Array.toList_inj.1
        rw [h1]
        simp only [Array.toList_append]
        rw [List.take_left' (by simp)]
      have h3 : (((first ++ caps).map a.eval).toList.drop first.size).toArray = caps.map a.eval := by
        apply Array.toList_inj.1
        rw [h1]
        simp only [Array.toList_append]
        rw [List.drop_left' (by simp)]
      rw [h2, h3]
    · simpa using evL_ok hG hS (first.toList ++ caps.toList)
  · rename_i t m
    split at hc
    · rename_i kt et ht
      injection hc with hc
      subst hc
      exact make_op (sv := Instr.range t (a.eval m)) rfl (by simp) fun y T' he => rgm_makes ht hG hI hS he
    · simp at hc
  · rename_i it
    injection hc with hc
    subst hc
    obtain ⟨v, w', h1, h2⟩ := nxt_ok hG hI hS hw ty
    exact val_wp (sv := Instr.next (a.eval it) false ty) rfl h1 (hn v w' h2)
  · rename_i it
    injection hc with hc
    subst hc
    exact pure_op (sv := Instr.entry (a.eval it)) rfl (by simp) fun y T' he => ent_gives hG hI hS he
  · injection hc with hc
    subst hc
    exact hw.elim
  · injection hc with hc
    subst hc
    exact hw.elim
  · rename_i c
    obtain ⟨callee, args, argTypes⟩ := c
    simp only at hc
    split at hc
    · rename_i x t hargs hts
      have ha : args = #[x] := Array.toList_inj.1 (by rw [hargs])
      have hb : argTypes = #[t] := Array.toList_inj.1 (by rw [hts])
      subst ha
      subst hb
      split at hc
      · rename_i e ht
        split at hc
        · rename_i i hi
          split at hc
          · rename_i z hz
            split at hc
            · rename_i hcs
              injection hc with hc
              subst hc
              exact make_op (sv := Builtin.clear_ #[t] ty #[a.eval x]) (by simp [execOp, resolve, invoke, builtin]) (by simp) fun y T' he => clr_makes ht hi hz hcs.1 hcs.2.1 hcs.2.2 hG hI hS he
            · simp at hc
          · simp at hc
        · simp at hc
      · simp at hc
    · simp at hc
  · simp at hc
theorem op_sound {o : Oper} {ho : HOp} (hc : compOp P o = some ho) (hw : opW P G st ho K) (hG : GOk G h) (hI : Inv h φ w st.T) (hS : SOk h φ st.T.length st.s a)
    (hn : ∀ v w', Ret h φ st.T w K v w' → next (a.put o.dst v) w') : OpOk P o a w next := by
  unfold compOp at hc
  split at hc
  · rename_i h1 e
    injection hc with hc
    subst hc
    exact op_sound1 e hw hG hI hS hn
  · split at hc
    · rename_i h1 e
      injection hc with hc
      subst hc
      exact op_sound2 e hw hG hI hS hn
    · split at hc
      · rename_i h1 e
        injection hc with hc
        subst hc
        exact op_sound3 e hw hG hI hS hn
      · split at hc
        · rename_i h1 e
          injection hc with hc
          subst hc
          exact op_sound4 e hw hG hI hS hn
        · exact op_sound5 hc hw hG hI hS hn
end
end Hud
end
section
namespace Hud
open Go
def compOper (P : Program) (N : Nat) (ops : Array Oper) (o : Oper) : Option HOper :=
  if o.dst.all (· < N) = false then none else
  match compOp P o with
  | none => none
  | some h => match o.guard with
    | none => some ⟨o.dst, h, none⟩
    | some (j, b) => match (ops[j]?).bind (·.dst) with
      | some d => some ⟨o.dst, h, some (d, b)⟩
      | none => none
def compOps (P : Program) (N : Nat) (ops : Array Oper) : List Oper → Option (List HOper)
  | [] => some []
  | o :: os => match compOper P N ops o, compOps P N ops os with
    | some h, some hs => some (h :: hs)
    | _, _ => none
theorem getS_del (l : List (Nat × AV)) (j i : Nat) (h : i ≠ j) : getS (delS l j) i = getS l i := by
  induction l with
  | nil => rfl
  | cons p l ih =>
    obtain ⟨k, x⟩ := p
    simp only [delS]
    split
    · rename_i hk
      subst hk
      simp only [getS]
      rw [if_neg (fun e => h e.symm)]
      exact ih
    · simp only [getS]
      split
      · rfl
      · exact ih
theorem getS_put (l : List (Nat × AV)) (j i : Nat) (x : AV) : getS (putS l j x) i = if j = i then x else getS l i := by
  unfold putS
  simp only [getS]
  split
  · rfl
  · rename_i h; exact getS_del l j i (fun e => h e.symm)
theorem mem_ins {p q : Nat × AV} {l : List (Nat × AV)} (h : q ∈ insS p l) : q = p ∨ q ∈ l := by
  induction l with
  | nil => simp only [insS, List.mem_singleton] at h; exact .inl h
  | cons r l ih =>
    simp only [insS] at h
    split at h
    · rcases List.mem_cons.1 h with h | h
      · exact .inl h
      · exact .inr h
    · rcases List.mem_cons.1 h with h | h
      · exact .inr (by simp [h])
      · rcases ih h with h | h
        · exact .inl h
        · exact .inr (by simp [h])
theorem mem_sort {q : Nat × AV} {l : List (Nat × AV)} (h : q ∈ sortS l) : q ∈ l := by
  induction l with
  | nil => simp [sortS] at h
  | cons p l ih =>
    rcases mem_ins h with h | h
    · simp [h]
    · simp [ih h]
theorem mem_drop {d : List Nat} {q : Nat × AV} {l : List (Nat × AV)} (h : q ∈ dropS d l) : q ∈ l := by
  induction l with
  | nil => simp [dropS] at h
  | cons p l ih =>
    obtain ⟨k, x⟩ := p
    simp only [dropS] at h
    split at h
    · simp [ih h]
    · rcases List.mem_cons.1 h with h | h
      · simp [h]
      · simp [ih h]
def Once (l : List (Nat × AV)) : Prop := ∀ i x y, (i, x) ∈ l → (i, y) ∈ l → x = y
theorem once_get {l : List (Nat × AV)} (h : Once l) {i : Nat} {x : AV} (hm : (i, x) ∈ l) : getS l i = x := by
  induction l with
  | nil => simp at hm
  | cons p l ih =>
    obtain ⟨k, y⟩ := p
    simp only [getS]
    split
    · rename_i hk
      subst hk
      exact h k y x (by simp) hm
    · rename_i hk
      rcases List.mem_cons.1 hm with hm | hm
      · injection hm with h1 _; exact absurd h1.symm hk
      · exact ih (fun i a b ha hb => h i a b (by simp [ha]) (by simp [hb])) hm
theorem get_mem {l : List (Nat × AV)} {i : Nat} : getS l i = .any ∨ (i, getS l i) ∈ l := by
  induction l with
  | nil => exact .inl rfl
  | cons p l ih =>
    obtain ⟨k, y⟩ := p
    simp only [getS]
    split
    · rename_i hk; subst hk; exact .inr (by simp)
    · rcases ih with ih | ih
      · exact .inl ih
      · exact .inr (by simp [ih])
theorem once_del {l : List (Nat × AV)} (h : Once l) (j : Nat) : (∀ q ∈ delS l j, q ∈ l ∧ q.1 ≠ j) := by
  intro q hq
  induction l with
  | nil => simp [delS] at hq
  | cons p l ih =>
    obtain ⟨k, y⟩ := p
    have hl : Once l := fun i a b ha hb => h i a b (by simp [ha]) (by simp [hb])
    simp only [delS] at hq
    split at hq
    · have := ih hl hq; exact ⟨by simp [this.1], this.2⟩
    · rename_i hk
      rcases List.mem_cons.1 hq with rfl | hq
      · exact ⟨by simp, hk⟩
      · have := ih hl hq; exact ⟨by simp [this.1], this.2⟩
theorem once_put {l : List (Nat × AV)} (h : Once l) (j : Nat) (x : AV) : Once (putS l j x) := by
  intro i a b ha hb
  unfold putS at ha hb
  rcases List.mem_cons.1 ha with ha | ha <;> rcases List.mem_cons.1 hb with hb | hb
  · injection ha with _ h1; injection hb with _ h2; rw [h1, h2]
  · injection ha with h1 _; exact absurd h1 (once_del h j _ hb).2
  · injection hb with h1 _; exact absurd h1 (once_del h j _ ha).2
  · exact h i a b (once_del h j _ ha).1 (once_del h j _ hb).1
theorem mem_rn {L : List Nat} {q : Nat × AV} {l : List (Nat × AV)} (h : q ∈ rnS L l) : ∃ x, (q.1, x) ∈ l ∧ q.2 = rnA L x := by
  induction l with
  | nil => simp [rnS] at h
  | cons p l ih =>
    obtain ⟨k, y⟩ := p
    simp only [rnS] at h
    rcases List.mem_cons.1 h with rfl | h
    · exact ⟨y, by simp, rfl⟩
    · obtain ⟨x, h1, h2⟩ := ih h; exact ⟨x, by simp [h1], h2⟩
def fe : Option Nat → Fence
  | none => Fence.wide
  | some l => Fence.wide.inRound l
theorem fe_fn (ro : Option Nat) (f : FuncId) : (fe ro).fn f := by cases ro <;> trivial
theorem fe_round (ro : Option Nat) : (fe ro).round = ro := by cases ro <;> rfl
theorem fe_depth (ro : Option Nat) : (fe ro).depth = none := by cases ro <;> rfl
theorem callsIn_fe {P : Program} {ro : Option Nat} {f : FuncId} {args : Array Value} {w : World} {R : Ending → World → Prop} (h : Calls P f args w R) : CallsIn (fe ro) 0 P f args w R := by
  have := (callsIn_wide (n := 0)).2 h
  cases ro <;> exact this
theorem roundIn_fe {P : Program} {ro : Option Nat} {l : Nat} {f : FuncId} {tmps : Array Value} {as_ body : Code} {w : World} {R : Ending → World → Prop} (h : RoundIn Fence.wide 0 P l f tmps as_ body w R) : RoundIn (fe ro) 0 P l f tmps as_ body w R := by
  cases ro <;> exact h
theorem op_in {P : Program} {ro : Option Nat} {o : Oper} {a : Act} {w : World} {next : Act → World → Prop} {Q : Exit → Act → World → Prop} (hd : ∀ c, o.op ≠ .defer c) (h : OpOk P o a w next) : o.wpIn (fe ro) 0 P a w next Q := by
  refine ⟨fun f _ => fe_fn ro f, ?_⟩
  have hs : o.semAt (fe ro).round a.eval = execOp a.eval o := by
    rw [fe_round]
    cases ro with
    | none => rfl
    | some l =>
      unfold Oper.semAt
      cases ho : o.op <;> first | rfl | exact absurd ho (hd _)
  rw [hs]
  unfold OpOk at h
  have hdep : (fe ro).depth.isSome = true → 1 ≤ 0 := fun hh => by rw [fe_depth] at hh; simp at hh
  split at h
  · rename_i v w' e; rw [e]; exact h
  · rename_i w' e; rw [e]; exact h
  · rename_i f args w' e
    rw [e]
    refine ⟨hdep, (callsIn_fe h).mono ?_⟩
    rintro e w'' ⟨v, rfl, hn⟩
    exact hn
  · rename_i l f tmps as_ body w' e
    rw [e]
    refine ⟨hdep, (roundIn_fe h).mono ?_⟩
    rintro e w'' ⟨v, rfl, hn⟩
    exact hn
  · exact h.elim
theorem comp_nodefer {P : Program} {o : Oper} {h : HOp} (hc : compOp P o = some h) : ∀ c, o.op ≠ .defer c := by
  intro c hd
  obtain ⟨dst, op, ty, pos, after, guard⟩ := o
  simp only at hd
  subst hd
  simp [compOp, compOp1, compOp2, compOp3, compOp4, compOp5] at hc
def DfOk (w0 : World) (a : Act) (w : World) : Prop :=
  (a.defers.Pairwise fun x y => x.target ≠ y.target) ∧ ∀ d ∈ a.defers, ∃ D, d.target = .collected D ∧ w0.heap.size ≤ D ∧ w.heap[D]? = some (.deferred (some []))
theorem objAt_kind {h : GH} {φ : Nat → Value} {n : Nat} {w : World} {i : Nat} {o : AObj} (e : objAt h φ n w i o) {g : Nat} (hg : blk (φ i) = some g) (ds : Option (List Deferred)) : w.heap[g]? ≠ some (.deferred ds) := by
  cases o with
  | box cs =>
    obtain ⟨g', us, E, h1, h2, h3, _⟩ := e
    rw [h1] at hg
    simp only [blk, Option.some.injEq] at hg
    subst hg
    rw [h2]; simp
  | arr k es =>
    obtain ⟨_, ⟨A, h1⟩ | ⟨g', c, cur, E, h1, h2, _, _, _, h3, _⟩⟩ := e
    · rw [h1.1] at hg; simp [blk] at hg
    · rw [h1] at hg
      simp only [blk, Option.some.injEq] at hg
      subst hg
      rw [h2]; simp
  | arf k es =>
    obtain ⟨_, ⟨A, h1⟩ | ⟨g', c, cur, E, h1, h2, _, _, _, h3, _⟩⟩ := e
    · rw [h1.1] at hg; simp [blk] at hg
    · rw [h1] at hg
      simp only [blk, Option.some.injEq] at hg
      subst hg
      rw [h2]; simp
  | lp r s =>
    obtain ⟨g', h1, h2, h3, _⟩ := e
    rw [h1] at hg
    simp only [blk, Option.some.injEq] at hg
    subst hg
    rw [h2]; simp
  | mit m since seen st =>
    obtain ⟨g', mo, h1, h2, h3, _⟩ := e
    rw [h1] at hg
    simp only [blk, Option.some.injEq] at hg
    subst hg
    rw [h2]; simp
  | map ag ks vs bs cl =>
    obtain ⟨g', ens, h1, h2, h3, _⟩ := e
    rw [h1] at hg
    simp only [blk, Option.some.injEq] at hg
    subst hg
    rw [h2]; simp
theorem DfOk.keep {w0 w w' : World} {a : Act} {h h' : GH} {φ φ' : Nat → Value} {T T' : Tab} (hd : DfOk w0 a w) (hI : Inv h φ w T) (hE : Evo h φ T w h' φ' T' w') : DfOk w0 a w' := by
  refine ⟨hd.1, fun d hm => ?_⟩
  obtain ⟨D, h1, h2, h3⟩ := hd.2 d hm
  refine ⟨D, h1, h2, ?_⟩
  have hlt : D < w.heap.size := by
    rcases Nat.lt_or_ge D w.heap.size with hh | hh
    · exact hh
    · rw [Array.getElem?_eq_none hh] at h3; simp at h3
  rw [hE.frame D hlt fun i o ho hb => objAt_kind (hI.obj i o ho) hb _ h3]
  exact h3
theorem DfOk.put {w0 w : World} {a : Act} (hd : DfOk w0 a w) (o : Option Nat) (v : Value) : DfOk w0 (a.put o v) w := by
  cases o with
  | none => exact hd
  | some j => exact hd
structure SInv (P : Program) (G : Nat → Option (List AV)) (N : Nat) (h0 : GH) (φ0 : Nat → Value) (T0 : Tab) (w0 : World) (st : St) (a : Act) (w : World) : Prop where
  r : st.r = T0.length
  once : Once st.s
  ex : ∃ h φ, GOk G h ∧ Evo h0 φ0 T0 w0 h φ st.T w ∧ Inv h φ w st.T ∧ SOk h φ st.T.length st.s a
  sz : N ≤ a.tmps.size
  df : DfOk w0 a w
section
variable {P : Program} {G : Nat → Option (List AV)} {N : Nat} {h0 : GH} {φ0 : Nat → Value} {T0 : Tab} {w0 : World} {a : Act} {w : World}
theorem gcs_ok {st : St} (d : List Nat) (hS : SInv P G N h0 φ0 T0 w0 st a w) : SInv P G N h0 φ0 T0 w0 (gcs d st) a w := by
  obtain ⟨hr0, honce, ⟨h, φ, hG, hE, hI, hSl⟩, hsz, hdf⟩ := hS
  have hnd : (reach st.T (List.range st.r ++ idsS (sortS (dropS d st.s)))).Nodup := reach_nodup _ _
  obtain ⟨l, hl⟩ : ∃ l, reach st.T (List.range st.r ++ idsS (sortS (dropS d st.s))) = List.range st.r ++ l := by
    exact reach_range st.T st.r _
  have hgc : gcs d st = ⟨st.r, rnS (reach st.T (List.range st.r ++ idsS (sortS (dropS d st.s)))) (sortS (dropS d st.s)), rnT (reach st.T (List.range st.r ++ idsS (sortS (dropS d st.s)))) st.T⟩ := rfl
  rw [hgc]
  revert hnd hl
  generalize reach st.T (List.range st.r ++ idsS (sortS (dropS d st.s))) = L
  intro hnd hl
  have hφ : Names L φ (fun j => φ (L.getD j 0)) := by
    intro j i e
    simp [List.getD_eq_getElem?_getD, e]
  have hlen : (rnT L st.T).length = L.length := by simp [rnT]
  have hpre : ∀ i, i < st.r → L[i]? = some i := by
    intro i hi
    rw [hl, List.getElem?_append_left (by simpa using hi)]
    simp [hi]
  have hmem : ∀ i x, (i, x) ∈ sortS (dropS d st.s) → (i, x) ∈ st.s := fun i x hm => mem_drop (mem_sort hm)
  refine ⟨hr0, ?_, ⟨h, _, hG, ?_, inv_rn hnd hI hφ, ?_⟩, hsz, hdf⟩
  · intro i x y hx hy
    obtain ⟨x', h1, h2⟩ := mem_rn hx
    obtain ⟨y', h3, h4⟩ := mem_rn hy
    simp only at h2 h4
    rw [h2, h4, honce i x' y' (hmem _ _ h1) (hmem _ _ h3)]
  · refine ⟨hE.os, hE.tape, hE.output, hE.size, hE.frame, hE.le, hE.gfr, fun i hi => ?_, fun i o b e hb => ?_, ?_, hE.drawn⟩
    · have h1 := hpre i (by omega)
      show φ (L.getD i 0) = _
      rw [List.getD_eq_getElem?_getD, h1]
      exact hE.phi i hi
    · obtain ⟨i', o', h1, h2, _⟩ := rnT_get e
      have hii := hφ i i' h1
      simp only at hii
      simp only [hii] at hb
      exact hE.org i' o' b h2 hb
    · show T0.length ≤ (rnT L st.T).length
      rw [hlen, hl, List.length_append, List.length_range]
      omega
  · intro i
    show Rp h _ (rnT L st.T).length (getS (rnS L (sortS (dropS d st.s))) i) _
    rcases get_mem (l := rnS L (sortS (dropS d st.s))) (i := i) with e | e
    · rw [e]; simp [Rp]
    · obtain ⟨x, h1, h2⟩ := mem_rn e
      simp only at h1 h2
      rw [h2, hlen]
      have := hSl i
      rw [once_get honce (hmem _ _ h1)] at this
      exact rnA_ok hφ this
theorem sok_put {h : GH} {φ : Nat → Value} {n : Nat} {s : List (Nat × AV)} {o : Option Nat} {x : AV} {v : Value} (hs : SOk h φ n s a) (hx : Rp h φ n x v) (ho : ∀ j, o = some j → j < a.tmps.size) : SOk h φ n (putO s o x) (a.put o v) := by
  intro i
  cases o with
  | none => exact hs i
  | some j =>
    have hj := ho j rfl
    simp only [putO, getS_put, Act.put]
    split
    · rename_i hij
      subst hij
      rw [show (a.tmps.setIfInBounds j v).getD j undef = v from by simp [Array.getD_eq_getD_getElem?, hj]]
      exact hx
    · rename_i hij
      rw [show (a.tmps.setIfInBounds j v).getD i undef = a.tmps.getD i undef from by simp [Array.getD_eq_getD_getElem?, Array.getElem?_setIfInBounds, hij]]
      exact hs i
theorem wants_ok {h : GH} {φ : Nat → Value} {n : Nat} {s : List (Nat × AV)} {ops : Array Oper} {o : Oper} {g : Option (Nat × Bool)} {b : Bool} (hs : SOk h φ n s a)
    (hg : match o.guard with | none => g = none | some (j, t) => ∃ d, (ops[j]?).bind (·.dst) = some d ∧ g = some (d, t)) (hw : wants s g = some b) : Region.wanted o (yielded ops a.tmps) = b := by
  cases hgd : o.guard with
  | none =>
    rw [hgd] at hg
    simp only at hg
    subst hg
    simp only [wants, Option.some.injEq] at hw
    subst hw
    simp [Region.wanted, hgd]
  | some jt =>
    obtain ⟨j, t⟩ := jt
    rw [hgd] at hg
    obtain ⟨d, hd, rfl⟩ := hg
    have hv := hs d
    simp only [wants] at hw
    have hyield : yielded ops a.tmps j = (match a.tmps[d]? with | some (.bool x) => some x | _ => none) := by
      unfold yielded
      rw [hd]
      simp only [Option.bind_some]
      cases a.tmps[d]? with
      | none => rfl
      | some v => cases v <;> rfl
    split at hw
    · rename_i x hx
      rw [hx] at hv
      simp only [Rp] at hv
      injection hw with hw
      have : a.tmps[d]? = some (.bool x) := by
        rcases Nat.lt_or_ge d a.tmps.size with hlt | hge
        · rw [Array.getElem?_eq_getElem hlt]
          simpa [Array.getD_eq_getD_getElem?, hlt] using hv
        · rw [Array.getD_eq_getD_getElem?, Array.getElem?_eq_none hge] at hv
          simp [undef] at hv
      simp only [Region.wanted, hgd, hyield, this]
      rw [← hw]
      cases x <;> cases t <;> rfl
    · rename_i us hx
      rw [hx] at hv
      simp only [Rp] at hv
      injection hw with hw
      subst hw
      have : yielded ops a.tmps j = none := by
        rw [hyield]
        rcases Nat.lt_or_ge d a.tmps.size with hlt | hge
        · have h2 : a.tmps[d] = .tuple us := by simpa [Array.getD_eq_getD_getElem?, hlt] using hv
          rw [Array.getElem?_eq_getElem hlt, h2]
        · rw [Array.getElem?_eq_none hge]
      simp [Region.wanted, hgd, this]
    · simp at hw
theorem compOper_some {ops : Array Oper} {o : Oper} {ho : HOper} (hc : compOper P N ops o = some ho) :
    (∀ j, o.dst = some j → j < N) ∧ ho.dst = o.dst ∧ compOp P o = some ho.op ∧ (match o.guard with | none => ho.guard = none | some (j, t) => ∃ d, (ops[j]?).bind (·.dst) = some d ∧ ho.guard = some (d, t)) := by
  unfold compOper at hc
  split at hc
  · simp at hc
  · rename_i hd
    have hd' : ∀ j, o.dst = some j → j < N := by
      intro j hj
      rw [hj] at hd
      simpa using hd
    split at hc
    · simp at hc
    · rename_i h hh
      split at hc
      · rename_i hg
        injection hc with hc
        subst hc
        exact ⟨hd', rfl, hh, rfl⟩
      · rename_i j b hg
        split at hc
        · rename_i d hdd
          injection hc with hc
          subst hc
          exact ⟨hd', rfl, hh, d, hdd, rfl⟩
        · simp at hc
theorem once_putO {l : List (Nat × AV)} (h : Once l) (o : Option Nat) (x : AV) : Once (putO l o x) := by
  cases o with
  | none => exact h
  | some j => exact once_put h j x
theorem ops_sound2 {ro : Option Nat} {ops : Array Oper} {Q : Exit → Act → World → Prop} {l2 : List Oper} : ∀ {l : List Oper} {hl : List HOper} {st : St} {a : Act} {w : World} {K : St → Prop}, compOps P N ops l = some hl → opsW P G hl st K → SInv P G N h0 φ0 T0 w0 st a w →
    (∀ st' a' w', K st' → SInv P G N h0 φ0 T0 w0 st' a' w' → wpListIn (fe ro) 0 P ops Q l2 a' w') → wpListIn (fe ro) 0 P ops Q (l ++ l2) a w
  | [], hl, st, a, w, K, hc, hw, hS, hn => by
    simp only [compOps, Option.some.injEq] at hc
    subst hc
    exact hn st a w hw hS
  | o :: l, hl, st, a, w, K, hc, hw, hS, hn => by
    simp only [compOps] at hc
    split at hc
    · rename_i ho hl' h1 h2
      injection hc with hc
      subst hc
      obtain ⟨hr, honce, ⟨h, φ, hG, hE, hI, hSl⟩, hsz, hdf⟩ := hS
      obtain ⟨c1, c2, c3, c4⟩ := compOper_some h1
      have hdst : ∀ j, o.dst = some j → j < a.tmps.size := fun j hj => Nat.lt_of_lt_of_le (c1 j hj) hsz
      have hput : ∀ v, N ≤ (a.put o.dst v).tmps.size := by
        intro v
        cases o.dst with
        | none => exact hsz
        | some j => simpa [Act.put] using hsz
      simp only [opsW] at hw
      rw [c2] at hw
      split at hw
      · rename_i hwt
        have hwant := wants_ok hSl c4 hwt
        rw [List.cons_append]; unfold wpListIn
        rw [if_pos hwant]
        refine op_in (comp_nodefer c3) (op_sound c3 hw hG hI hSl fun v w' hret => ?_)
        obtain ⟨x, T', h', φ', hk, hE', hI', hx⟩ := hret
        have hSl' : SOk h' φ' T'.length st.s a := fun i => (hSl i).mono hE'.le hE'.len hE'.phi
        exact ops_sound2 h2 hk ⟨hr, once_putO honce _ _, ⟨h', φ', hG.mono hE'.le, hE.trans hE', hI', sok_put hSl' hx hdst⟩, hput v, (hdf.keep hI hE').put _ _⟩ hn
      · rename_i hwt
        have hwant := wants_ok hSl c4 hwt
        rw [List.cons_append]; unfold wpListIn
        rw [if_neg (by simp [hwant])]
        exact ⟨fun f _ => fe_fn ro f, ops_sound2 h2 hw ⟨hr, once_putO honce _ _, ⟨h, φ, hG, hE, hI, sok_put hSl (by simp [Rp]) hdst⟩, hput _, hdf.put _ _⟩ hn⟩
      · exact hw.elim
    · simp at hc
theorem ops_sound {ro : Option Nat} {ops : Array Oper} {Q : Exit → Act → World → Prop} {l : List Oper} {hl : List HOper} {st : St} {a : Act} {w : World} {K : St → Prop} (hc : compOps P N ops l = some hl) (hw : opsW P G hl st K) (hS : SInv P G N h0 φ0 T0 w0 st a w)
    (hn : ∀ st' a' w', K st' → SInv P G N h0 φ0 T0 w0 st' a' w' → Q .normal a' w') : wpListIn (fe ro) 0 P ops Q l a w := by
  have := ops_sound2 (ro := ro) (Q := Q) (l2 := []) hc hw hS hn
  rwa [List.append_nil] at this
theorem compOps_app {ops : Array Oper} : ∀ {l l2 : List Oper} {hl hl2 : List HOper}, compOps P N ops l = some hl → compOps P N ops l2 = some hl2 → compOps P N ops (l ++ l2) = some (hl ++ hl2)
  | [], l2, hl, hl2, h, h2 => by simp only [compOps, Option.some.injEq] at h; subst h; exact h2
  | o :: l, l2, hl, hl2, h, h2 => by
    simp only [compOps] at h
    split at h
    · rename_i a b e1 e2
      injection h with h
      subst h
      simp only [List.cons_append, compOps, e1, compOps_app e2 h2]
    · simp at h
theorem compOps_cons {ops : Array Oper} {o : Oper} {l : List Oper} {hl : List HOper} (h : compOps P N ops (o :: l) = some hl) : ∃ a b, compOper P N ops o = some a ∧ compOps P N ops l = some b ∧ hl = a :: b := by
  simp only [compOps] at h
  split at h
  · rename_i a b e1 e2
    injection h with h
    exact ⟨a, b, e1, e2, h.symm⟩
  · simp at h
end
end Hud
end
section
namespace Hud
open Go
def opndT : Operand → List Nat
  | .tmp t => [t]
  | _ => []
def rdH : HOp → List Nat
  | .mov x => opndT x
  | .pick c a b => opndT c ++ opndT a ++ opndT b
  | .bin _ x y => opndT x ++ opndT y
  | .eqa _ _ x y => opndT x ++ opndT y
  | .eqb _ x y => opndT x ++ opndT y
  | .un _ x => opndT x
  | .conv _ x => opndT x
  | .box x => opndT x
  | .alloc _ => []
  | .bld _ ps => ps.flatMap fun p => opndT p.2.2
  | .bsl _ _ ps _ => ps.flatMap fun p => opndT p.2.2
  | .ld _ p => opndT p
  | .st _ p x => opndT p ++ opndT x
  | .fad p _ => opndT p
  | .fld x _ _ => opndT x
  | .iad x i _ => opndT x ++ opndT i
  | .iadA x i _ _ => opndT x ++ opndT i
  | .ixS x i => opndT x ++ opndT i
  | .lenS x => opndT x
  | .lenL x => opndT x
  | .app x y _ _ => opndT x ++ opndT y
  | .ext x _ => opndT x
  | .clo _ cs => cs.flatMap opndT
  | .call f as_ => opndT f ++ as_.flatMap opndT
  | .nilc x => opndT x
  | .slc x lo hi _ => opndT x ++ (match lo with | some o => opndT o | none => []) ++ (match hi with | some o => opndT o | none => [])
  | .slcS x lo hi => opndT x ++ (match lo with | some o => opndT o | none => []) ++ (match hi with | some o => opndT o | none => [])
  | .nilS _ _ x => opndT x
  | .mm _ x y => opndT x ++ opndT y
  | .mkm _ => []
  | .lku _ _ _ m k _ => opndT m ++ opndT k
  | .mup _ _ m k x => opndT m ++ opndT k ++ opndT x
  | .men _ _ _ m k => opndT m ++ opndT k
  | .mst m s x => opndT m ++ opndT s ++ opndT x
  | .del _ _ m k => opndT m ++ opndT k
  | .lenM m => opndT m
  | .mks _ _ _ x y => opndT x ++ opndT y
  | .s2b x => opndT x
  | .b2s x => opndT x
  | .apS x y => opndT x ++ opndT y
  | .slx x lo hi mx _ => opndT x ++ (match lo with | some o => opndT o | none => []) ++ opndT hi ++ opndT mx
  | .bmo _ _ cs => cs.flatMap opndT
  | .rgm m => opndT m
  | .nxt p => opndT p
  | .ent p => opndT p
  | .bad => []
  | .clr x _ _ => opndT x
def rdO (o : HOper) : List Nat := rdH o.op ++ (match o.guard with | some (j, _) => [j] | none => [])
def quietH : HOp → Bool
  | .box _ => false
  | .alloc _ => false
  | .bsl _ _ _ _ => false
  | .st _ _ _ => false
  | .app _ _ _ _ => false
  | .call _ _ => false
  | .mkm _ => false
  | .mup _ _ _ _ _ => false
  | .men _ _ _ _ _ => false
  | .mst _ _ _ => false
  | .del _ _ _ _ => false
  | .mks _ _ _ _ _ => false
  | .s2b _ => false
  | .apS _ _ => false
  | .slx _ _ _ _ _ => false
  | .rgm _ => false
  | .nxt _ => false
  | .ent _ => false
  | .bad => false
  | .clr _ _ _ => false
  | _ => true
theorem hop_quiet {T : Tab} {ev : Operand → AV} {o : HOp} (hq : quietH o = true) {x : AV} {T' : Tab} (h : hop T ev o = some (x, T')) : T' = T := by
  cases o <;> simp only [quietH, Bool.false_eq_true, reduceCtorEq] at hq <;> simp only [hop] at h <;> (repeat' split at h) <;>
    first
    | (simp only [Option.some.injEq, Prod.mk.injEq] at h; exact h.2.symm)
    | (simp at h; done)
theorem ev_congr {G : Nat → Option (List AV)} {s s' : List (Nat × AV)} {x : Operand} (h : ∀ t ∈ opndT x, getS s t = getS s' t) : evO G s x = evO G s' x := by
  cases x <;> simp only [evO]
  exact h _ (by simp [opndT])
theorem hop_congr {T : Tab} {ev ev' : Operand → AV} {o : HOp} (h : ∀ x, (∀ t ∈ opndT x, t ∈ rdH o) → ev x = ev' x) : hop T ev o = hop T ev' o := by
  have hps : ∀ (ps : List (Nat × Nat × Operand)), (∀ t ∈ ps.flatMap (fun p => opndT p.2.2), t ∈ rdH o) → (ps.map fun p => (p.1, p.2.1, ev p.2.2)) = ps.map fun p => (p.1, p.2.1, ev' p.2.2) := by
    intro ps hp
    refine List.map_congr_left fun p hm => ?_
    rw [h p.2.2 fun t ht => hp t (List.mem_flatMap.2 ⟨p, hm, ht⟩)]
  cases o
  case bld z ps => simp only [hop]; rw [hps ps fun t ht => ht]
  case bsl k z ps n => simp only [hop]; rw [hps ps fun t ht => ht]
  case clo f cs => simp only [hop]; rw [List.map_congr_left fun c hc => h c fun t ht => List.mem_flatMap.2 ⟨c, hc, ht⟩]
  case alloc => rfl
  case mkm => rfl
  case lku ag ls z m k ok => simp only [hop]; rw [h m (by simp_all [rdH]), h k (by simp_all [rdH])]
  case mup ag ls m k x => simp only [hop]; rw [h m (by simp_all [rdH]), h k (by simp_all [rdH]), h x (by simp_all [rdH])]
  case men ag ls z m k => simp only [hop]; rw [h m (by simp_all [rdH]), h k (by simp_all [rdH])]
  case mst m k x => simp only [hop]; rw [h m (by simp_all [rdH]), h k (by simp_all [rdH]), h x (by simp_all [rdH])]
  case del ag ls m k => simp only [hop]; rw [h m (by simp_all [rdH]), h k (by simp_all [rdH])]
  case lenM m => simp only [hop]; rw [h m (by simp_all [rdH])]
  case mks k z b x y => simp only [hop]; rw [h x (by simp_all [rdH]), h y (by simp_all [rdH])]
  case s2b x => simp only [hop]; rw [h x (by simp_all [rdH])]
  case b2s x => simp only [hop]; rw [h x (by simp_all [rdH])]
  case apS x y => simp only [hop]; rw [h x (by simp_all [rdH]), h y (by simp_all [rdH])]
  case slx x lo hi mx k =>
    simp only [hop]
    rw [h x (by simp_all [rdH]), h hi (by simp_all [rdH]), h mx (by simp_all [rdH])]
    cases lo <;> simp only <;> (try rw [h _ (by simp_all [rdH])])
  case call => rfl
  case nxt => rfl
  case bad => rfl
  case bmo f k cs => simp only [hop]; rw [List.map_congr_left fun c hc => h c fun t ht => List.mem_flatMap.2 ⟨c, hc, ht⟩]
  case rgm m => simp only [hop]; rw [h m (by simp_all [rdH])]
  case ent m => simp only [hop]; rw [h m (by simp_all [rdH])]
  case clr x k z => simp only [hop]; rw [h x (by simp_all [rdH])]
  case pick c a b => simp only [hop]; rw [h c (by simp_all [rdH]), h a (by simp_all [rdH]), h b (by simp_all [rdH])]
  case mov x => simp only [hop]; rw [h x (by simp_all [rdH])]
  case un u x => simp only [hop]; rw [h x (by simp_all [rdH])]
  case conv k x => simp only [hop]; rw [h x (by simp_all [rdH])]
  case box x => simp only [hop]; rw [h x (by simp_all [rdH])]
  case ld n x => simp only [hop]; rw [h x (by simp_all [rdH])]
  case fad x n => simp only [hop]; rw [h x (by simp_all [rdH])]
  case fld x n k => simp only [hop]; rw [h x (by simp_all [rdH])]
  case lenS x => simp only [hop]; rw [h x (by simp_all [rdH])]
  case lenL x => simp only [hop]; rw [h x (by simp_all [rdH])]
  case ext x i => simp only [hop]; rw [h x (by simp_all [rdH])]
  case nilc x => simp only [hop]; rw [h x (by simp_all [rdH])]
  case nilS n kd x => simp only [hop]; rw [h x (by simp_all [rdH])]
  case mm n x y => simp only [hop]; rw [h x (by simp_all [rdH]), h y (by simp_all [rdH])]
  case slc x lo hi k =>
    simp only [hop]
    rw [h x (by simp_all [rdH])]
    cases lo <;> cases hi <;> simp only <;> (try rw [h _ (by simp_all [rdH])]) <;> (try rw [h _ (by simp_all [rdH])])
  case slcS x lo hi =>
    simp only [hop]
    rw [h x (by simp_all [rdH])]
    cases lo <;> cases hi <;> simp only <;> (try rw [h _ (by simp_all [rdH])]) <;> (try rw [h _ (by simp_all [rdH])])
  case bin op x y => simp only [hop]; rw [h x (by simp_all [rdH]), h y (by simp_all [rdH])]
  case eqa n ks x y => simp only [hop]; rw [h x (by simp_all [rdH]), h y (by simp_all [rdH])]
  case eqb n x y => simp only [hop]; rw [h x (by simp_all [rdH]), h y (by simp_all [rdH])]
  case st n x y => simp only [hop]; rw [h x (by simp_all [rdH]), h y (by simp_all [rdH])]
  case iad x y k => simp only [hop]; rw [h x (by simp_all [rdH]), h y (by simp_all [rdH])]
  case iadA x y n k => simp only [hop]; rw [h x (by simp_all [rdH]), h y (by simp_all [rdH])]
  case ixS x y => simp only [hop]; rw [h x (by simp_all [rdH]), h y (by simp_all [rdH])]
  case app x y k b => simp only [hop]; rw [h x (by simp_all [rdH]), h y (by simp_all [rdH])]
theorem opW_congr {P : Program} {G : Nat → Option (List AV)} {r : Nat} {s s' : List (Nat × AV)} {T : Tab} {o : HOp} {K : AV → Tab → Prop} (h : ∀ t ∈ rdH o, getS s t = getS s' t) :
    opW P G ⟨r, s, T⟩ o K = opW P G ⟨r, s', T⟩ o K := by
  have hev : ∀ x, (∀ t ∈ opndT x, t ∈ rdH o) → evO G s x = evO G s' x := fun x hx => ev_congr fun t ht => h t (hx t ht)
  cases o
  case call f as_ =>
    simp only [opW]
    rw [hev f (by simp_all [rdH]), List.map_congr_left fun c hc => hev c fun t ht => by simp only [rdH, List.mem_append, List.mem_flatMap]; exact .inr ⟨c, hc, ht⟩]
  case nxt p =>
    simp only [opW]
    rw [hev p (by simp_all [rdH])]
  case nilS n k x =>
    simp only [opW]
    rw [hev x (by simp_all [rdH]), hop_congr hev]
  all_goals simp only [opW]; rw [hop_congr hev]
theorem wants_congr {s s' : List (Nat × AV)} {g : Option (Nat × Bool)} (h : ∀ j b, g = some (j, b) → getS s j = getS s' j) : wants s g = wants s' g := by
  cases g with
  | none => rfl
  | some p => obtain ⟨j, b⟩ := p; simp only [wants]; rw [h j b rfl]
def aft (o : Oper) : List Nat := (o.after.toList.filter (Region.binds .any)).map (·.on)
def preOf (done : List (List Nat)) (o : Oper) : List Nat := ((aft o).flatMap fun e => e :: done.getD e []).eraseDups
def preAll : List Oper → List (List Nat) → List (List Nat)
  | [], d => d
  | o :: os, d => preAll os (d ++ [preOf d o])
structure Plan where
  hops : List HOper
  pre : List (List Nat)
def Plan.p (p : Plan) (i : Nat) : List Nat := p.pre.getD i []
def Plan.quiet (p : Plan) (i : Nat) : Bool :=
  match p.hops[i]? with
  | none => false
  | some o => quietH o.op && (match o.dst with
    | none => false
    | some d => (List.range p.hops.length).all fun r => match p.hops[r]? with
      | none => true
      | some o' => !(rdO o').contains d || (p.p r).contains i)
def Plan.ready (p : Plan) (E : List Nat) : List Nat := (List.range p.hops.length).filter fun i => !E.contains i && (p.p i).all E.contains
def Plan.pend (p : Plan) (E : List Nat) : List HOper :=
  (E.filter fun q => p.quiet q && !(E.any fun h => !p.quiet h && (p.p h).contains q)).filterMap fun q => p.hops[q]?
def Plan.ok (p : Plan) (ops : List Oper) : Bool :=
  (List.range p.hops.length).all fun i => match p.hops[i]?, ops[i]? with
    | some o, some c =>
      (aft c).all (fun e => e < i && (p.p i).contains e) &&
      (p.p i).all (fun q => (aft c).any fun e => q == e || (p.p e).contains q) &&
      (match o.dst with
      | none => true
      | some d => (List.range p.hops.length).all fun j => match p.hops[j]? with
        | none => true
        | some o' => (j == i || !(o'.dst == some d)) && (p.quiet i || !p.quiet j || !(rdO o').contains d || (p.p j).contains i || (p.p i).contains j))
    | _, _ => false
def mkHD (p : Plan) : Nat → Bool → List Nat → Option HD
  | 0, _, _ => none
  | n + 1, gc, E => match (p.ready E).find? p.quiet with
    | some i => match p.hops[i]? with
      | some o => (mkHD p n gc (i :: E)).map (.q o)
      | none => none
    | none => match p.ready E with
      | [] => some (.done gc)
      | c :: cs => (c :: cs).foldr (fun i acc => match acc, p.hops[i]?, mkHD p n (gc || !cs.isEmpty) (i :: E) with
        | some t, some o, some x => some (.alt o (if quietH o.op then [] else p.pend (i :: E)) x t)
        | _, _, _ => none) (some .no)
def compDraw (P : Program) (N : Nat) (ops : Array Oper) : Option HD :=
  match compOps P N ops ops.toList with
  | none => none
  | some hl => let p : Plan := ⟨hl, preAll ops.toList []⟩
    if p.ok ops.toList && (p.hops.length == ops.size) then mkHD p (ops.size + 1) false [] else none
structure PlanOk (p : Plan) (ops : Array Oper) : Prop where
  len : p.hops.length = ops.size
  aft : ∀ i c, ops[i]? = some c → ∀ e ∈ c.after, Region.binds .any e = true → e.on < i ∧ e.on ∈ p.p i
  pre : ∀ i c, ops[i]? = some c → ∀ q ∈ p.p i, ∃ e ∈ c.after, Region.binds .any e = true ∧ (q = e.on ∨ q ∈ p.p e.on)
  dst : ∀ (i j : Nat) (o o' : HOper) (d : Nat), p.hops[i]? = some o → p.hops[j]? = some o' → o.dst = some d → o'.dst = some d → j = i
  rds : ∀ (i j : Nat) (o o' : HOper) (d : Nat), p.hops[i]? = some o → p.hops[j]? = some o' → o.dst = some d → d ∈ rdO o' → p.quiet i = false → p.quiet j = true → i ∈ p.p j ∨ j ∈ p.p i
theorem quiet_spec {p : Plan} {i : Nat} (h : p.quiet i = true) :
    ∃ o d, p.hops[i]? = some o ∧ quietH o.op = true ∧ o.dst = some d ∧ ∀ r o', p.hops[r]? = some o' → d ∈ rdO o' → i ∈ p.p r := by
  unfold Plan.quiet at h
  split at h
  · simp at h
  · rename_i o ho
    simp only [Bool.and_eq_true] at h
    obtain ⟨h1, h2⟩ := h
    split at h2
    · simp at h2
    · rename_i d hd
      refine ⟨o, d, ho, h1, hd, fun r o' hr hm => ?_⟩
      simp only [List.all_eq_true, List.mem_range] at h2
      have := h2 r (List.getElem?_eq_some_iff.1 hr).1
      rw [hr] at this
      simpa [hm] using this
theorem mem_aft {o : Oper} {x : Nat} : x ∈ Hud.aft o ↔ ∃ e ∈ o.after, Region.binds .any e = true ∧ e.on = x := by
  simp only [Hud.aft, List.mem_map, List.mem_filter, Array.mem_toList_iff]
  constructor
  · rintro ⟨e, ⟨h1, h2⟩, h3⟩; exact ⟨e, h1, h2, h3⟩
  · rintro ⟨e, h1, h2, h3⟩; exact ⟨e, ⟨h1, h2⟩, h3⟩
theorem plan_ok {p : Plan} {ops : Array Oper} (hl : p.hops.length = ops.size) (h : p.ok ops.toList = true) : PlanOk p ops := by
  have key : ∀ i o c, p.hops[i]? = some o → ops[i]? = some c → _ := fun i o c hi hc => by
    have h1 := h
    simp only [Plan.ok, List.all_eq_true, List.mem_range] at h1
    have h2 := h1 i (List.getElem?_eq_some_iff.1 hi).1
    rw [hi, show ops.toList[i]? = some c from by simpa using hc] at h2
    simp only [Bool.and_eq_true] at h2
    exact h2
  have hop : ∀ i c, ops[i]? = some c → ∃ o, p.hops[i]? = some o := fun i c hc => by
    have := (Array.getElem?_eq_some_iff.1 hc).1
    exact ⟨_, List.getElem?_eq_getElem (by omega)⟩
  have opp : ∀ (i : Nat) (o : HOper), p.hops[i]? = some o → ∃ c, ops[i]? = some c := fun i o hc => by
    have := (List.getElem?_eq_some_iff.1 hc).1
    exact ⟨_, Array.getElem?_eq_getElem (by omega)⟩
  refine ⟨hl, fun i c hc e he hb => ?_, fun i c hc q hq => ?_, fun i j o o' d hi hj hd hd' => ?_, fun i j o o' d hi hj hd hr hqi hqj => ?_⟩
  · obtain ⟨o, ho⟩ := hop i c hc
    have h1 := (key i o c ho hc).1.1
    simp only [List.all_eq_true] at h1
    have := h1 e.on (mem_aft.2 ⟨e, he, hb, rfl⟩)
    simp only [Bool.and_eq_true, decide_eq_true_eq] at this
    exact ⟨this.1, by simpa using this.2⟩
  · obtain ⟨o, ho⟩ := hop i c hc
    have h1 := (key i o c ho hc).1.2
    simp only [List.all_eq_true] at h1
    have := h1 q hq
    simp only [List.any_eq_true] at this
    obtain ⟨e, he, h2⟩ := this
    obtain ⟨e', he', hb, rfl⟩ := mem_aft.1 he
    refine ⟨e', he', hb, ?_⟩
    simpa using h2
  · obtain ⟨c, hc⟩ := opp i o hi
    have h1 := (key i o c hi hc).2
    rw [hd] at h1
    simp only [List.all_eq_true, List.mem_range] at h1
    have h2 := h1 j (List.getElem?_eq_some_iff.1 hj).1
    rw [hj] at h2
    simp only [hd', Bool.and_eq_true, Bool.or_eq_true, beq_self_eq_true, Bool.not_true, Bool.false_eq_true, or_false, beq_iff_eq] at h2
    exact h2.1
  · obtain ⟨c, hc⟩ := opp i o hi
    have h1 := (key i o c hi hc).2
    rw [hd] at h1
    simp only [List.all_eq_true, List.mem_range] at h1
    have h2 := h1 j (List.getElem?_eq_some_iff.1 hj).1
    rw [hj] at h2
    simp only [hqi, hqj, Bool.and_eq_true, Bool.or_eq_true, Bool.false_eq_true, Bool.not_true, false_or, Bool.not_eq_true', List.contains_eq_mem, decide_eq_true_eq, decide_eq_false_iff_not, hr, not_true_eq_false] at h2
    exact h2.2
theorem chkW_iff {G : Nat → Option (List AV)} {st : St} {l : List HOper} : chkW G st l ↔ ∀ o ∈ l, chkW G st [o] := by
  induction l with
  | nil => simp [chkW]
  | cons o l ih =>
    simp only [List.mem_cons, forall_eq_or_imp]
    rw [← ih]
    simp [chkW]
theorem chkW_congr {G : Nat → Option (List AV)} {r : Nat} {s s' : List (Nat × AV)} {T : Tab} {o : HOper} (h : ∀ t ∈ rdO o, getS s t = getS s' t) (hd : o.dst.map (getS s) = o.dst.map (getS s')) :
    chkW G ⟨r, s, T⟩ [o] = chkW G ⟨r, s', T⟩ [o] := by
  have hw : wants s o.guard = wants s' o.guard := wants_congr fun j b e => h j (by simp [rdO, e])
  have hh : hop T (evO G s) o.op = hop T (evO G s') o.op := hop_congr fun x hx => ev_congr fun t ht => h t (by simp only [rdO, List.mem_append]; exact .inl (hx t ht))
  simp only [chkW, hw, hh, hd]
theorem opW_quiet {P : Program} {G : Nat → Option (List AV)} {st : St} {o : HOp} {K : AV → Tab → Prop} (h : opW P G st o K) : opW P G st o fun x T => K x T ∧ (quietH o = true → T = st.T) := by
  cases o
  case call f as_ =>
    have : (fun x T => K x T ∧ (quietH (HOp.call f as_) = true → T = st.T)) = K := by
      funext x T; simp [quietH]
    rw [this]; exact h
  case nxt p =>
    have : (fun x T => K x T ∧ (quietH (HOp.nxt p) = true → T = st.T)) = K := by
      funext x T; simp [quietH]
    rw [this]; exact h
  case nilS n k x =>
    simp only [opW] at h ⊢
    split at h
    · rename_i hn
      rw [if_pos hn]
      exact ⟨⟨h.1, fun _ => trivial⟩, ⟨h.2, fun _ => trivial⟩⟩
    · rename_i hn
      rw [if_neg hn]
      split at h
      · rename_i x T he
        exact ⟨h, fun hq => hop_quiet hq he⟩
      · exact h.elim
  all_goals
    simp only [opW] at h ⊢
    split at h
    · rename_i x T he
      exact ⟨h, fun hq => hop_quiet hq he⟩
    · exact h.elim
def unl (listed : Array Bool) : Nat → Nat
  | 0 => 0
  | m + 1 => unl listed m + if listed.getD m false then 0 else 1
theorem unl_zero {listed : Array Bool} : ∀ {m : Nat}, unl listed m = 0 → ∀ i, i < m → listed.getD i false = true
  | 0, _, i, hi => by omega
  | m + 1, h, i, hi => by
    simp only [unl] at h
    split at h
    · rename_i hm
      rcases Nat.lt_or_ge i m with h1 | h1
      · exact unl_zero (by omega) i h1
      · have : i = m := by omega
        subst this; exact hm
    · omega
theorem unl_ge {listed : Array Bool} {i : Nat} : ∀ {m : Nat}, m ≤ i → unl (listed.setIfInBounds i true) m = unl listed m
  | 0, _ => rfl
  | m + 1, h => by
    simp only [unl]
    rw [unl_ge (by omega), getD_set_ne false (by omega)]
theorem unl_set {listed : Array Bool} {i : Nat} (hs : i < listed.size) (hu : listed.getD i false = false) : ∀ {m : Nat}, i < m → unl (listed.setIfInBounds i true) m + 1 = unl listed m
  | 0, h => by omega
  | m + 1, h => by
    simp only [unl]
    rcases Nat.lt_or_ge i m with h1 | h1
    · have := unl_set hs hu h1
      rw [getD_set_ne false (by omega)]
      omega
    · have : i = m := by omega
      subst this
      have h2 : (listed.setIfInBounds i true).getD i false = true := by simp [Array.getD_eq_getD_getElem?, hs]
      rw [unl_ge (Nat.le_refl _), h2, hu]
      simp
theorem compOps_get {P : Program} {N : Nat} {ops : Array Oper} : ∀ {l : List Oper} {hl : List HOper}, compOps P N ops l = some hl → hl.length = l.length ∧ ∀ (i : Nat) ho, hl[i]? = some ho → ∃ o, l[i]? = some o ∧ compOper P N ops o = some ho
  | [], hl, h => by simp only [compOps, Option.some.injEq] at h; subst h; simp
  | o :: l, hl, h => by
    simp only [compOps] at h
    split at h
    · rename_i ho hl' h1 h2
      injection h with h
      subst h
      obtain ⟨h3, h4⟩ := compOps_get h2
      refine ⟨by simp [h3], fun i ho' hi => ?_⟩
      cases i with
      | zero => simp only [List.getElem?_cons_zero, Option.some.injEq] at hi; subst hi; exact ⟨o, rfl, h1⟩
      | succ i => simpa using h4 i ho' (by simpa using hi)
    · simp at h
section
variable {P : Program} {G : Nat → Option (List AV)} {N : Nat} {h0 : GH} {φ0 : Nat → Value} {T0 : Tab} {w0 : World}
theorem exec_op {ro : Option Nat} {ops : Array Oper} {Q : Exit → Act → World → Prop} {i : Nat} {o : Oper} {ho : HOper} {st : St} {a : Act} {w : World} {next : Act → World → Prop} (hi : ops[i]? = some o) (hc : compOper P N ops o = some ho)
    (hS : SInv P G N h0 φ0 T0 w0 st a w) (hw : match wants st.s ho.guard with
      | some true => opW P G st ho.op fun x T => ∀ a' w', SInv P G N h0 φ0 T0 w0 ⟨st.r, putO st.s ho.dst x, T⟩ a' w' → next a' w'
      | some false => ∀ a' w', SInv P G N h0 φ0 T0 w0 ⟨st.r, putO st.s ho.dst (.v undef), st.T⟩ a' w' → next a' w'
      | none => False) : wpOpIn (fe ro) 0 P ops Q i next a w := by
  obtain ⟨hr, honce, ⟨h, φ, hG, hE, hI, hSl⟩, hsz, hdf⟩ := hS
  obtain ⟨c1, c2, c3, c4⟩ := compOper_some hc
  have hdst : ∀ j, o.dst = some j → j < a.tmps.size := fun j hj => Nat.lt_of_lt_of_le (c1 j hj) hsz
  have hput : ∀ v, N ≤ (a.put o.dst v).tmps.size := by
    intro v
    cases o.dst with
    | none => exact hsz
    | some j => simpa [Act.put] using hsz
  unfold wpOpIn
  simp only [hi]
  rw [c2] at hw
  split at hw
  · rename_i hwt
    have hwant := wants_ok hSl c4 hwt
    rw [if_pos hwant]
    refine op_in (comp_nodefer c3) (op_sound c3 hw hG hI hSl fun v w' hret => ?_)
    obtain ⟨x, T', h', φ', hk, hE', hI', hx⟩ := hret
    have hSl' : SOk h' φ' T'.length st.s a := fun i => (hSl i).mono hE'.le hE'.len hE'.phi
    exact hk _ _ ⟨hr, once_putO honce _ _, ⟨h', φ', hG.mono hE'.le, hE.trans hE', hI', sok_put hSl' hx hdst⟩, hput v, (hdf.keep hI hE').put _ _⟩
  · rename_i hwt
    have hwant := wants_ok hSl c4 hwt
    rw [if_neg (by simp [hwant])]
    exact ⟨fun f _ => fe_fn ro f, hw _ _ ⟨hr, once_putO honce _ _, ⟨h, φ, hG, hE, hI, sok_put hSl (by simp [Rp]) hdst⟩, hput _, hdf.put _ _⟩⟩
  · exact hw.elim
structure Drawn (P : Program) (G : Nat → Option (List AV)) (N : Nat) (h0 : GH) (φ0 : Nat → Value) (T0 : Tab) (w0 : World) (p : Plan) (E : List Nat) (st : St) (listed : Array Bool) (a : Act) (w : World) : Prop where
  size : listed.size = p.hops.length
  lt : ∀ i ∈ E, i < p.hops.length
  sub : ∀ i, listed.getD i false = true → i ∈ E
  clo : ∀ i, listed.getD i false = true → ∀ q ∈ p.p i, listed.getD q false = true
  heavy : ∀ i ∈ E, p.quiet i = false → listed.getD i false = true
  ecl : ∀ i ∈ E, ∀ q ∈ p.p i, q ∈ E
  pend : ∀ i ∈ E, listed.getD i false = false → ∀ o, p.hops[i]? = some o → chkW G st [o]
  once : Once st.s
  inv : ∃ s', (∀ t, getS s' t = getS st.s t ∨ ∃ i o, i ∈ E ∧ listed.getD i false = false ∧ p.hops[i]? = some o ∧ o.dst = some t) ∧ SInv P G N h0 φ0 T0 w0 ⟨st.r, s', st.T⟩ a w
variable {p : Plan} {ops : Array Oper} {E : List Nat} {st : St} {listed : Array Bool} {a : Act} {w : World}
theorem getD_tf {listed : Array Bool} {i : Nat} : (i < listed.size ∧ listed.getD i true = false) ↔ (i < listed.size ∧ listed.getD i false = false) := by
  constructor <;> rintro ⟨h, h1⟩ <;> exact ⟨h, by simpa [Array.getD_eq_getD_getElem?, h] using h1⟩
theorem ready_pre (hp : PlanOk p ops) (hJ : Drawn P G N h0 φ0 T0 w0 p E st listed a w) {i : Nat} (hr : i ∈ Region.ready .any ops listed) :
    listed.getD i false = false ∧ i < p.hops.length ∧ (∃ o, ops[i]? = some o) ∧ ∀ q ∈ p.p i, listed.getD q false = true := by
  obtain ⟨h1, o, ho, h2⟩ := mem_ready.1 hr
  have hlt : i < listed.size := by have := (Array.getElem?_eq_some_iff.1 ho).1; have := hp.len; have := hJ.size; omega
  refine ⟨(getD_tf.1 ⟨hlt, h1⟩).2, by have := hJ.size; omega, ⟨o, ho⟩, fun q hq => ?_⟩
  obtain ⟨e, he, hb, h3⟩ := hp.pre i o ho q hq
  have h4 := h2 e he hb
  rcases h3 with rfl | h3
  · exact h4
  · exact hJ.clo _ h4 _ h3
theorem ready_nil (hp : PlanOk p ops) (hs : listed.size = p.hops.length) (hr : Region.ready .any ops listed = []) : ∀ i, i < p.hops.length → listed.getD i false = true := by
  intro i
  induction i using Nat.strongRecOn with
  | _ i ih =>
    intro hi
    have hlt : i < ops.size := by have := hp.len; omega
    by_cases hu : listed.getD i false = true
    · exact hu
    · have : i ∈ Region.ready .any ops listed := by
        refine mem_ready.2 ⟨(getD_tf.2 ⟨by omega, by simpa using hu⟩).2, ops[i], Array.getElem?_eq_getElem hlt, fun e he hb => ?_⟩
        have := (hp.aft i _ (Array.getElem?_eq_getElem hlt) e he hb).1
        exact ih e.on this (by omega)
      rw [hr] at this
      simp at this
end
end Hud
end
section
namespace Hud
open Go
section
variable {P : Program} {G : Nat → Option (List AV)} {N : Nat} {h0 : GH} {φ0 : Nat → Value} {T0 : Tab} {w0 : World}
variable {ro : Option Nat} {p : Plan} {ops : Array Oper} {E : List Nat} {st : St} {listed : Array Bool} {a : Act} {w : World} {Q : Exit → Act → World → Prop}
theorem callW_mono {f : FuncId} {args : List AV} {T : Tab} {K K' : AV → Tab → Prop} (h : ∀ x T, K x T → K' x T) (hw : callW P G f args T K) : callW P G f args T K' := by
  obtain ⟨as_, hs, hw⟩ := hw
  refine ⟨as_, hs, ?_⟩
  rcases hw with hw | ⟨h1, hw⟩
  · obtain ⟨L, h1, h2, hw⟩ := hw
    exact .inl ⟨L, h1, h2, hw.mono fun r T' hk => h _ _ hk⟩
  · exact .inr ⟨h1, hw.mono fun r T' hk => ⟨hk.1, hk.2.1, h _ _ hk.2.2⟩⟩
theorem opW_mono {st : St} {o : HOp} {K K' : AV → Tab → Prop} (h : ∀ x T, K x T → K' x T) (hw : opW P G st o K) : opW P G st o K' := by
  cases o
  case call f as_ =>
    simp only [opW] at hw ⊢
    split at hw
    · rename_i g caps he
      exact callW_mono h hw
    · rename_i g k cs he
      exact callW_mono h hw
    · rename_i i he
      exact hw.mono fun r T' hk => h _ _ hk
    · exact hw.elim
  case nxt p =>
    simp only [opW] at hw ⊢
    split at hw
    · split at hw
      · exact h _ _ hw
      · split at hw
        · exact ⟨hw.1, hw.2.1, fun ha => h _ _ (hw.2.2.1 ha), fun e k v b h1 h2 h3 h4 => h _ _ (hw.2.2.2 e k v b h1 h2 h3 h4)⟩
        · exact hw.elim
      · exact hw.elim
    · exact hw.elim
  case nilS n k x =>
    simp only [opW] at hw ⊢
    split at hw
    · rename_i hn
      rw [if_pos hn]
      exact ⟨h _ _ hw.1, h _ _ hw.2⟩
    · rename_i hn
      rw [if_neg hn]
      split at hw
      · exact h _ _ hw
      · exact hw.elim
  all_goals
    simp only [opW] at hw ⊢
    split at hw
    · exact h _ _ hw
    · exact hw.elim
theorem opW_of_hop {st : St} {o : HOp} {K : AV → Tab → Prop} {x : AV} {T : Tab} (hq : quietH o = true) (he : hop st.T (evO G st.s) o = some (x, T)) (hk : K x T) : opW P G st o K := by
  cases o
  case call f as_ => simp [quietH] at hq
  case nxt p => simp [quietH] at hq
  case nilS n k y =>
    have hn : nilE k (evO G st.s y) ≠ true := fun hn => by
      unfold nilE at hn
      split at hn
      · rename_i h1; simp [hop, h1] at he
      · simp at hn
    simp only [opW, he]
    rw [if_neg hn]
    exact hk
  all_goals
    simp only [opW, he]
    exact hk
theorem put_at (s : List (Nat × AV)) (d : Nat) (x : AV) : getS (putO s (some d) x) d = x := by simp [putO, getS_put]
theorem put_off {s : List (Nat × AV)} {d t : Nat} {x : AV} (h : d ≠ t) : getS (putO s (some d) x) t = getS s t := by simp [putO, getS_put, h]
theorem putO_off {s : List (Nat × AV)} {o : Option Nat} {t : Nat} {x : AV} (h : o ≠ some t) : getS (putO s o x) t = getS s t := by
  cases o with
  | none => rfl
  | some d => exact put_off fun e => h (by rw [e])
theorem listed_set {i : Nat} (hs : i < listed.size) (j : Nat) : (listed.setIfInBounds i true).getD j false = true ↔ j = i ∨ listed.getD j false = true := by
  by_cases h : i = j
  · subst h; simp [Array.getD_eq_getD_getElem?, hs]
  · rw [getD_set_ne false h]; constructor
    · exact .inr
    · rintro (rfl | h')
      · exact absurd rfl h
      · exact h'
theorem drawn_q (hp : PlanOk p ops) (hJ : Drawn P G N h0 φ0 T0 w0 p E st listed a w) {i : Nat} (hr : i ∈ p.ready E) (hq : p.quiet i = true) {o : HOper} (ho : p.hops[i]? = some o) {x : AV}
    (hx : (wants st.s o.guard = some true ∧ ∃ T', hop st.T (evO G st.s) o.op = some (x, T')) ∨ (wants st.s o.guard = some false ∧ x = .v undef)) :
    Drawn P G N h0 φ0 T0 w0 p (i :: E) ⟨st.r, putO st.s o.dst x, st.T⟩ listed a w := by
  obtain ⟨o', d, ho', hqh, hd, hrd⟩ := quiet_spec hq
  rw [ho] at ho'
  injection ho' with ho'
  subst ho'
  simp only [Plan.ready, List.mem_filter, List.mem_range, Bool.and_eq_true, Bool.not_eq_true', List.contains_eq_mem, decide_eq_false_iff_not, List.all_eq_true, decide_eq_true_eq] at hr
  obtain ⟨hlt, hni, hpre⟩ := hr
  have hnl : listed.getD i false = false := by
    cases hb : listed.getD i false
    · rfl
    · exact absurd (hJ.sub i hb) hni
  have noread : ∀ (k : Nat) ok, k ∈ E ∨ k = i → p.hops[k]? = some ok → d ∉ rdO ok := fun k ok hk hok hm => by
    have h1 := hrd k ok hok hm
    rcases hk with hk | rfl
    · exact hni (hJ.ecl k hk i h1)
    · exact hni (hpre k h1)
  have keep : ∀ (k : Nat) ok, k ∈ E ∨ k = i → p.hops[k]? = some ok → ∀ t ∈ rdO ok, getS (putO st.s o.dst x) t = getS st.s t := fun k ok hk hok t ht => by
    rw [hd]
    exact put_off fun e => noread k ok hk hok (e ▸ ht)
  refine ⟨hJ.size, ?_, fun k hk => List.mem_cons_of_mem _ (hJ.sub k hk), hJ.clo, ?_, ?_, ?_, once_putO hJ.once _ _, ?_⟩
  · intro k hk
    rcases List.mem_cons.1 hk with rfl | hk
    · exact hlt
    · exact hJ.lt k hk
  · intro k hk hqk
    rcases List.mem_cons.1 hk with rfl | hk
    · rw [hq] at hqk; simp at hqk
    · exact hJ.heavy k hk hqk
  · intro k hk q hqm
    rcases List.mem_cons.1 hk with rfl | hk
    · exact List.mem_cons_of_mem _ (hpre q hqm)
    · exact List.mem_cons_of_mem _ (hJ.ecl k hk q hqm)
  · intro k hk hul ok hok
    by_cases hki : k = i
    · subst hki
      rw [ho] at hok
      injection hok with hok
      subst hok
      have hg : wants (putO st.s o.dst x) o.guard = wants st.s o.guard := wants_congr fun j b e => keep k o (.inr rfl) ho j (by simp [rdO, e])
      have hh : hop st.T (evO G (putO st.s o.dst x)) o.op = hop st.T (evO G st.s) o.op := hop_congr fun y hy => ev_congr fun t ht => keep k o (.inr rfl) ho t (by simp only [rdO, List.mem_append]; exact .inl (hy t ht))
      rw [hd] at hg hh ⊢
      simp only [chkW, hg, hh, hd, Option.map_some, put_at, and_true]
      rcases hx with ⟨h1, T', h2⟩ | ⟨h1, h2⟩
      · simp [h1, h2]
      · simp [h1, h2]
    · have hkE : k ∈ E := by
        rcases List.mem_cons.1 hk with h | h
        · exact absurd h hki
        · exact h
      rw [chkW_congr (s' := st.s) (keep k ok (.inl hkE) hok) ?_]
      · exact hJ.pend k hkE hul ok hok
      · cases hdk : ok.dst with
        | none => rfl
        | some dk =>
          simp only [Option.map_some, Option.some.injEq]
          refine putO_off fun e => hki ?_
          exact hp.dst i k o ok dk ho hok (e ▸ rfl) hdk
  · obtain ⟨s', hs, hS⟩ := hJ.inv
    refine ⟨s', fun t => ?_, hS⟩
    by_cases ht : o.dst = some t
    · exact .inr ⟨i, o, by simp, hnl, ho, ht⟩
    · rcases hs t with h | ⟨k, ok, h1, h2, h3, h4⟩
      · exact .inl (by rw [h]; exact (putO_off ht).symm)
      · exact .inr ⟨k, ok, by simp [h1], h2, h3, h4⟩
theorem reads_same (hp : PlanOk p ops) (hJ : Drawn P G N h0 φ0 T0 w0 p E st listed a w) {i : Nat} (hr : i ∈ Region.ready .any ops listed) {o : HOper} (ho : p.hops[i]? = some o) {s' : List (Nat × AV)}
    (hs : ∀ t, getS s' t = getS st.s t ∨ ∃ i o, i ∈ E ∧ listed.getD i false = false ∧ p.hops[i]? = some o ∧ o.dst = some t) : ∀ t ∈ rdO o, getS s' t = getS st.s t := by
  intro t ht
  obtain ⟨_, _, _, hpre⟩ := ready_pre hp hJ hr
  rcases hs t with h | ⟨k, ok, h1, h2, h3, h4⟩
  · exact h
  · have hqk : p.quiet k = true := by
      cases hb : p.quiet k
      · rw [hJ.heavy k h1 hb] at h2; simp at h2
      · rfl
    obtain ⟨o', d, ho', _, hd, hrd⟩ := quiet_spec hqk
    rw [h3] at ho'
    injection ho' with ho'
    subst ho'
    rw [h4] at hd
    injection hd with hd
    subst hd
    rw [hpre k (hrd i o ho ht)] at h2
    simp at h2
theorem exec_q (hp : PlanOk p ops) (hh : ∀ (i : Nat) ho, p.hops[i]? = some ho → ∃ o, ops[i]? = some o ∧ compOper P N ops o = some ho) (hJ : Drawn P G N h0 φ0 T0 w0 p E st listed a w) {i : Nat} (hr : i ∈ Region.ready .any ops listed) (hi : i ∈ E) {next : Act → World → Prop}
    (hn : ∀ a' w', Drawn P G N h0 φ0 T0 w0 p E st (listed.setIfInBounds i true) a' w' → next a' w') : wpOpIn (fe ro) 0 P ops Q i next a w := by
  obtain ⟨hul, hlt, ⟨c, hc⟩, hpre⟩ := ready_pre hp hJ hr
  have hq : p.quiet i = true := by
    cases hb : p.quiet i
    · rw [hJ.heavy i hi hb] at hul; simp at hul
    · rfl
  obtain ⟨o, d, ho, hqh, hd, hrd⟩ := quiet_spec hq
  obtain ⟨s', hs, hS⟩ := hJ.inv
  have hrs := reads_same hp hJ hr ho hs
  have hck := hJ.pend i hi hul o ho
  obtain ⟨c', hc', hcomp⟩ := hh i o ho
  have fin : ∀ x a' w', x = getS st.s d → SInv P G N h0 φ0 T0 w0 ⟨st.r, putO s' o.dst x, st.T⟩ a' w' → next a' w' := by
    intro x a' w' hx hS'
    have hsz : i < listed.size := by rw [hJ.size]; exact hlt
    refine hn a' w' ⟨by simpa using hJ.size, hJ.lt, fun k hk => ?_, fun k hk q hqm => ?_, fun k hk hqk => ?_, hJ.ecl, fun k hk hk2 => ?_, hJ.once, putO s' o.dst x, fun t => ?_, hS'⟩
    · rcases (listed_set hsz k).1 hk with rfl | h
      · exact hi
      · exact hJ.sub k h
    · refine (listed_set hsz q).2 (.inr ?_)
      rcases (listed_set hsz k).1 hk with rfl | h
      · exact hpre q hqm
      · exact hJ.clo k h q hqm
    · exact (listed_set hsz k).2 (.inr (hJ.heavy k hk hqk))
    · refine hJ.pend k hk ?_
      cases hb : listed.getD k false
      · rfl
      · rw [(listed_set hsz k).2 (.inr hb)] at hk2; simp at hk2
    · by_cases ht : o.dst = some t
      · rw [ht]
        rw [hd] at ht
        injection ht with ht
        subst ht
        exact .inl (by rw [put_at]; exact hx)
      · rw [putO_off ht]
        rcases hs t with h | ⟨k, ok, h1, h2, h3, h4⟩
        · exact .inl h
        · refine .inr ⟨k, ok, h1, ?_, h3, h4⟩
          cases hb : (listed.setIfInBounds i true).getD k false
          · rfl
          · rcases (listed_set hsz k).1 hb with rfl | h
            · rw [ho] at h3; injection h3 with h3; subst h3; exact absurd h4 ht
            · rw [h2] at h; simp at h
  refine exec_op hc' hcomp hS ?_
  have hw : wants s' o.guard = wants st.s o.guard := wants_congr fun j b e => hrs j (by simp [rdO, e])
  simp only [chkW, and_true] at hck
  simp only [hw]
  cases hwv : wants st.s o.guard with
  | none => simp [hwv] at hck
  | some b =>
    rw [hwv] at hck
    cases b with
    | false =>
      simp only [hd, Option.map_some, Option.some.injEq] at hck
      exact fun a' w' hS' => fin _ a' w' hck.symm hS'
    | true =>
      simp only at hck ⊢
      rw [opW_congr (s' := st.s) fun t ht => hrs t (by simp only [rdO, List.mem_append]; exact .inl ht)]
      split at hck
      · rename_i x T' he
        simp only [hd, Option.map_some, Option.some.injEq] at hck
        have hT := hop_quiet hqh he
        subst hT
        exact opW_of_hop (st := ⟨st.r, st.s, st.T⟩) hqh he fun a' w' hS' => fin x a' w' hck.symm hS'
      · exact hck.elim
theorem exec_h (hp : PlanOk p ops) (hh : ∀ (i : Nat) ho, p.hops[i]? = some ho → ∃ o, ops[i]? = some o ∧ compOper P N ops o = some ho) (hJ : Drawn P G N h0 φ0 T0 w0 p E st listed a w) {i : Nat} (hr : i ∈ Region.ready .any ops listed) (hi : i ∉ E) (hq : p.quiet i = false)
    {o : HOper} (ho : p.hops[i]? = some o) {K : AV → Tab → Prop}
    (hw : match wants st.s o.guard with
      | some true => opW P G st o.op fun x T => chkW G ⟨st.r, putO st.s o.dst x, T⟩ (if quietH o.op then [] else p.pend (i :: E)) ∧ K x T
      | some false => chkW G ⟨st.r, putO st.s o.dst (.v undef), st.T⟩ (if quietH o.op then [] else p.pend (i :: E)) ∧ K (.v undef) st.T
      | none => False) {next : Act → World → Prop}
    (hn : ∀ x T a' w', K x T → Drawn P G N h0 φ0 T0 w0 p (i :: E) ⟨st.r, putO st.s o.dst x, T⟩ (listed.setIfInBounds i true) a' w' → next a' w') : wpOpIn (fe ro) 0 P ops Q i next a w := by
  obtain ⟨hul, hlt, ⟨c, hc⟩, hpre⟩ := ready_pre hp hJ hr
  obtain ⟨s', hs, hS⟩ := hJ.inv
  have hrs := reads_same hp hJ hr ho hs
  obtain ⟨c', hc', hcomp⟩ := hh i o ho
  have hsz : i < listed.size := by rw [hJ.size]; exact hlt
  have fin : ∀ x T a' w', chkW G ⟨st.r, putO st.s o.dst x, T⟩ (if quietH o.op then [] else p.pend (i :: E)) → (quietH o.op = true → T = st.T) → K x T →
      SInv P G N h0 φ0 T0 w0 ⟨st.r, putO s' o.dst x, T⟩ a' w' → next a' w' := by
    intro x T a' w' hck hqT hk hS'
    have hclo : ∀ k, (listed.setIfInBounds i true).getD k false = true → ∀ q ∈ p.p k, (listed.setIfInBounds i true).getD q false = true := fun k hk q hqm => by
      refine (listed_set hsz q).2 (.inr ?_)
      rcases (listed_set hsz k).1 hk with rfl | h
      · exact hpre q hqm
      · exact hJ.clo k h q hqm
    have hheavy : ∀ k ∈ i :: E, p.quiet k = false → (listed.setIfInBounds i true).getD k false = true := fun k hk hqk => by
      rcases List.mem_cons.1 hk with rfl | hk
      · exact (listed_set hsz k).2 (.inl rfl)
      · exact (listed_set hsz k).2 (.inr (hJ.heavy k hk hqk))
    refine hn x T a' w' hk ⟨by simpa using hJ.size, fun k hk => ?_, fun k hk => ?_, hclo, hheavy, fun k hk q hqm => ?_, fun k hk hk2 ok hok => ?_, once_putO hJ.once _ _, putO s' o.dst x, fun t => ?_, hS'⟩
    · rcases List.mem_cons.1 hk with rfl | hk
      · exact hlt
      · exact hJ.lt k hk
    · rcases (listed_set hsz k).1 hk with rfl | h
      · simp
      · exact List.mem_cons_of_mem _ (hJ.sub k h)
    · rcases List.mem_cons.1 hk with rfl | hk
      · exact List.mem_cons_of_mem _ (hJ.sub q (hpre q hqm))
      · exact List.mem_cons_of_mem _ (hJ.ecl k hk q hqm)
    · have hki : k ≠ i := fun e => by
        rw [(listed_set hsz k).2 (.inl e)] at hk2; simp at hk2
      have hkE : k ∈ E := by
        rcases List.mem_cons.1 hk with h | h
        · exact absurd h hki
        · exact h
      have hkl : listed.getD k false = false := by
        cases hb : listed.getD k false
        · rfl
        · rw [(listed_set hsz k).2 (.inr hb)] at hk2; simp at hk2
      have hqk : p.quiet k = true := by
        cases hb : p.quiet k
        · rw [hJ.heavy k hkE hb] at hkl; simp at hkl
        · rfl
      by_cases hqo : quietH o.op = true
      · have hT := hqT hqo
        subst hT
        rw [chkW_congr (s' := st.s) ?_ ?_]
        · exact hJ.pend k hkE hkl ok hok
        · intro t ht
          refine putO_off fun e => ?_
          rcases hp.rds i k o ok t ho hok e ht hq hqk with h1 | h1
          · exact hi (hJ.ecl k hkE i h1)
          · rw [hpre k h1] at hkl; simp at hkl
        · cases hdk : ok.dst with
          | none => rfl
          | some dk =>
            simp only [Option.map_some, Option.some.injEq]
            exact putO_off fun e => hki (hp.dst i k o ok dk ho hok e hdk)
      · rw [if_neg hqo] at hck
        refine (chkW_iff.1 hck) ok ?_
        simp only [Plan.pend, List.mem_filterMap, List.mem_filter, Bool.and_eq_true, Bool.not_eq_true', List.any_eq_false]
        refine ⟨k, ⟨hk, hqk, fun h hm hb => ?_⟩, hok⟩
        simp only [Bool.not_eq_true', Bool.and_eq_true, Bool.not_eq_eq_eq_not, Bool.not_true, List.contains_eq_mem, decide_eq_true_eq] at hb
        rw [hclo h (hheavy h hm hb.1) k hb.2] at hk2
        simp at hk2
    · by_cases ht : o.dst = some t
      · simp only [ht, put_at, true_or]
      · simp only [putO_off ht]
        rcases hs t with h | ⟨k, ok, h1, h2, h3, h4⟩
        · exact .inl h
        · refine .inr ⟨k, ok, by simp [h1], ?_, h3, h4⟩
          cases hb : (listed.setIfInBounds i true).getD k false
          · rfl
          · rcases (listed_set hsz k).1 hb with rfl | h
            · exact absurd h1 hi
            · rw [h2] at h; simp at h
  refine exec_op hc' hcomp hS ?_
  have hwe : wants s' o.guard = wants st.s o.guard := wants_congr fun j b e => hrs j (by simp [rdO, e])
  simp only [hwe]
  cases hwv : wants st.s o.guard with
  | none => simp [hwv] at hw
  | some b =>
    rw [hwv] at hw
    cases b with
    | false =>
      simp only at hw ⊢
      exact fun a' w' hS' => fin _ _ a' w' hw.1 (fun _ => rfl) hw.2 hS'
    | true =>
      simp only at hw ⊢
      rw [opW_congr (s' := st.s) fun t ht => hrs t (by simp only [rdO, List.mem_append]; exact .inl ht)]
      refine opW_mono (fun x T h a' w' hS' => ?_) (opW_quiet hw)
      exact fin x T a' w' h.1.1 h.2 h.1.2 hS'
theorem alts_get {gc : Bool} {n : Nat} {c : Bool} {G : Nat → Option (List AV)} {K : St → Prop} : ∀ {l : List Nat} {hd : HD}, l.foldr (fun i acc => match acc, p.hops[i]?, mkHD p n (gc || c) (i :: E) with
        | some t, some o, some x => some (.alt o (if quietH o.op then [] else p.pend (i :: E)) x t)
        | _, _, _ => none) (some .no) = some hd → hdW P G hd st K → ∀ i ∈ l, ∃ o x, p.hops[i]? = some o ∧ mkHD p n (gc || c) (i :: E) = some x ∧ (match wants st.s o.guard with
    | some true => opW P G st o.op fun y T => chkW G ⟨st.r, putO st.s o.dst y, T⟩ (if quietH o.op then [] else p.pend (i :: E)) ∧ hdW P G x ⟨st.r, putO st.s o.dst y, T⟩ K
    | some false => chkW G ⟨st.r, putO st.s o.dst (.v undef), st.T⟩ (if quietH o.op then [] else p.pend (i :: E)) ∧ hdW P G x ⟨st.r, putO st.s o.dst (.v undef), st.T⟩ K
    | none => False)
  | [], hd, _, _, i, hi => by simp at hi
  | j :: l, hd, he, hw, i, hi => by
    simp only [List.foldr_cons] at he
    split at he
    · rename_i t o x h1 h2 h3
      injection he with he
      subst he
      simp only [hdW] at hw
      rcases List.mem_cons.1 hi with rfl | hi
      · exact ⟨o, x, h2, h3, hw.1⟩
      · exact alts_get h1 hw.2 i hi
    · simp at he
theorem hd_sound (hp : PlanOk p ops) (hh : ∀ (i : Nat) ho, p.hops[i]? = some ho → ∃ o, ops[i]? = some o ∧ compOper P N ops o = some ho) {K : St → Prop}
    (hn : ∀ st' a' w', K st' → SInv P G N h0 φ0 T0 w0 st' a' w' → Q .normal a' w') : ∀ (n : Nat) (gc : Bool) (E : List Nat) (hd : HD) (st : St), mkHD p n gc E = some hd → hdW P G hd st K →
    ∀ (fuel : Nat) (listed : Array Bool) (a : Act) (w : World), Drawn P G N h0 φ0 T0 w0 p E st listed a w → unl listed p.hops.length ≤ fuel → wpAnyIn (fe ro) 0 P .any ops Q fuel listed a w
  | 0, gc, E, hd, st, hm, _ => by simp [mkHD] at hm
  | n + 1, gc, E, hd, st, hm, hw => by
    intro fuel listed a w hJ hf
    simp only [mkHD] at hm
    split at hm
    ·
      rename_i i hfi
      have hri := List.mem_of_find?_eq_some hfi
      have hqi := List.find?_some hfi
      split at hm
      · rename_i o ho
        cases hx : mkHD p n gc (i :: E) with
        | none => simp [hx] at hm
        | some hd' =>
          simp only [hx, Option.map_some, Option.some.injEq] at hm
          subst hm
          simp only [hdW] at hw
          split at hw
          · rename_i hwt
            split at hw
            · rename_i x T' he
              exact hd_sound hp hh hn n gc (i :: E) hd' _ hx hw fuel listed a w (drawn_q hp hJ hri hqi ho (.inl ⟨hwt, T', he⟩)) hf
            · exact hw.elim
          · rename_i hwt
            exact hd_sound hp hh hn n gc (i :: E) hd' _ hx hw fuel listed a w (drawn_q hp hJ hri hqi ho (.inr ⟨hwt, rfl⟩)) hf
          · exact hw.elim
      · simp at hm
    · rename_i hnone
      have hnq : ∀ i ∈ p.ready E, p.quiet i = false := fun i hi => by
        have := List.find?_eq_none.1 hnone i hi
        simpa using this
      have step : ∀ (fuel : Nat), (∀ (listed : Array Bool) (a : Act) (w : World), Drawn P G N h0 φ0 T0 w0 p E st listed a w → unl listed p.hops.length ≤ fuel → wpAnyIn (fe ro) 0 P .any ops Q fuel listed a w) →
          ∀ (listed : Array Bool) (a : Act) (w : World), Drawn P G N h0 φ0 T0 w0 p E st listed a w → unl listed p.hops.length ≤ fuel + 1 → ∀ i ∈ Region.ready .any ops listed, wpOpIn (fe ro) 0 P ops Q i (wpAnyIn (fe ro) 0 P .any ops Q fuel (listed.setIfInBounds i true)) a w := by
        intro fuel ih listed a w hJ hf i hi
        obtain ⟨hul, hlt, _, hpre⟩ := ready_pre hp hJ hi
        have hf' : unl (listed.setIfInBounds i true) p.hops.length ≤ fuel := by
          have := unl_set (by rw [hJ.size]; exact hlt) hul hlt
          omega
        by_cases hiE : i ∈ E
        · exact exec_q hp hh hJ hi hiE fun a' w' hJ' => ih _ a' w' hJ' hf'
        · have hri : i ∈ p.ready E := by
            simp only [Plan.ready, List.mem_filter, List.mem_range, Bool.and_eq_true, Bool.not_eq_true', List.contains_eq_mem, decide_eq_false_iff_not, List.all_eq_true, decide_eq_true_eq]
            exact ⟨hlt, hiE, fun q hq => hJ.sub q (hpre q hq)⟩
          split at hm
          · rename_i he; rw [he] at hri; simp at hri
          · rename_i c cs he
            rw [he] at hri
            obtain ⟨o, x, h1, h2, h3⟩ := alts_get hm hw i hri
            exact exec_h hp hh hJ hi hiE (hnq i (by rw [he]; exact hri)) h1 h3 fun y T a' w' hk hJ' => hd_sound hp hh hn n _ (i :: E) x _ h2 hk fuel _ a' w' hJ' hf'
      have fin : ∀ (listed : Array Bool) (a : Act) (w : World), Drawn P G N h0 φ0 T0 w0 p E st listed a w → (∀ i, i < p.hops.length → listed.getD i false = true) → Q .normal a w := by
        intro listed a w hJ hall
        split at hm
        · injection hm with hm
          subst hm
          simp only [hdW] at hw
          obtain ⟨s', hs, hS⟩ := hJ.inv
          have hS' : SInv P G N h0 φ0 T0 w0 st a w := by
            obtain ⟨hr, _, ⟨h, φ, hG, hE, hI, hSl⟩, hsz, hdf⟩ := hS
            refine ⟨hr, hJ.once, ⟨h, φ, hG, hE, hI, fun t => ?_⟩, hsz, hdf⟩
            have h1 := hSl t
            rcases hs t with h2 | ⟨k, ok, h2, h3, _⟩
            · simp only at h1; rw [h2] at h1; exact h1
            · rw [hall k (hJ.lt k h2)] at h3; simp at h3
          refine hn _ a w hw ?_
          split
          · exact gcs_ok _ hS'
          · exact hS'
        · rename_i c cs he
          have hc : c ∈ p.ready E := by rw [he]; simp
          simp only [Plan.ready, List.mem_filter, List.mem_range, Bool.and_eq_true, Bool.not_eq_true', List.contains_eq_mem, decide_eq_false_iff_not] at hc
          exact absurd (hJ.sub c (hall c hc.1)) hc.2.1
      refine (?_ : ∀ (fuel : Nat) (listed : Array Bool) (a : Act) (w : World), Drawn P G N h0 φ0 T0 w0 p E st listed a w → unl listed p.hops.length ≤ fuel → wpAnyIn (fe ro) 0 P .any ops Q fuel listed a w) fuel listed a w hJ hf
      clear hf hJ listed a w fuel
      intro fuel listed a w
      induction fuel generalizing listed a w with
      | zero =>
        intro hJ hf
        have hall := unl_zero (Nat.le_zero.1 hf)
        refine ⟨?_, fin listed a w hJ hall⟩
        cases hr : Region.ready .any ops listed with
        | nil => rfl
        | cons i l =>
          obtain ⟨hul, hlt, _, _⟩ := ready_pre hp hJ (i := i) (by rw [hr]; simp)
          rw [hall i hlt] at hul
          simp at hul
      | succ fuel ih =>
        intro hJ hf
        exact ⟨fun hr => fin listed a w hJ (ready_nil hp hJ.size hr), step fuel (fun l a w => ih l a w) listed a w hJ hf⟩
theorem draw_sound {hd : HD} {K : St → Prop} (hc : compDraw P N ops = some hd) (hw : hdW P G hd st K) (hS : SInv P G N h0 φ0 T0 w0 st a w)
    (hn : ∀ st' a' w', K st' → SInv P G N h0 φ0 T0 w0 st' a' w' → Q .normal a' w') : wpAnyIn (fe ro) 0 P .any ops Q ops.size (Array.replicate ops.size false) a w := by
  unfold compDraw at hc
  split at hc
  · simp at hc
  · rename_i hl hcl
    simp only at hc
    split at hc
    · rename_i hok
      simp only [Bool.and_eq_true, beq_iff_eq] at hok
      obtain ⟨hlen, hget⟩ := compOps_get hcl
      have hp := plan_ok hok.2 hok.1
      have hf : ∀ i, (Array.replicate ops.size false).getD i false = false := fun i => by simp [Array.getD_eq_getD_getElem?, Array.getElem?_replicate]; split <;> rfl
      refine hd_sound hp (fun i ho hi => ?_) hn _ _ [] hd st hc hw _ _ a w ⟨by simpa using hok.2.symm, by simp, fun i h => by rw [hf] at h; simp at h, fun i h => by rw [hf] at h; simp at h, by simp, by simp, by simp, hS.once, st.s, fun t => .inl rfl, hS⟩ ?_
      · obtain ⟨o, h1, h2⟩ := hget i ho hi
        exact ⟨o, by simpa using h1, h2⟩
      · have : ∀ m, unl (Array.replicate ops.size false) m = m := fun m => by
          induction m with
          | zero => rfl
          | succ m ih => simp only [unl, ih, hf]; simp
        rw [this]
        exact Nat.le_of_eq hok.2
    · simp at hc
end
theorem SInv.drawn {P : Program} {G : Nat → Option (List AV)} {N : Nat} {h0 : GH} {φ0 : Nat → Value} {T0 : Tab} {w0 : World} {st : St} {a : Act} {w : World} (hS : SInv P G N h0 φ0 T0 w0 st a w) :
    SInv P G N h0 φ0 T0 w0 st a { w with drawn := w.drawn + 1 } := by
  obtain ⟨hr, honce, ⟨h, φ, hG, hE, hI, hSl⟩, hsz, hdf⟩ := hS
  exact ⟨hr, honce, ⟨h, φ, hG, ⟨hE.os, hE.tape, hE.output, hE.size, hE.frame, hE.le, hE.gfr, hE.phi, hE.org, hE.len, Nat.le_trans hE.drawn (Nat.le_succ _)⟩, ⟨hI.gh, hI.obj, hI.dis⟩, hSl⟩, hsz, hdf⟩
end Hud
end
