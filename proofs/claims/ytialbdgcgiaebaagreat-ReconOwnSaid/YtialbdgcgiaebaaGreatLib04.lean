import Derived.Test.YtialbdgcgiaebaaGreatLib03
set_option linter.all false
section
namespace Hud
open Go
section
variable {P : Program} {G : Nat → Option (List AV)} {h : GH} {φ : Nat → Value} {w : World} {a : Act} {st : St} {K : AV → Tab → Prop} {next : Act → World → Prop} {Q : Exit → Act → World → Prop}
def OpOk (P : Program) (o : Oper) (a : Act) (w : World) (next : Act → World → Prop) : Prop :=
  match (execOp a.eval o).run P w with
  | .ok (.value v) w' => next (a.put o.dst v) w'
  | .ok .skip w' => next (a.put o.dst undef) w'
  | .ok (.enter f args) w' => Calls P f args w' fun e w'' => ∃ v, e = .returned v ∧ next (a.put o.dst v) w''
  | .ok (.round l f tmps as_ body) w' => RoundIn Fence.wide 0 P l f tmps as_ body w' fun e w'' => ∃ v, e = .returned v ∧ next (a.put o.dst v) w''
  | _ => False
theorem val_wp {o : Oper} {sv : Sem Value} (he : execOp a.eval o = (do pure (.value (← sv)))) {v : Value} {w' : World} (hr : sv.run P w = .ok v w') (hn : next (a.put o.dst v) w') : OpOk P o a w next := by
  unfold OpOk
  rw [he]
  simp only [Sem.run_bind, hr, Result.andThen_ok, Sem.run_pure]
  exact hn
theorem ret_pure {T : Tab} (hI : Inv h φ w T) {x : AV} {v : Value} (hx : Rp h φ T.length x v) {K : AV → Tab → Prop} (hk : K x T) : Ret h φ T w K v w :=
  ⟨x, T, h, φ, hk, Evo.refl, hI, hx⟩
theorem ret_makes {T T' : Tab} {x : AV} {r : Result Value} (hm : Makes h φ T w r x T') {K : AV → Tab → Prop} (hk : K x T') : ∃ v w', r = .ok v w' ∧ Ret h φ T w K v w' :=
  let ⟨v, w', h', φ', e1, e2, e3, e4⟩ := hm
  ⟨v, w', e1, x, T', h', φ', hk, e2, e3, e4⟩
theorem hopW {ho : HOp} (hcall : (∀ f l, ho ≠ .call f l) ∧ (∀ p, ho ≠ .nxt p) ∧ ∀ n k x, ho ≠ .nilS n k x) (hw : opW P G st ho K) : ∃ x T', hop st.T (evO G st.s) ho = some (x, T') ∧ K x T' := by
  unfold opW at hw
  split at hw
  · exact absurd rfl (hcall.1 _ _)
  · exact absurd rfl (hcall.2.1 _)
  · exact absurd rfl (hcall.2.2 _ _ _)
  · split at hw
    · rename_i x T' e; exact ⟨x, T', e, hw⟩
    · exact hw.elim
theorem aggC_ok {n : Nat} {x : AV} {u : Value} {cs : List AV} (hx : Rp h φ n x u) (e : aggC x = some cs) : ∃ us : Array Value, u = .agg us ∧ RpL h φ n cs us.toList := by
  unfold aggC at e
  split at e
  · injection e with e; subst e
    simpa only [Rp] using hx
  · injection e with e; subst e
    simp only [Rp] at hx
    exact ⟨_, hx, rpl_v h φ n _⟩
  · simp at e
theorem eqC_ok {n : Nat} : ∀ {ks : List LK} {cs ds : List AV} {us vs : List Value} {b : Bool}, eqC ks cs ds = some b → RpL h φ n cs us → RpL h φ n ds vs → eqV ks us vs = some b
  | [], cs, ds, us, vs, b, e, h1, h2 => by
    cases cs with
    | nil =>
      cases ds with
      | nil => simp only [RpL] at h1 h2; subst h1; subst h2; simpa [eqC, eqV] using e
      | cons d ds => simp [eqC] at e
    | cons c cs => simp [eqC] at e
  | k :: ks, cs, ds, us, vs, b, e, h1, h2 => by
    unfold eqC at e
    split at e
    · rename_i hh; simp at hh
    · rename_i k ks' k1 p cs k2 q ds hh
      injection hh with hh1 hh2
      subst hh1; subst hh2
      simp only [RpL, Rp] at h1 h2
      obtain ⟨u, us', rfl, rfl, h3⟩ := h1
      obtain ⟨v, vs', rfl, rfl, h4⟩ := h2
      split at e
      · rename_i hk
        split at e
        · rename_i r hr
          have := eqC_ok hr h3 h4
          simp only [eqV, hk, this, and_self, if_true]
          exact e
        · simp at e
      · simp at e
    · rename_i ks' p cs q ds hh
      injection hh with hh1 hh2
      subst hh1; subst hh2
      simp only [RpL, Rp] at h1 h2
      obtain ⟨u, us', rfl, rfl, h3⟩ := h1
      obtain ⟨v, vs', rfl, rfl, h4⟩ := h2
      split at e
      · rename_i r hr
        have := eqC_ok hr h3 h4
        simp only [eqV, this]
        exact e
      · simp at e
    · rename_i ks' p cs q ds hh
      injection hh with hh1 hh2
      subst hh1; subst hh2
      simp only [RpL, Rp] at h1 h2
      obtain ⟨u, us', rfl, rfl, h3⟩ := h1
      obtain ⟨v, vs', rfl, rfl, h4⟩ := h2
      split at e
      · rename_i r hr
        have := eqC_ok hr h3 h4
        simp only [eqV, this]
        exact e
      · simp at e
    · simp at e
theorem kindsT_struct {n : Nat} {t : TypeId} {fs : Array Field} (ht : P.underlying t = some (.struct fs)) {ag : Bool} {ks : List LK} (hk : kindsT P n t = some (ag, ks)) : ag = true := by
  cases n with
  | zero => simp [kindsT] at hk
  | succ n =>
    simp only [kindsT, ht] at hk
    split at hk
    · simp at hk
    · split at hk
      · injection hk with hk; injection hk with hk _; exact hk.symm
      · simp at hk
set_option maxHeartbeats 4000000 in
theorem op_sound1 {o : Oper} {ho : HOp} (hc : compOp1 P o = some ho) (hw : opW P G st ho K) (hG : GOk G h) (hI : Inv h φ w st.T) (hS : SOk h φ st.T.length st.s a)
    (hn : ∀ v w', Ret h φ st.T w K v w' → next (a.put o.dst v) w') : OpOk P o a w next := by
  have pure_op : ∀ {sv : Sem Value} (_ : execOp a.eval o = (do pure (.value (← sv)))) (_ : (∀ f l, ho ≠ .call f l) ∧ (∀ p, ho ≠ .nxt p) ∧ ∀ n k x, ho ≠ .nilS n k x) (_ : ∀ x T', hop st.T (evO G st.s) ho = some (x, T') → T' = st.T ∧ ∃ v, sv.run P w = .ok v w ∧ Rp h φ st.T.length x v), OpOk P o a w next := by
    intro sv he hcall hrun
    obtain ⟨x, T', e, hk⟩ := hopW hcall hw
    obtain ⟨rfl, v, h1, h2⟩ := hrun x T' e
    exact val_wp he h1 (hn v w (ret_pure hI h2 hk))
  have make_op : ∀ {sv : Sem Value} (_ : execOp a.eval o = (do pure (.value (← sv)))) (_ : (∀ f l, ho ≠ .call f l) ∧ (∀ p, ho ≠ .nxt p) ∧ ∀ n k x, ho ≠ .nilS n k x) (_ : ∀ x T', hop st.T (evO G st.s) ho = some (x, T') → Makes h φ st.T w (sv.run P w) x T'), OpOk P o a w next := by
    intro sv he hcall hrun
    obtain ⟨x, T', e, hk⟩ := hopW hcall hw
    obtain ⟨v, w', h1, h2⟩ := ret_makes (hrun x T' e) hk
    exact val_wp he h1 (hn v w' h2)
  obtain ⟨dst, op, ty, pos, after, guard⟩ := o
  cases op with
  | move x =>
    simp only [compOp1, Option.some.injEq] at hc
    subst hc
    refine pure_op (sv := pure (a.eval x)) rfl (by simp) fun y T' e => ?_
    simp only [hop, Option.some.injEq, Prod.mk.injEq] at e
    obtain ⟨rfl, rfl⟩ := e
    exact ⟨rfl, _, rfl, ev_ok hG hS x⟩
  | assign x =>
    simp only [compOp1, Option.some.injEq] at hc
    subst hc
    refine pure_op (sv := pure (a.eval x)) rfl (by simp) fun y T' e => ?_
    simp only [hop, Option.some.injEq, Prod.mk.injEq] at e
    obtain ⟨rfl, rfl⟩ := e
    exact ⟨rfl, _, rfl, ev_ok hG hS x⟩
  | pick c x y =>
    simp only [compOp1, Option.some.injEq] at hc
    subst hc
    obtain ⟨z, T', e, hk⟩ := hopW (by simp) hw
    simp only [hop] at e
    split at e
    · rename_i t ht
      simp only [Option.some.injEq, Prod.mk.injEq] at e
      obtain ⟨rfl, rfl⟩ := e
      unfold OpOk
      have : execOp a.eval { dst := dst, op := .pick c x y, type := ty, pos := pos, after := after, guard := guard } = (do pure (.value (if ← asBool (a.eval c) then a.eval x else a.eval y))) := rfl
      rw [this, ev_v hG hS ht]
      simp only [Sem.run_bind, asBool, Sem.run_pure, Result.andThen_ok]
      refine hn _ _ (ret_pure hI ?_ hk)
      cases t
      · exact ev_ok hG hS y
      · exact ev_ok hG hS x
    · simp at e
  | binOp op t x y ty2 =>
    simp only [compOp1] at hc
    split at hc
    · rename_i hop'
      split at hc
      · injection hc with hc
        subst hc
        refine pure_op (sv := do eqGuard op t x y (a.eval x) (a.eval y); binOp op t (a.eval x) (a.eval y)) rfl (by simp) fun z T' e => ?_
        simp only [hop] at e
        split at e
        · rename_i u v hu hv
          split at e
          · rename_i r hr
            simp only [Option.some.injEq, Prod.mk.injEq] at e
            obtain ⟨rfl, rfl⟩ := e
            rw [ev_v hG hS hu, ev_v hG hS hv]
            exact ⟨rfl, r, bin_run hr, by simp [Rp]⟩
          · simp at e
        · simp at e
      · rename_i ht
        injection hc with hc
        subst hc
        refine pure_op (sv := do eqGuard op t x y (a.eval x) (a.eval y); binOp op t (a.eval x) (a.eval y)) rfl (by simp) fun z T' e => ?_
        simp only [hop] at e
        split at e
        · rename_i u v hu hv
          simp only [Option.some.injEq, Prod.mk.injEq] at e
          obtain ⟨rfl, rfl⟩ := e
          rw [ev_v hG hS hu, ev_v hG hS hv]
          exact ⟨rfl, _, eqb_run hop' ht, by simp [Rp]⟩
        · simp at e
      · injection hc with hc
        subst hc
        refine pure_op (sv := do eqGuard op t x y (a.eval x) (a.eval y); binOp op t (a.eval x) (a.eval y)) rfl (by simp) fun z T' e => ?_
        simp only [hop] at e
        split at e
        · rename_i u v hu hv
          split at e
          · rename_i r hr
            simp only [Option.some.injEq, Prod.mk.injEq] at e
            obtain ⟨rfl, rfl⟩ := e
            rw [ev_v hG hS hu, ev_v hG hS hv]
            exact ⟨rfl, r, bin_run hr, by simp [Rp]⟩
          · simp at e
        · simp at e
      ·
        rename_i fs ht
        split at hc
        · rename_i ag ks hk
          split at hc
          · simp at hc
          · rename_i hgd
            injection hc with hc
            subst hc
            refine pure_op (sv := do eqGuard op t x y (a.eval x) (a.eval y); binOp op t (a.eval x) (a.eval y)) rfl (by simp) fun z T' e => ?_
            simp only [hop] at e
            split at e
            · rename_i cs ds h1 h2
              split at e
              · rename_i b hb
                simp only [Option.some.injEq, Prod.mk.injEq] at e
                obtain ⟨rfl, rfl⟩ := e
                obtain ⟨us, e1, r1⟩ := aggC_ok (ev_ok hG hS x) h1
                obtain ⟨vs, e2, r2⟩ := aggC_ok (ev_ok hG hS y) h2
                have hag : ag = true := kindsT_struct ht hk
                subst hag
                have hq := (eq_type (P := P) (w := w) 20 t true ks hk).2 10000 (by omega) us.toList vs.toList b (eqC_ok hb r1 r2)
                simp only [keyV, if_true, Array.toArray_toList] at hq
                rw [e1, e2]
                have hg2 : P.eqGuardType P.depth t = false := by simpa using hgd
                refine ⟨rfl, .bool (if op == .neq then !b else b), ?_, by simp [Rp]⟩
                rcases hop' with rfl | rfl
                · simp only [Sem.run_bind, run_eqGuard_agg w .eql t x y us vs hg2, Result.andThen_ok, run_eql_struct w t us vs, hq]
                  rfl
                · simp only [Sem.run_bind, run_eqGuard_agg w .neq t x y us vs hg2, Result.andThen_ok, run_neq_struct w t us vs, hq]
                  rfl
              · simp at e
            · simp at e
        · simp at hc
      · simp at hc
    · injection hc with hc
      subst hc
      refine pure_op (sv := do eqGuard op t x y (a.eval x) (a.eval y); binOp op t (a.eval x) (a.eval y)) rfl (by simp) fun z T' e => ?_
      simp only [hop] at e
      split at e
      · rename_i u v hu hv
        split at e
        · rename_i r hr
          simp only [Option.some.injEq, Prod.mk.injEq] at e
          obtain ⟨rfl, rfl⟩ := e
          rw [ev_v hG hS hu, ev_v hG hS hv]
          exact ⟨rfl, r, bin_run hr, by simp [Rp]⟩
        · simp at e
      · simp at e
  | unOp op t x =>
    simp only [compOp1, Option.some.injEq] at hc
    subst hc
    refine pure_op (sv := Op.unary op (a.eval x)) rfl (by simp) fun z T' e => ?_
    simp only [hop] at e
    split at e
    · rename_i u hu
      split at e
      · rename_i r hr
        simp only [Option.some.injEq, Prod.mk.injEq] at e
        obtain ⟨rfl, rfl⟩ := e
        rw [ev_v hG hS hu]
        exact ⟨rfl, r, un_run hr, by simp [Rp]⟩
      · simp at e
    · simp at e
  | convert src d x =>
    simp only [compOp1] at hc
    split at hc
    · rename_i sd k hs hd
      injection hc with hc
      subst hc
      refine pure_op (sv := convert src d (a.eval x)) rfl (by simp) fun z T' e => ?_
      simp only [hop] at e
      split at e
      · rename_i kk n hu
        simp only [Option.some.injEq, Prod.mk.injEq] at e
        obtain ⟨rfl, rfl⟩ := e
        rw [ev_v hG hS hu]
        exact ⟨rfl, _, by simp [convert, run_underlying hs, run_underlying hd, Conv.intToInt]; rfl, by simp [Rp]⟩
      · simp at e
    · simp at hc
  | box e x =>
    simp only [compOp1, Option.some.injEq] at hc
    subst hc
    exact make_op (sv := Instr.box e (a.eval x)) rfl (by simp) fun z T' he => box_makes hG hI hS he
  | alloc e =>
    simp only [compOp1] at hc
    split at hc
    · rename_i i hi
      split at hc
      · rename_i z hz
        split at hc
        · injection hc with hc
          subst hc
          exact make_op (sv := Instr.alloc e true (.tuple #[])) rfl (by simp) fun z T' he => alloc_makes hI hi hz he
        · simp at hc
      · simp at hc
    · simp at hc
  | build t parts =>
    simp only [compOp1] at hc
    split at hc
    · rename_i fs i ht hi
      split at hc
      · rename_i z l hz hl
        split at hc
        · rename_i hall
          injection hc with hc
          subst hc
          exact pure_op (sv := Instr.build t (parts.map fun (i, x) => (i, a.eval x))) rfl (by simp) fun y T' he => bldS_gives ht hi hz hl hall hG hS he
        · simp at hc
      · simp at hc
    · simp at hc
  | buildSlice t len parts =>
    simp only [compOp1] at hc
    split at hc
    · rename_i e ht
      split at hc
      · rename_i i hi
        split at hc
        · rename_i z hz
          split at hc
          · rename_i hcs
            injection hc with hc
            subst hc
            exact make_op (sv := Instr.buildSlice t len (parts.map fun (i, x) => (i, a.eval x))) rfl (by simp) fun y T' he => bsl_makes ht hi hz hcs.1 hcs.2.1 hcs.2.2.1 hcs.2.2.2 hG hI hS he
          · simp at hc
        · simp at hc
      · simp at hc
    · simp at hc
  | load t x =>
    simp only [compOp1] at hc
    split at hc
    · rename_i n ht
      injection hc with hc
      subst hc
      exact pure_op (sv := Instr.loadAt t (a.eval x)) rfl (by simp) fun y T' he => load_gives ht hG hI hS he
    · simp at hc
  | store t x y =>
    simp only [compOp1] at hc
    split at hc
    · rename_i n ht
      injection hc with hc
      subst hc
      obtain ⟨z, T', e, hk⟩ := hopW (by simp) hw
      obtain ⟨w', h1, rfl, h2, h3⟩ := st_makes ht hG hI hS e
      unfold OpOk
      have : execOp a.eval { dst := dst, op := .store t x y, type := ty, pos := pos, after := after, guard := guard } = (do Instr.storeAt t (a.eval x) (a.eval y); pure .skip) := rfl
      rw [this]
      simp only [Sem.run_bind, h1, Result.andThen_ok, Sem.run_pure]
      exact hn undef w' ⟨_, T', h, φ, hk, h2, h3, by simp [Rp]⟩
    · simp at hc
  | fieldAddr t x f =>
    simp only [compOp1] at hc
    split at hc
    · rename_i fs ht
      split at hc
      · rename_i fd hf
        split at hc
        · rename_i n hn'
          split at hc
          · simp at hc
          · rename_i h0
            injection hc with hc
            subst hc
            exact pure_op (sv := Instr.fieldAt t (a.eval x) f) rfl (by simp) fun y T' he => fad_gives ht hf hn' h0 hG hS he
        · simp at hc
      · simp at hc
    · simp at hc
  | field t x f =>
    simp only [compOp1] at hc
    split at hc
    · rename_i fs ht
      split at hc
      · rename_i fd hf
        split at hc
        · rename_i m hm
          injection hc with hc
          subst hc
          exact pure_op (sv := Instr.field t (a.eval x) f) rfl (by simp) fun y T' he => fld_gives ht hf hm hG hS he
        · simp at hc
      · simp at hc
    · simp at hc
  | indexAddr t x ix =>
    simp only [compOp1] at hc
    split at hc
    · rename_i e ht
      split at hc
      · rename_i k hk
        split at hc
        · simp at hc
        · injection hc with hc
          subst hc
          exact pure_op (sv := Instr.indexAt t (a.eval x) (a.eval ix)) rfl (by simp) fun y T' he => iad_gives ht hk hG hI hS he
      · simp at hc
    · rename_i len e ht
      split at hc
      · rename_i k hk
        injection hc with hc
        subst hc
        exact pure_op (sv := Instr.indexAt t (a.eval x) (a.eval ix)) rfl (by simp) fun y T' he => iadA_gives ht hk hG hS he
      · simp at hc
    · simp at hc
  | index t x ix =>
    simp only [compOp1] at hc
    split at hc
    · rename_i ht
      injection hc with hc
      subst hc
      exact pure_op (sv := Instr.index t (a.eval x) (a.eval ix)) rfl (by simp) fun y T' he => ixS_gives ht hG hS he
    · simp at hc
  | extract x i =>
    simp only [compOp1, Option.some.injEq] at hc
    subst hc
    refine pure_op (sv := Instr.extract (a.eval x) i) rfl (by simp) fun y T' e => ?_
    have hx := ev_ok hG hS x
    simp only [hop] at e
    split at e
    · rename_i vs hev
      rw [hev] at hx
      simp only [Rp] at hx
      obtain ⟨us, hu, hr⟩ := hx
      split at e
      · rename_i z hz
        simp only [Option.some.injEq, Prod.mk.injEq] at e
        obtain ⟨rfl, rfl⟩ := e
        obtain ⟨u, h1, h2⟩ := hr.get hz
        have : us[i]? = some u := by simpa using h1
        rw [hu]
        exact ⟨rfl, u, by simp [Instr.extract, this], h2⟩
      · simp at e
    · rename_i us hev
      rw [ev_v hG hS hev]
      split at e
      · rename_i z hz
        simp only [Option.some.injEq, Prod.mk.injEq] at e
        obtain ⟨rfl, rfl⟩ := e
        have : us[i]? = some z := by simpa using hz
        exact ⟨rfl, z, by simp [Instr.extract, this], by simp [Rp]⟩
      · simp at e
    · simp at e
  | nilCheck x =>
    simp only [compOp1, Option.some.injEq] at hc
    subst hc
    obtain ⟨z, T', e, hk⟩ := hopW (by simp) hw
    have hx := ev_ok hG hS x
    have key : z = evO G st.s x ∧ T' = st.T ∧ ∃ ad, a.eval x = .pointer (some ad) := by
      simp only [hop] at e
      split at e
      · rename_i i o hev
        simp only [Option.some.injEq, Prod.mk.injEq] at e
        rw [hev] at hx; simp only [Rp] at hx
        obtain ⟨_, g, _, hu⟩ := hx
        exact ⟨by rw [hev]; exact e.1.symm, e.2.symm, _, hu⟩
      · rename_i i k j o hev
        simp only [Option.some.injEq, Prod.mk.injEq] at e
        rw [hev] at hx; simp only [Rp] at hx
        obtain ⟨_, g, _, _, _, hu⟩ := hx
        exact ⟨by rw [hev]; exact e.1.symm, e.2.symm, _, hu⟩
      · rename_i cs hev
        simp only [Option.some.injEq, Prod.mk.injEq] at e
        rw [hev] at hx; simp only [Rp] at hx
        obtain ⟨_, _, hu, _⟩ := hx
        exact ⟨by rw [hev]; exact e.1.symm, e.2.symm, _, hu⟩
      · simp at e
    obtain ⟨rfl, rfl, ad, hu⟩ := key
    unfold OpOk
    have : execOp a.eval { dst := dst, op := .nilCheck x, type := ty, pos := pos, after := after, guard := guard } = pure (.value (a.eval x)) := by
      simp only [execOp, hu]
    rw [this]
    simp only [Sem.run_pure]
    exact hn _ _ (ret_pure hI hx hk)
  | makeFunc fn first caps =>
    cases fn with
    | func f =>
      simp only [compOp1] at hc
      split at hc
      · rename_i h0
        injection hc with hc
        subst hc
        refine pure_op (sv := Instr.makeFunc (.func f) (first.map a.eval) (caps.map a.eval)) rfl (by simp) fun y T' e => ?_
        simp only [hop, Option.some.injEq, Prod.mk.injEq] at e
        obtain ⟨rfl, rfl⟩ := e
        have hf : first = #[] := Array.eq_empty_of_size_eq_zero h0
        subst hf
        refine ⟨rfl, .func (.func f) #[] (caps.map a.eval), by simp [Instr.makeFunc], ?_⟩
        simp only [Rp]
        exact ⟨_, rfl, by simpa using evL_ok hG hS caps.toList⟩
      · simp at hc
    | _ => simp [compOp1] at hc
  | call c =>
    obtain ⟨callee, args, argTypes⟩ := c
    simp only [compOp1] at hc
    cases callee with
    | value f =>
      simp only [Option.some.injEq] at hc
      subst hc
      unfold opW at hw
      simp only at hw
      split at hw
      · rename_i g caps hev
        have hf := ev_ok hG hS f
        rw [hev] at hf
        simp only [Rp] at hf
        obtain ⟨us, hu, hr⟩ := hf
        have hargs : RpL h φ st.T.length (args.toList.map (evO G st.s) ++ caps) (args.map a.eval ++ us).toList := by
          simpa using (evL_ok hG hS args.toList).app hr
        unfold OpOk
        have hx : ∀ wx, (execOp a.eval { dst := dst, op := .call { callee := .value f, args := args, argTypes := argTypes }, type := ty, pos := pos, after := after, guard := guard }).run P wx = (callFunc g (args.map a.eval ++ us)).run P wx := by
          intro wx
          simp only [execOp, resolve, hu, Deferred.ofValue, Sem.run_bind, Sem.run_pure, Result.andThen_ok, invoke, Array.empty_append]
        rw [hx]
        rcases callW_ok hw hG hI hargs with ⟨e1, c⟩ | ⟨v, w', e1, c⟩
        · rw [e1]
          show Calls P g _ w _
          exact c.mono fun e w' ⟨v, he, hret⟩ => ⟨v, he, hn v w' hret⟩
        · rw [e1]
          exact hn v w' c
      · rename_i g k cs hev
        have hf := ev_ok hG hS f
        rw [hev] at hf
        simp only [Rp] at hf
        obtain ⟨us, hu, hr⟩ := hf
        have hargs : RpL h φ st.T.length (cs.take k ++ args.toList.map (evO G st.s) ++ cs.drop k) ((us.toList.take k).toArray ++ args.map a.eval ++ (us.toList.drop k).toArray).toList := by
          simpa using ((hr.take k).app (evL_ok hG hS args.toList)).app (hr.drop k)
        unfold OpOk
        have hx : ∀ wx, (execOp a.eval { dst := dst, op := .call { callee := .value f, args := args, argTypes := argTypes }, type := ty, pos := pos, after := after, guard := guard }).run P wx = (callFunc g ((us.toList.take k).toArray ++ args.map a.eval ++ (us.toList.drop k).toArray)).run P wx := by
          intro wx
          simp only [execOp, resolve, hu, Deferred.ofValue, Sem.run_bind, Sem.run_pure, Result.andThen_ok, invoke]
        rw [hx]
        rcases callW_ok hw hG hI hargs with ⟨e1, c⟩ | ⟨v, w', e1, c⟩
        · rw [e1]
          show Calls P g _ w _
          exact c.mono fun e w' ⟨v, he, hret⟩ => ⟨v, he, hn v w' hret⟩
        · rw [e1]
          exact hn v w' c
      · rename_i i hev
        have hf := ev_ok hG hS f
        rw [hev] at hf
        simp only [Rp] at hf
        obtain ⟨hlt, hu, l, hl⟩ := hf
        have hargs : RpL h φ st.T.length (args.toList.map (evO G st.s)) (args.map a.eval).toList := by
          simpa using evL_ok hG hS args.toList
        obtain ⟨f', tmps, as_, body, hy, hr⟩ := hw h φ w (args.map a.eval) l hG hI hargs (by rw [← hu, hl])
        unfold OpOk
        have hx : (execOp a.eval { dst := dst, op := .call { callee := .value f, args := args, argTypes := argTypes }, type := ty, pos := pos, after := after, guard := guard }).run P w = (Instr.yield l (args.map a.eval)).run P w := by
          simp only [execOp, resolve, hl, Deferred.ofValue, Sem.run_bind, Sem.run_pure, Result.andThen_ok, invoke, Array.empty_append]
        rw [hx, hy]
        exact hr.mono fun e w' ⟨v, he, hret⟩ => ⟨v, he, hn v w' hret⟩
      · exact hw.elim
    | builtin b =>
      cases b with
      | len =>
        simp only at hc
        split at hc
        · rename_i t x hts hargs
          have ha : args = #[x] := Array.toList_inj.1 (by rw [hargs])
          subst ha
          have hex : execOp a.eval { dst := dst, op := .call { callee := .builtin .len, args := #[x], argTypes := argTypes }, type := ty, pos := pos, after := after, guard := guard } = (do pure (.value (← Builtin.len_ argTypes ty #[a.eval x]))) := by
            simp [execOp, resolve, invoke, builtin]
          split at hc
          · rename_i ht
            injection hc with hc
            subst hc
            exact pure_op (sv := Builtin.len_ argTypes ty #[a.eval x]) hex (by simp) fun y T' he => lenS_gives ht hG hS hts he
          · rename_i e ht
            injection hc with hc
            subst hc
            exact pure_op (sv := Builtin.len_ argTypes ty #[a.eval x]) hex (by simp) fun y T' he => lenL_gives ht hG hI hS hts he
          · simp at hc
        · simp at hc
      | append =>
        simp only at hc
        split at hc
        · rename_i t t' x y hts hargs
          have ha : args = #[x, y] := Array.toList_inj.1 (by rw [hargs])
          subst ha
          split at hc
          · simp at hc
          · rename_i htt
            have htt' : t' = t := by simpa using htt
            subst htt'
            have hat : argTypes = #[t', t'] := Array.toList_inj.1 (by rw [hts])
            subst hat
            split at hc
            · rename_i e ht
              split at hc
              · rename_i i hi
                split at hc
                · rename_i z hz
                  split at hc
                  · rename_i hcs
                    injection hc with hc
                    subst hc
                    have hex : execOp a.eval { dst := dst, op := .call { callee := .builtin .append, args := #[x, y], argTypes := #[t', t'] }, type := ty, pos := pos, after := after, guard := guard } = (do pure (.value (← Builtin.append_ #[t', t'] ty #[a.eval x, a.eval y]))) := by
                      simp [execOp, resolve, invoke, builtin]
                    exact make_op (sv := Builtin.append_ #[t', t'] ty #[a.eval x, a.eval y]) hex (by simp) fun r T' he => app_makes ht hi hz hcs.1 hcs.2 hG hI hS he
                  · simp at hc
                · simp at hc
              · simp at hc
            · simp at hc
        · simp at hc
      | _ => simp at hc
    | invoke _ _ => simp at hc
  | _ => simp [compOp1] at hc
end
end Hud
end
section
namespace Hud
open Go
section
variable {P : Program} {G : Nat → Option (List AV)} {h : GH} {φ : Nat → Value} {T : Tab} {w : World} {s : List (Nat × AV)} {a : Act}
def Bnd (o : Option Value) (d n : Nat) : Prop := (o = none ∧ n = d) ∨ ∃ k i, o = some (.int k i) ∧ 0 ≤ i ∧ n = i.toNat
theorem run_sliceBound {k : IntKind} {i : Int} {y : Nat} {c : BoundsCode} (h0 : 0 ≤ i) (h1 : i.toNat ≤ y) : (Instr.sliceBound (.int k i) y c).run P w = .ok i.toNat w := by
  have : 0 ≤ i ∧ i ≤ y := ⟨h0, by omega⟩
  simp [Instr.sliceBound, asIntOf, this]
theorem run_sliceBounds {b : Bool} {len cap l m : Nat} {lo hi : Option Value} (hl : Bnd lo 0 l) (hh : Bnd hi len m) (h1 : l ≤ m) (h2 : m ≤ cap) : (Instr.sliceBounds b len cap lo hi none).run P w = .ok (l, m, cap) w := by
  rcases hl with ⟨rfl, rfl⟩ | ⟨k, i, rfl, h0, rfl⟩ <;> rcases hh with ⟨rfl, rfl⟩ | ⟨k', i', rfl, h0', rfl⟩
  · simp [Instr.sliceBounds]
  · simp [Instr.sliceBounds, run_sliceBound h0' h2]
  · simp [Instr.sliceBounds, run_sliceBound h0 h1]
  · simp [Instr.sliceBounds, run_sliceBound h0 h1, run_sliceBound h0' h2]
theorem run_slice {t e : TypeId} (ht : P.underlying t = some (.slice e)) {k : Nat} (hk : sizeT P e = some k) {A : Option Addr} {len cap l m : Nat} {lo hi : Option Value} (hl : Bnd lo 0 l) (hh : Bnd hi len m) (h1 : l ≤ m) (h2 : m ≤ cap) :
    (Instr.sliceAt t (.slice A len cap) lo hi none).run P w = .ok (.slice (if cap = l then A else A.map (·.add (l * k))) (m - l) (cap - l)) w := by
  simp [Instr.sliceAt, Instr.slice, run_underlying ht, run_sliceBounds hl hh h1 h2, sizeT_some hk]
theorem run_sliceS {t : TypeId} (ht : P.underlying t = some .string) {sb : ByteArray} {l m : Nat} {lo hi : Option Value} (hl : Bnd lo 0 l) (hh : Bnd hi sb.size m) (h1 : l ≤ m) (h2 : m ≤ sb.size) :
    (Instr.sliceAt t (.string sb) lo hi none).run P w = .ok (.string (sb.extract l m)) w := by
  simp [Instr.sliceAt, Instr.slice, run_underlying ht, run_sliceBounds hl hh h1 h2]
def bound (ev : Operand → AV) (o : Option Operand) (d : Nat) : Option Nat := match o with
  | none => some d
  | some o => match ev o with
    | .v (.int _ n) => if 0 ≤ n then some n.toNat else none
    | _ => none
theorem bound_ok (hG : GOk G h) (hS : SOk h φ T.length s a) {o : Option Operand} {d n : Nat} (e : bound (evO G s) o d = some n) : Bnd (o.map a.eval) d n := by
  unfold bound at e
  split at e
  · injection e with e; exact .inl ⟨rfl, e.symm⟩
  · rename_i x
    split at e
    · rename_i k i hx
      split at e
      · rename_i h0
        injection e with e
        exact .inr ⟨k, i, by simp [ev_v hG hS hx], h0, e.symm⟩
      · simp at e
    · simp at e
theorem slc_gives {t e : TypeId} (ht : P.underlying t = some (.slice e)) {k : Nat} (hk : sizeT P e = some k)
    (hG : GOk G h) (hI : Inv h φ w T) (hS : SOk h φ T.length s a) {p : Operand} {lo hi : Option Operand} {x : AV} {T' : Tab} (he : hop T (evO G s) (.slc p lo hi k) = some (x, T')) :
    T' = T ∧ ∃ v, (Instr.sliceAt t (a.eval p) (lo.map a.eval) (hi.map a.eval) none).run P w = .ok v w ∧ Rp h φ T.length x v := by
  have hp := ev_ok hG hS p
  change (match evO G s p with
    | .ls k' es => match bound (evO G s) lo 0, bound (evO G s) hi es.length with
      | some l, some h => if k = k' ∧ l ≤ h ∧ h ≤ es.length then some (.ls k ((es.drop l).take (h - l)), T) else none
      | _, _ => none
    | .own a => match rowsA (getT T a) with
      | some (k', es, _) => match bound (evO G s) lo 0, bound (evO G s) hi es.length with
        | some l, some h => if k = k' ∧ l ≤ h ∧ h ≤ es.length then some (.vw a k l (h - l), T) else none
        | _, _ => none
      | _ => none
    | .vw a k' lo' m => match bound (evO G s) lo 0, bound (evO G s) hi m with
      | some l, some h => if k = k' ∧ l ≤ h ∧ h ≤ m then some (.vw a k (lo' + l) (h - l), T) else none
      | _, _ => none
    | .v (.slice none 0 0) => match bound (evO G s) lo 0, bound (evO G s) hi 0 with
      | some l, some h => if l = 0 ∧ h = 0 then some (.v (.slice none 0 0), T) else none
      | _, _ => none
    | _ => none) = some (x, T') at he
  split at he
  · rename_i k' es hev
    rw [hev] at hp; simp only [Rp, RpD] at hp
    obtain ⟨A, c, hu, h1, h2, h3⟩ := hp
    split at he
    · rename_i l m hl hm
      split at he
      · rename_i hc
        obtain ⟨rfl, hlm, hme⟩ := hc
        injection he with he; injection he with e1 e2; subst e1; subst e2
        rw [hu]
        refine ⟨rfl, _, run_slice ht hk (bound_ok hG hS hl) (bound_ok hG hS hm) hlm (by omega), ?_⟩
        have hlen : ((es.drop l).take (m - l)).length = m - l := by rw [List.length_take, List.length_drop]; omega
        simp only [Rp, RpD]
        refine ⟨_, c - l, by rw [hlen], by rw [hlen]; omega, by omega, ?_⟩
        by_cases h0 : m - l = 0
        · exact .inl (by rw [h0]; simp)
        · rcases h3 with rfl | ⟨b, o, rfl, hE⟩
          · simp at hme; omega
          · refine .inr ⟨b, o + l * k, by rw [if_neg (by omega)]; simp [add_none], ?_⟩
            exact (hE.drop l).take _
      · simp at he
    · simp at he
  · rename_i i hev
    rw [hev] at hp; simp only [Rp] at hp
    split at he
    · rename_i k' es b hg
      split at he
      · rename_i l m hl hm
        split at he
        · rename_i hc
          obtain ⟨rfl, hlm, hme⟩ := hc
          injection he with he; injection he with e1 e2; subst e1; subst e2
          obtain ⟨_, h1 | ⟨g, c, cur, E, hφ, _, h2, h3, _⟩⟩ := row_cells hI hg
          · obtain ⟨A, h1, rfl⟩ := h1
            rw [hp.2.1, h1]
            refine ⟨rfl, _, run_slice ht hk (bound_ok hG hS hl) (bound_ok hG hS hm) hlm (by simpa using hme), ?_⟩
            simp only [Rp]
            simp only [List.length_nil] at hme
            exact ⟨hp.1, _, _, rfl, by omega, by omega, .inl (by omega)⟩
          · rw [hp.2.1, hφ]
            refine ⟨rfl, _, run_slice ht hk (bound_ok hG hS hl) (bound_ok hG hS hm) hlm (by omega), ?_⟩
            simp only [Rp]
            refine ⟨hp.1, _, _, rfl, by omega, by omega, ?_⟩
            by_cases h0 : m - l = 0
            · exact .inl h0
            · exact .inr ⟨g, _, c + 1, hφ, by rw [if_neg (by omega)]; simp [add_none], by omega⟩
        · simp at he
      · simp at he
    · simp at he
  · rename_i i k' lo' n hev
    rw [hev] at hp; simp only [Rp] at hp
    obtain ⟨hi0, A, c, hu, h1, h2, h3⟩ := hp
    split at he
    · rename_i l m hl hm
      split at he
      · rename_i hc
        obtain ⟨rfl, hlm, hme⟩ := hc
        injection he with he; injection he with e1 e2; subst e1; subst e2
        rw [hu]
        refine ⟨rfl, _, run_slice ht hk (bound_ok hG hS hl) (bound_ok hG hS hm) hlm (by omega), ?_⟩
        simp only [Rp]
        refine ⟨hi0, _, _, rfl, by omega, by omega, ?_⟩
        by_cases h0 : m - l = 0
        · exact .inl h0
        · rcases h3 with rfl | ⟨g, len, c', hφ, rfl, hle⟩
          · omega
          · exact .inr ⟨g, len, c', hφ, by rw [if_neg (by omega)]; simp [add_none, Nat.add_mul], by omega⟩
      · simp at he
    · simp at he
  · rename_i hev
    rw [ev_v hG hS hev]
    split at he
    · rename_i l m hl hm
      split at he
      · rename_i hc
        obtain ⟨rfl, rfl⟩ := hc
        injection he with he; injection he with e1 e2; subst e1; subst e2
        exact ⟨rfl, _, run_slice ht hk (bound_ok hG hS hl) (bound_ok hG hS hm) (Nat.le_refl _) (Nat.le_refl _), by simp [Rp]⟩
      · simp at he
    · simp at he
  · simp at he
theorem slcS_gives {t : TypeId} (ht : P.underlying t = some .string)
    (hG : GOk G h) (hS : SOk h φ T.length s a) {p : Operand} {lo hi : Option Operand} {x : AV} {T' : Tab} (he : hop T (evO G s) (.slcS p lo hi) = some (x, T')) :
    T' = T ∧ ∃ v, (Instr.sliceAt t (a.eval p) (lo.map a.eval) (hi.map a.eval) none).run P w = .ok v w ∧ Rp h φ T.length x v := by
  change (match evO G s p with
    | .v (.string sb) => match bound (evO G s) lo 0, bound (evO G s) hi sb.size with
      | some l, some h => if l ≤ h ∧ h ≤ sb.size then some (.v (.string (sb.extract l h)), T) else none
      | _, _ => none
    | _ => none) = some (x, T') at he
  split at he
  · rename_i sb hev
    rw [ev_v hG hS hev]
    split at he
    · rename_i l m hl hm
      split at he
      · rename_i hc
        injection he with he; injection he with e1 e2; subst e1; subst e2
        exact ⟨rfl, _, run_sliceS ht (bound_ok hG hS hl) (bound_ok hG hS hm) hc.1 hc.2, by simp [Rp]⟩
      · simp at he
    · simp at he
  · simp at he
def nilK (d : TypeDesc) (c : Value) : Option Nat :=
  match d, c with
  | .pointer _, .pointer none => some 0
  | .slice _, .slice none 0 0 => some 1
  | .func _ _ _, .nilFunc => some 2
  | _, _ => none
def nilable : Value → Prop
  | .pointer _ => True
  | .slice _ _ _ => True
  | .nilFunc => True
  | .func _ _ _ => True
  | _ => False
theorem depth1 : ∃ d, Op.maxDepth = d + 1 := ⟨9999, rfl⟩
theorem nil_bin {t : TypeId} {d : TypeDesc} {c u : Value} {kd : Nat} (hk : nilK d c = some kd) {neg b : Bool} {p y : Operand} (h1 : (Op.equal t u c).run P w = .ok b w)
    (h2 : nilable u) :
    (do eqGuard (if neg then .neq else .eql) t p y u c; binOp (if neg then .neq else .eql) t u c).run P w = .ok (.bool (if neg then !b else b)) w := by
  unfold nilK at hk
  split at hk
  · cases u <;> simp only [nilable] at h2 <;> cases neg <;> simp [eqGuard, binOp, h1]
  · cases u <;> simp only [nilable] at h2 <;> cases neg <;> simp [eqGuard, binOp, h1]
  · cases u <;> simp only [nilable] at h2 <;> cases neg <;> simp [eqGuard, binOp, h1]
  · simp at hk
theorem nilS_gives {t : TypeId} {d : TypeDesc} (ht : P.underlying t = some d) {c : Value} {kd : Nat} (hk : nilK d c = some kd) {neg : Bool} {p y : Operand}
    (hG : GOk G h) (hI : Inv h φ w T) (hS : SOk h φ T.length s a) {x : AV} {T' : Tab} (he : hop T (evO G s) (.nilS neg kd p) = some (x, T')) :
    T' = T ∧ ∃ v, (do eqGuard (if neg then .neq else .eql) t p y (a.eval p) c; binOp (if neg then .neq else .eql) t (a.eval p) c).run P w = .ok v w ∧ Rp h φ T.length x v := by
  have hp := ev_ok hG hS p
  have fin : ∀ b : Bool, x = .v (.bool (if neg then !b else b)) → (∀ u, u = a.eval p → (∃ g : Nat, (Op.equal t u c).run P w = .ok b w ∧ nilable u)) →
      ∃ v, (do eqGuard (if neg then .neq else .eql) t p y (a.eval p) c; binOp (if neg then .neq else .eql) t (a.eval p) c).run P w = .ok v w ∧ Rp h φ T.length x v := by
    intro b hx hrun
    obtain ⟨g, h1, h2⟩ := hrun _ rfl
    exact ⟨.bool (if neg then !b else b), nil_bin hk h1 h2, by rw [hx]; simp [Rp]⟩
  simp only [hop] at he
  split at he
  · rename_i b hb
    injection he with he; injection he with e1 e2; subst e1; subst e2
    refine ⟨rfl, fin b rfl fun u hu => ?_⟩
    subst hu
    unfold nilK at hk
    split at hb
    all_goals
      (try injection hb with hb)
      (try subst hb)
    · rename_i hev
      rw [ev_v hG hS hev]
      split at hk <;> simp at hk
      exact ⟨0, by obtain ⟨d', hd'⟩ := depth1; simp [Op.equal, hd', Op.equalIn, run_underlying ht], trivial⟩
    · rename_i i o hev
      rw [hev] at hp; simp only [Rp] at hp
      obtain ⟨_, g, _, hu⟩ := hp
      rw [hu]
      split at hk <;> simp at hk
      exact ⟨0, by obtain ⟨d', hd'⟩ := depth1; simp [Op.equal, hd', Op.equalIn, run_underlying ht], trivial⟩
    · rename_i i k j o hev
      rw [hev] at hp; simp only [Rp] at hp
      obtain ⟨_, g, l, cc, _, hu⟩ := hp
      rw [hu]
      split at hk <;> simp at hk
      exact ⟨0, by obtain ⟨d', hd'⟩ := depth1; simp [Op.equal, hd', Op.equalIn, run_underlying ht], trivial⟩
    · rename_i cs hev
      rw [hev] at hp; simp only [Rp] at hp
      obtain ⟨b', o, hu, _⟩ := hp
      rw [hu]
      split at hk <;> simp at hk
      exact ⟨0, by obtain ⟨d', hd'⟩ := depth1; simp [Op.equal, hd', Op.equalIn, run_underlying ht], trivial⟩
    · rename_i hev
      rw [ev_v hG hS hev]
      split at hk <;> simp at hk
      exact ⟨1, by obtain ⟨d', hd'⟩ := depth1; simp [Op.equal, hd', Op.equalIn, run_underlying ht], trivial⟩
    · rename_i i hev
      split at hb
      · rename_i k e es b hg
        injection hb with hb
        subst hb
        rw [hev] at hp; simp only [Rp] at hp
        obtain ⟨_, h1 | ⟨g, cc, cur, E, hφ, _⟩⟩ := row_cells hI hg
        · simp at h1
        · rw [hp.2.1, hφ]
          split at hk <;> simp at hk
          exact ⟨1, by obtain ⟨d', hd'⟩ := depth1; simp [Op.equal, hd', Op.equalIn, run_underlying ht], trivial⟩
      · simp at hb
    · rename_i k e es hev
      rw [hev] at hp; simp only [Rp, RpD] at hp
      obtain ⟨A, cc, hu, _, _, h3⟩ := hp
      rcases h3 with h3 | ⟨b', o, rfl, _⟩
      · simp at h3
      · rw [hu]
        split at hk <;> simp at hk
        exact ⟨1, by obtain ⟨d', hd'⟩ := depth1; simp [Op.equal, hd', Op.equalIn, run_underlying ht], trivial⟩
    · rename_i hev
      rw [ev_v hG hS hev]
      split at hk <;> simp at hk
      exact ⟨2, by obtain ⟨d', hd'⟩ := depth1; simp [Op.equal, hd', Op.equalIn, run_underlying ht], trivial⟩
    · rename_i f cs hev
      rw [hev] at hp; simp only [Rp] at hp
      obtain ⟨us, hu, _⟩ := hp
      rw [hu]
      split at hk <;> simp at hk
      exact ⟨3, by obtain ⟨d', hd'⟩ := depth1; simp [Op.equal, hd', Op.equalIn, run_underlying ht], trivial⟩
    · simp at hb
  · simp at he
theorem mm_gives {ts : Array TypeId} {ty : TypeId} {mx : Bool} {p q : Operand}
    (hG : GOk G h) (hS : SOk h φ T.length s a) {x : AV} {T' : Tab} (he : hop T (evO G s) (.mm mx p q) = some (x, T')) :
    T' = T ∧ ∃ v, (if mx then Builtin.max_ ts ty #[a.eval p, a.eval q] else Builtin.min_ ts ty #[a.eval p, a.eval q]).run P w = .ok v w ∧ Rp h φ T.length x v := by
  simp only [hop] at he
  split at he
  · rename_i k i k' j h1 h2
    split at he
    · rename_i hk
      subst hk
      injection he with he; injection he with e1 e2; subst e1; subst e2
      rw [ev_v hG hS h1, ev_v hG hS h2]
      cases mx
      · exact ⟨rfl, _, by simp [Builtin.min_, Builtin.min2]; rfl, by simp [Rp]⟩
      · exact ⟨rfl, _, by simp [Builtin.max_, Builtin.max2]; rfl, by simp [Rp]⟩
    · simp at he
  · simp at he
end
def compOp2 (P : Program) (o : Oper) : Option HOp :=
  match o.op with
  | .slice t x lo hi none => match P.underlying t with
    | some (.slice e) => match sizeT P e with
      | some k => some (.slc x lo hi k)
      | none => none
    | some .string => some (.slcS x lo hi)
    | _ => none
  | .binOp op t x (.const c) _ => match P.underlying t with
    | some d => match nilK d c with
      | some k => if op = .eql then some (.nilS false k x) else if op = .neq then some (.nilS true k x) else none
      | none => none
    | none => none
  | .call c => match c.callee, c.args.toList with
    | .builtin .max, [x, y] => some (.mm true x y)
    | .builtin .min, [x, y] => some (.mm false x y)
    | _, _ => none
  | _ => none
section
variable {P : Program} {G : Nat → Option (List AV)} {h : GH} {φ : Nat → Value} {w : World} {a : Act} {st : St} {K : AV → Tab → Prop} {next : Act → World → Prop} {Q : Exit → Act → World → Prop}
theorem nilE_yes {kd : Nat} {x : AV} (he : nilE kd x = true) : kd = 1 ∧ ∃ k, x = .ls k [] := by
  unfold nilE at he
  split at he
  · exact ⟨rfl, _, rfl⟩
  · simp at he
theorem nilS_op {t : TypeId} {d : TypeDesc} (ht : P.underlying t = some d) {c : Value} {kd : Nat} (hk : nilK d c = some kd) {neg : Bool} {p y : Operand}
    (hG : GOk G h) (hI : Inv h φ w st.T) (hS : SOk h φ st.T.length st.s a) (hw : opW P G st (.nilS neg kd p) K) :
    ∃ x, K x st.T ∧ ∃ v, (do eqGuard (if neg then .neq else .eql) t p y (a.eval p) c; binOp (if neg then .neq else .eql) t (a.eval p) c).run P w = .ok v w ∧ Rp h φ st.T.length x v := by
  simp only [opW] at hw
  split at hw
  · rename_i hn
    obtain ⟨rfl, k, hev⟩ := nilE_yes hn
    have hp := ev_ok hG hS p
    rw [hev] at hp
    simp only [Rp, RpD] at hp
    obtain ⟨A, cc, hu, _, _, _⟩ := hp
    have fin : ∀ b : Bool, (Op.equal t (a.eval p) c).run P w = .ok b w → ∃ x, K x st.T ∧ ∃ v, (do eqGuard (if neg then .neq else .eql) t p y (a.eval p) c; binOp (if neg then .neq else .eql) t (a.eval p) c).run P w = .ok v w ∧ Rp h φ st.T.length x v := fun b hb => by
      refine ⟨.v (.bool (if neg then !b else b)), ?_, .bool (if neg then !b else b), nil_bin hk hb (by rw [hu]; trivial), by simp [Rp]⟩
      cases (if neg then !b else b)
      · exact hw.2
      · exact hw.1
    unfold nilK at hk
    split at hk <;> simp at hk
    cases A with
    | none => exact fin true (by rw [hu]; obtain ⟨d', hd'⟩ := depth1; simp [Op.equal, hd', Op.equalIn, run_underlying ht])
    | some b => exact fin false (by rw [hu]; obtain ⟨d', hd'⟩ := depth1; simp [Op.equal, hd', Op.equalIn, run_underlying ht])
  · split at hw
    · rename_i x T' he
      obtain ⟨rfl, v, h1, h2⟩ := nilS_gives (y := y) ht hk hG hI hS he
      exact ⟨x, hw, v, h1, h2⟩
    · exact hw.elim
theorem op_sound2 {o : Oper} {ho : HOp} (hc : compOp2 P o = some ho) (hw : opW P G st ho K) (hG : GOk G h) (hI : Inv h φ w st.T) (hS : SOk h φ st.T.length st.s a)
    (hn : ∀ v w', Ret h φ st.T w K v w' → next (a.put o.dst v) w') : OpOk P o a w next := by
  have pure_op : ∀ {sv : Sem Value} (_ : execOp a.eval o = (do pure (.value (← sv)))) (_ : (∀ f l, ho ≠ .call f l) ∧ (∀ p, ho ≠ .nxt p) ∧ ∀ n k x, ho ≠ .nilS n k x) (_ : ∀ x T', hop st.T (evO G st.s) ho = some (x, T') → T' = st.T ∧ ∃ v, sv.run P w = .ok v w ∧ Rp h φ st.T.length x v), OpOk P o a w next := by
    intro sv he hcall hrun
    obtain ⟨x, T', e, hk⟩ := hopW hcall hw
    obtain ⟨rfl, v, h1, h2⟩ := hrun x T' e
    exact val_wp he h1 (hn v w (ret_pure hI h2 hk))
  obtain ⟨dst, op, ty, pos, after, guard⟩ := o
  unfold compOp2 at hc
  simp only at hc
  split at hc
  · rename_i t x lo hi
    split at hc
    · rename_i e ht
      split at hc
      · rename_i k hk
        injection hc with hc
        subst hc
        exact pure_op (sv := Instr.sliceAt t (a.eval x) (lo.map a.eval) (hi.map a.eval) none) rfl (by simp) fun y T' he => slc_gives ht hk hG hI hS he
      · simp at hc
    · rename_i ht
      injection hc with hc
      subst hc
      exact pure_op (sv := Instr.sliceAt t (a.eval x) (lo.map a.eval) (hi.map a.eval) none) rfl (by simp) fun y T' he => slcS_gives ht hG hS he
    · simp at hc
  · rename_i op t x c yt
    split at hc
    · rename_i d ht
      split at hc
      · rename_i k hk
        split at hc
        · rename_i hop
          subst hop
          injection hc with hc
          subst hc
          obtain ⟨y, hy, v, h1, h2⟩ := nilS_op (neg := false) (y := .const c) ht hk hG hI hS hw
          exact val_wp (sv := do eqGuard .eql t x (.const c) (a.eval x) c; binOp .eql t (a.eval x) c) rfl h1 (hn v w (ret_pure hI h2 hy))
        · split at hc
          · rename_i hop
            subst hop
            injection hc with hc
            subst hc
            obtain ⟨y, hy, v, h1, h2⟩ := nilS_op (neg := true) (y := .const c) ht hk hG hI hS hw
            exact val_wp (sv := do eqGuard .neq t x (.const c) (a.eval x) c; binOp .neq t (a.eval x) c) rfl h1 (hn v w (ret_pure hI h2 hy))
          · simp at hc
      · simp at hc
    · simp at hc
  · rename_i c
    obtain ⟨callee, args, argTypes⟩ := c
    simp only at hc
    split at hc
    · rename_i x y hargs
      have ha : args = #[x, y] := Array.toList_inj.1 (by rw [hargs])
      subst ha
      injection hc with hc
      subst hc
      exact pure_op (sv := Builtin.max_ argTypes ty #[a.eval x, a.eval y]) (by simp [execOp, resolve, invoke, builtin]) (by simp) fun z T' he => mm_gives (ts := argTypes) (ty := ty) (mx := true) hG hS he
    · rename_i x y hargs
      have ha : args = #[x, y] := Array.toList_inj.1 (by rw [hargs])
      subst ha
      injection hc with hc
      subst hc
      exact pure_op (sv := Builtin.min_ argTypes ty #[a.eval x, a.eval y]) (by simp [execOp, resolve, invoke, builtin]) (by simp) fun z T' he => mm_gives (ts := argTypes) (ty := ty) (mx := false) hG hS he
    · simp at hc
  · simp at hc
end
end Hud
end
section
namespace Hud
open Go
section
variable {P : Program} {w : World}
theorem bytes_beq' (a b : ByteArray) : (a == b) = true ↔ a = b := by
  rw [beq_toListBytes, beq_iff_eq, ByteArray.toList_eq, ByteArray.toList_eq]
  constructor
  · intro h
    obtain ⟨a⟩ := a
    obtain ⟨b⟩ := b
    congr
    exact Array.toList_inj.1 h
  · rintro rfl; rfl
theorem eqV_true : ∀ {ls : List LK} {xs ys : List Value}, eqV ls xs ys = some true → xs = ys
  | [], xs, ys, e => by cases xs <;> cases ys <;> simp_all [eqV]
  | k :: ls, xs, ys, e => by
    cases xs with
    | nil => cases k <;> simp [eqV] at e
    | cons x xs =>
      cases ys with
      | nil => cases k <;> cases x <;> simp [eqV] at e
      | cons y ys =>
        cases k <;> cases x <;> cases y <;> simp only [eqV] at e <;> (try (simp at e; done))
        · split at e
          · rename_i hk
            split at e
            · rename_i r hr
              simp only [Option.some.injEq, Bool.and_eq_true, beq_iff_eq] at e
              obtain ⟨rfl, rfl⟩ := e
              rw [eqV_true hr, hk.1, hk.2]
            · simp at e
          · simp at e
        · split at e
          · rename_i r hr
            simp only [Option.some.injEq, Bool.and_eq_true, beq_iff_eq] at e
            obtain ⟨rfl, rfl⟩ := e
            rw [eqV_true hr]
          · simp at e
        · split at e
          · rename_i r hr
            simp only [Option.some.injEq, Bool.and_eq_true] at e
            obtain ⟨h1, rfl⟩ := e
            rw [← beq_toListBytes, bytes_beq'] at h1
            rw [eqV_true hr, h1]
          · simp at e
def Found (ens : List MapEntry) (i : Nat) (r : Option Nat) (out : Option (Nat × Value)) : Prop :=
  match r with
  | none => out = none
  | some j => i ≤ j ∧ ∃ e, ens[j - i]? = some e ∧ out = some (j, e.val)
theorem found_cons {e : MapEntry} {ens : List MapEntry} {i : Nat} {r : Option Nat} {out : Option (Nat × Value)} (h : Found ens (i + 1) r out) : Found (e :: ens) i r out := by
  cases r with
  | none => exact h
  | some j =>
    obtain ⟨h1, x, h2, h3⟩ := h
    refine ⟨by omega, x, ?_, h3⟩
    rw [show j - i = (j - (i + 1)) + 1 from by omega, List.getElem?_cons_succ]
    exact h2
theorem ask_ok {n : Nat} {kt : TypeId} {ag : Bool} {ls : List LK} (hk : kindsT P n kt = some (ag, ls)) (hn : n ≤ Op.maxDepth) {kc : List Value} : ∀ (ens : List MapEntry) (ks : List (List Value)) (i : Nat) (r : Option Nat),
    ens.map (·.key) = ks.map (keyV ag) → findK ls kc ks i = some r → ∃ out, Found ens i r out ∧ (Instr.findAsking kt (keyV ag kc) ens i).run P w = .ok out w
  | [], [], i, r, _, hf => by
    simp only [findK, Option.some.injEq] at hf
    subst hf
    exact ⟨none, rfl, by simp [Instr.findAsking]⟩
  | [], _ :: _, _, _, hm, _ => by simp at hm
  | _ :: _, [], _, _, hm, _ => by simp at hm
  | e :: ens, k :: ks, i, r, hm, hf => by
    simp only [List.map_cons, List.cons.injEq] at hm
    simp only [findK] at hf
    have heq : ∀ b, eqV ls kc k = some b → (Op.equal kt (keyV ag kc) e.key).run P w = .ok b w := fun b hb => by
      rw [hm.1]
      exact (eq_type n kt ag ls hk).2 Op.maxDepth hn _ _ _ hb
    split at hf
    · rename_i hb
      injection hf with hf
      subst hf
      exact ⟨some (i, e.val), ⟨Nat.le_refl _, e, by simp, rfl⟩, by simp [Instr.findAsking, heq _ hb]⟩
    · rename_i hb
      obtain ⟨out, h1, h2⟩ := ask_ok hk hn ens ks (i + 1) r hm.2 hf
      exact ⟨out, found_cons h1, by simp [Instr.findAsking, heq _ hb, h2]⟩
    · simp at hf
def leafD : LK → TypeDesc → Prop
  | .int k, d => d = .int k
  | .bool, d => d = .bool
  | .str, d => d = .string
theorem same_leaf {l : LK} {d : TypeDesc} (hd : leafD l d) {x y : List Value} {b : Bool} (h : eqV [l] x y = some b) : Instr.sameNow d (keyV false x) (keyV false y) = some b := by
  have hl := eqV_len h
  match x, y, hl with
  | [x], [y], _ =>
    cases l <;> cases x <;> cases y <;> simp only [eqV] at h <;> (try (simp at h; done))
    · split at h
      · rename_i hk
        simp only [Bool.and_true, Option.some.injEq] at h
        simp only [leafD] at hd
        subst hd
        simp [keyV, Instr.sameNow, hk.1, hk.2, ← h]
      · simp at h
    · simp only [Bool.and_true, Option.some.injEq] at h
      simp only [leafD] at hd
      subst hd
      simp [keyV, Instr.sameNow, ← h]
    · simp only [Bool.and_true, Option.some.injEq] at h
      simp only [leafD] at hd
      subst hd
      simp [keyV, Instr.sameNow, ← h, beq_toListBytes]
theorem now_ok {l : LK} {d : TypeDesc} (hd : leafD l d) {kc : List Value} : ∀ (ens : List MapEntry) (ks : List (List Value)) (i : Nat) (r : Option Nat),
    ens.map (·.key) = ks.map (keyV false) → findK [l] kc ks i = some r → ∃ out, Found ens i r out ∧ Instr.findNow d (keyV false kc) ens i = some out
  | [], [], i, r, _, hf => by
    simp only [findK, Option.some.injEq] at hf
    subst hf
    exact ⟨none, rfl, by simp [Instr.findNow]⟩
  | [], _ :: _, _, _, hm, _ => by simp at hm
  | _ :: _, [], _, _, hm, _ => by simp at hm
  | e :: ens, k :: ks, i, r, hm, hf => by
    simp only [List.map_cons, List.cons.injEq] at hm
    simp only [findK] at hf
    split at hf
    · rename_i hb
      injection hf with hf
      subst hf
      refine ⟨some (i, e.val), ⟨Nat.le_refl _, e, by simp, rfl⟩, ?_⟩
      simp only [Instr.findNow, hm.1, same_leaf hd hb]
    · rename_i hb
      obtain ⟨out, h1, h2⟩ := now_ok hd ens ks (i + 1) r hm.2 hf
      refine ⟨out, found_cons h1, ?_⟩
      simp only [Instr.findNow, hm.1, same_leaf hd hb, h2]
    · simp at hf
theorem find_ok {n : Nat} {kt : TypeId} {ag : Bool} {ls : List LK} (hk : kindsT P n kt = some (ag, ls)) (hn : n ≤ Op.maxDepth) {kc : List Value} {ens : List MapEntry} {ks : List (List Value)} {r : Option Nat}
    (hm : ens.map (·.key) = ks.map (keyV ag)) (hf : findK ls kc ks 0 = some r) : ∃ out, Found ens 0 r out ∧ (Instr.findKey kt (keyV ag kc) ens).run P w = .ok out w := by
  cases n with
  | zero => simp [kindsT] at hk
  | succ n =>
    have hk' := hk
    simp only [kindsT] at hk'
    split at hk'
    · rename_i k hu
      injection hk' with hk'; injection hk' with e1 e2; subst e1; subst e2
      obtain ⟨out, h1, h2⟩ := now_ok (d := .int k) (l := .int k) rfl ens ks 0 r hm hf
      exact ⟨out, h1, by simp [Instr.findKey, run_underlying hu, h2]⟩
    · rename_i hu
      injection hk' with hk'; injection hk' with e1 e2; subst e1; subst e2
      obtain ⟨out, h1, h2⟩ := now_ok (d := .bool) (l := .bool) rfl ens ks 0 r hm hf
      exact ⟨out, h1, by simp [Instr.findKey, run_underlying hu, h2]⟩
    · rename_i hu
      injection hk' with hk'; injection hk' with e1 e2; subst e1; subst e2
      obtain ⟨out, h1, h2⟩ := now_ok (d := .string) (l := .str) rfl ens ks 0 r hm hf
      exact ⟨out, h1, by simp [Instr.findKey, run_underlying hu, h2]⟩
    · rename_i fs hu
      obtain ⟨out, h1, h2⟩ := ask_ok (w := w) hk hn ens ks 0 r hm hf
      cases ens with
      | nil =>
        cases ks with
        | nil =>
          simp only [findK, Option.some.injEq] at hf
          subst hf
          exact ⟨none, rfl, by simp [Instr.findKey, run_underlying hu, Instr.findNow]⟩
        | cons k ks => simp at hm
      | cons e ens =>
        refine ⟨out, h1, ?_⟩
        have : Instr.findNow (.struct fs) (keyV ag kc) (e :: ens) 0 = none := by
          simp only [Instr.findNow]
          cases keyV ag kc <;> simp [Instr.sameNow]
        simp [Instr.findKey, run_underlying hu, this, h2]
    · simp at hk'
theorem ck_fields {n : Nat} {em : Bool} {d : Nat} (ih : ∀ t ag ks, kindsT P n t = some (ag, ks) → (ag = false → ks.length = 1) ∧ ∀ xs b, eqV ks xs xs = some b → (Instr.checkKey em d t (keyV ag xs)).run P w = .ok () w)
    (X : Array Value) : ∀ (fs : List Field) (off : Nat) (ks : List LK) (b : Bool), kindsF P (kindsT P n) fs off = some ks →
      eqV ks (X.toList.drop off) (X.toList.drop off) = some b → off ≤ X.size →
      (forIn fs PUnit.unit (fun f _ => if f.name ≠ "_" then (do
          let y ← part f.type X f.offset
          Instr.checkKey em d f.type y
          pure (ForInStep.yield PUnit.unit)) else pure (ForInStep.yield PUnit.unit)) : Sem PUnit).run P w = .ok () w
  | [], off, ks, b, hk, he, _ => by simp
  | f :: fs, off, ks, b, hk, he, hX => by
    simp only [kindsF] at hk
    split at hk
    · rename_i ag ks1 hg
      split at hk
      · rename_i hc
        obtain ⟨hname, hoff, hag⟩ := hc
        split at hk
        · rename_i l hl
          injection hk with hk
          subst hk
          obtain ⟨b1, b2, h1, h2, h3⟩ := eqV_app he
          have hlen := eqV_len he
          simp only [List.length_drop, List.length_append, Array.length_toList] at hlen
          obtain ⟨hone, hi⟩ := ih _ _ _ hg
          have hpx : (part f.type X f.offset).run P w = .ok (keyV ag ((X.toList.drop off).take ks1.length)) w := by
            rw [hoff]; exact part_run hag hone (by omega)
          have hr := hi _ _ h1
          rw [List.drop_drop] at h2
          have hrec := ck_fields ih X fs (off + ks1.length) l b2 hl h2 (by omega)
          simp only [List.forIn_cons, Sem.run_bind, hname, ne_eq, not_false_eq_true, if_true, Result.andThen_ok, hpx, hr, Sem.run_pure]
          exact hrec
        · simp at hk
      · simp at hk
    · simp at hk
theorem ck_ok {em : Bool} : ∀ (n : Nat) (kt : TypeId) (ag : Bool) (ls : List LK), kindsT P n kt = some (ag, ls) → ∀ d, n ≤ d → ∀ kc b, eqV ls kc kc = some b → (Instr.checkKey em d kt (keyV ag kc)).run P w = .ok () w
  | 0, _, _, _, hk => by simp [kindsT] at hk
  | n + 1, kt, ag, ls, hk => by
    intro d hd kc b hb
    obtain ⟨d, rfl⟩ : ∃ d', d = d' + 1 := ⟨d - 1, by omega⟩
    have hk' := hk
    simp only [kindsT] at hk'
    split at hk'
    · rename_i k hu
      simp [Instr.checkKey, run_underlying hu]
    · rename_i hu
      simp [Instr.checkKey, run_underlying hu]
    · rename_i hu
      simp [Instr.checkKey, run_underlying hu]
    · rename_i fs hu
      split at hk'
      · simp at hk'
      · split at hk'
        · rename_i l hl
          injection hk' with hk'; injection hk' with e1 e2; subst e1; subst e2
          have h := ck_fields (w := w) (em := em) (d := d) (fun t ag ks ht => ⟨(eq_type (w := w) n t ag ks ht).1, ck_ok n t ag ks ht d (by omega)⟩) kc.toArray fs.toList 0 l b hl (by simpa using hb) (by simp)
          simp only [Instr.checkKey, keyV, if_true, Sem.run_bind, run_underlying hu, Result.andThen_ok]
          rw [← Array.forIn_toList, h]
          simp
        · simp at hk'
    · simp at hk'
theorem sameBits_cell : ∀ {ls : List LK} {xs : List Value} {b : Bool}, eqV ls xs xs = some b → ∀ x ∈ xs, ∀ n, Instr.sameBits n x x = true
  | [], xs, b, h, x, hx => by cases xs <;> simp_all [eqV]
  | l :: ls, [], b, h, x, hx => by simp at hx
  | l :: ls, y :: xs, b, h, x, hx => by
    have hrec : ∃ b', eqV ls xs xs = some b' := by
      cases l <;> cases y <;> simp only [eqV] at h <;> (try (simp at h; done))
      · split at h
        · split at h
          · rename_i r hr; exact ⟨r, hr⟩
          · simp at h
        · simp at h
      · split at h
        · rename_i r hr; exact ⟨r, hr⟩
        · simp at h
      · split at h
        · rename_i r hr; exact ⟨r, hr⟩
        · simp at h
    obtain ⟨b', hb'⟩ := hrec
    intro n
    rcases List.mem_cons.1 hx with rfl | hx
    · cases l <;> cases x <;> simp only [eqV] at h <;> (try (simp at h; done)) <;> cases n <;> simp [Instr.sameBits, bytes_beq']
    · exact sameBits_cell hb' x hx n
theorem stays_ok {ag : Bool} {ls : List LK} {kc : List Value} {b : Bool} (hb : eqV ls kc kc = some b) (h1 : ag = false → ls.length = 1) : (Instr.keyThatStays (keyV ag kc) (keyV ag kc)).run P w = .ok (keyV ag kc) w := by
  have : Instr.sameBits 10000 (keyV ag kc) (keyV ag kc) = true := by
    cases ag with
    | false =>
      have hl := eqV_len hb
      rw [h1 rfl] at hl
      match kc, hl with
      | [x], _ => simpa [keyV] using sameBits_cell hb x (by simp) 10000
    | true =>
      have key : ∀ m, Instr.sameBits (m + 1) (keyV true kc) (keyV true kc) = true := fun m => by
        simp only [keyV, if_true, Instr.sameBits, beq_self_eq_true, Bool.true_and, List.all_eq_true]
        rintro ⟨x, y⟩ hm
        have hxy : x = y ∧ x ∈ kc := by
          rw [List.zip_eq_zipWith] at hm
          obtain ⟨i, hi⟩ := List.getElem?_of_mem hm
          rw [List.getElem?_zipWith] at hi
          split at hi
          · rename_i p q hp hq
            rw [hp] at hq
            injection hq with hq
            simp only [Option.some.injEq, Prod.mk.injEq] at hi
            obtain ⟨rfl, rfl⟩ := hi
            exact ⟨hq, List.mem_of_getElem? hp⟩
          · simp at hi
        rw [← hxy.1]
        exact sameBits_cell hb x hxy.2 m
      exact key 9999
  simp [Instr.keyThatStays, this]
end
end Hud
end
section
namespace Hud
open Go
section
variable {P : Program} {G : Nat → Option (List AV)} {h : GH} {φ : Nat → Value} {T : Tab} {w : World} {s : List (Nat × AV)} {a : Act}
theorem exactL_ok {n : Nat} : ∀ {cs : List AV} {us kc : List Value}, exactL cs = some kc → RpL h φ n cs us → us = kc
  | [], us, kc, e, hr => by
    simp only [exactL, Option.some.injEq] at e
    simp only [RpL] at hr
    subst e; exact hr
  | c :: cs, us, kc, e, hr => by
    cases c <;> simp only [exactL] at e <;> (try (simp at e; done))
    simp only [RpL, Rp] at hr
    obtain ⟨u, us', rfl, rfl, h2⟩ := hr
    split at e
    · rename_i l hl
      injection e with e
      subst e
      rw [exactL_ok hl h2]
    · simp at e
theorem keyC_ok {n : Nat} {x : AV} {u : Value} {ag : Bool} {ls : List LK} {kc : List Value} (hx : Rp h φ n x u) (e : keyC ag ls x = some kc) : u = keyV ag kc ∧ ∃ b, eqV ls kc kc = some b := by
  unfold keyC at e
  split at e
  · rename_i k hk
    split at e
    · rename_i b hb
      injection e with e
      subst e
      refine ⟨?_, b, hb⟩
      split at hk
      · rename_i hag
        subst hag
        split at hk
        · rename_i cs hcs
          have : ∃ us : Array Value, u = .agg us ∧ RpL h φ n cs us.toList := by
            unfold aggC at hcs
            split at hcs
            · injection hcs with hcs; subst hcs
              simpa only [Rp] using hx
            · injection hcs with hcs; subst hcs
              simp only [Rp] at hx
              exact ⟨_, hx, rpl_v h φ n _⟩
            · simp at hcs
          obtain ⟨us, rfl, hr⟩ := this
          have := exactL_ok hk hr
          simp [keyV, ← this]
        · simp at hk
      · rename_i hag
        split at hk
        · rename_i v
          injection hk with hk
          subst hk
          simp only [Rp] at hx
          simp [keyV, hag, hx]
        · simp at hk
    · simp at e
  · simp at e
theorem map_at (hI : Inv h φ w T) {i : Nat} {ag : Bool} {ks : List (List Value)} {vs : List AV} {bs : List Nat} {cl : Nat} (hg : getT T i = some (.map ag ks vs bs cl)) :
    ∃ (g : Nat) (ens : Array MapEntry), φ i = .map (some g) ∧ w.heap[g]? = some (.map ens cl) ∧ h g = none ∧
      ens.toList.map (·.key) = ks.map (keyV ag) ∧ ens.toList.map (·.born) = bs ∧ RpL h φ T.length vs (ens.toList.map (·.val)) := hI.obj i _ (getT_some hg)
theorem getObj_map {r : Nat} {es : Array MapEntry} {clock : Nat} (hb : w.heap[r]? = some (.map es clock)) : (getObj r).run P w = .ok (.map es clock) w := by simp [getObj, Sem.run, hb]
theorem setObj_map {r : Nat} {es : Array MapEntry} {clock : Nat} (o : Obj) (hb : w.heap[r]? = some (.map es clock)) : (setObj r o).run P w = .ok () { w with heap := w.heap.setIfInBounds r o } := by simp [setObj, Sem.run, hb]
theorem set_map (hI : Inv h φ w T) {i : Nat} {ag : Bool} {ks : List (List Value)} {vs : List AV} {bs : List Nat} {cl : Nat} (hg : getT T i = some (.map ag ks vs bs cl)) {g : Nat} {ens : Array MapEntry} (hφ : φ i = .map (some g)) (hw : w.heap[g]? = some (.map ens cl))
    {ens' : Array MapEntry} {ks' : List (List Value)} {vs' : List AV} {bs' : List Nat} {cl' : Nat} (h1 : ens'.toList.map (·.key) = ks'.map (keyV ag)) (h2 : ens'.toList.map (·.born) = bs') (h3 : RpL h φ T.length vs' (ens'.toList.map (·.val))) :
    Inv h φ { w with heap := w.heap.setIfInBounds g (.map ens' cl') } (T.set i (some (.map ag ks' vs' bs' cl'))) ∧
    Evo h φ T w h φ (T.set i (some (.map ag ks' vs' bs' cl'))) { w with heap := w.heap.setIfInBounds g (.map ens' cl') } := by
  have hlt : g < w.heap.size := by
    rcases Nat.lt_or_ge g w.heap.size with hh | hh
    · exact hh
    · rw [Array.getElem?_eq_none hh] at hw; simp at hw
  have hn := (objAt_blk (hI.obj i _ (getT_some hg)) (g := g) (by rw [hφ]; rfl)).2
  refine inv_set (w' := { w with heap := w.heap.setIfInBounds g (.map ens' cl') }) hI rfl rfl rfl (by simp) (getT_some hg) (fun b _ hne => ?_) ⟨g, ens', hφ, by simp [hlt], hn, h1, h2, h3⟩
  have : g ≠ b := fun e => hne (by rw [hφ, e]; rfl)
  simp [Array.getElem?_setIfInBounds_ne this]
theorem mkm_makes (hI : Inv h φ w T) (t : TypeId) (ag : Bool) : Makes h φ T w ((Instr.makeMap t none).run P w) (.mp T.length) (T ++ [some (.map ag [] [] [] 0)]) := by
  have hn : h w.heap.size = none := ghost_new hI
  have := inv_new (w' := w.alloc (.map #[] 0)) (o := .map ag [] [] [] 0) (v := .map (some w.heap.size)) hI rfl rfl rfl (by simp) (fun b hb => heap_alloc_lt w _ b hb)
    (fun g hg => by simp only [blk, Option.some.injEq] at hg; omega)
    ⟨w.heap.size, #[], upd_self, heap_alloc_new w _, hn, by simp, by simp, by simp [RpL]⟩
  refine ⟨_, _, h, _, by simp [Instr.makeMap]; rfl, this.2, this.1, ?_⟩
  simp only [Rp]
  exact ⟨by simp, upd_self.symm, w.heap.size, rfl⟩
theorem found_get {ens : Array MapEntry} {vs : List AV} {n : Nat} (hv : RpL h φ n vs (ens.toList.map (·.val))) {j : Nat} {out : Option (Nat × Value)} (hf : Found ens.toList 0 (some j) out) {x : AV} (hx : vs[j]? = some x) :
    ∃ e, ens[j]? = some e ∧ out = some (j, e.val) ∧ Rp h φ n x e.val := by
  obtain ⟨_, e, h1, h2⟩ := hf
  obtain ⟨u, h3, h4⟩ := hv.get hx
  simp only [Nat.sub_zero] at h1
  rw [List.getElem?_map, h1] at h3
  simp only [Option.map_some, Option.some.injEq] at h3
  subst h3
  exact ⟨e, by simpa using h1, h2, h4⟩
theorem lku_gives {t kt et : TypeId} (ht : P.underlying t = some (.map kt et)) {ag : Bool} {ls : List LK} (hk : kindsT P 20 kt = some (ag, ls)) {i : TypeInfo} (hi : P.info? et = some i) {z : Value} (hz : i.zero = some z) {ok : Bool}
    (hG : GOk G h) (hI : Inv h φ w T) (hS : SOk h φ T.length s a) {m k : Operand} {x : AV} {T' : Tab} (he : hop T (evO G s) (.lku ag ls z m k ok) = some (x, T')) :
    T' = T ∧ ∃ v, (Instr.lookup t (a.eval m) (a.eval k) ok).run P w = .ok v w ∧ Rp h φ T.length x v := by
  have hm := ev_ok hG hS m
  have hkv := ev_ok hG hS k
  simp only [hop] at he
  split at he
  · rename_i ks vs kc hmap hkc
    obtain ⟨hku, b, hb⟩ := keyC_ok hkv hkc
    have hck : ∀ em, (Instr.checkKey em 10000 kt (a.eval k)).run P w = .ok () w := fun em => by rw [hku]; exact ck_ok 20 kt ag ls hk 10000 (by omega) kc b hb
    have hzr : (zeroValue et).run P w = .ok z w := by simp [zeroValue, typeInfo, hi, hz]
    have hen : ∃ ens : Array MapEntry, ens.toList.map (·.key) = ks.map (keyV ag) ∧ RpL h φ T.length vs (ens.toList.map (·.val)) ∧
        ∀ out, (Instr.findKey kt (a.eval k) ens.toList).run P w = .ok out w → (Instr.lookup t (a.eval m) (a.eval k) ok).run P w = .ok (match out with | some (_, v) => if ok then .tuple #[v, .bool true] else v | none => if ok then .tuple #[z, .bool false] else z) w := by
      unfold mapAt at hmap
      split at hmap
      · rename_i hev
        injection hmap with hmap
        injection hmap with e1 e2
        subst e1; subst e2
        refine ⟨#[], rfl, by simp [RpL], fun out hout => ?_⟩
        have : out = none := by
          have : (Instr.findKey kt (a.eval k) []).run P w = .ok none w := by
            obtain ⟨o, h1, h2⟩ := find_ok (w := w) (kc := kc) (ens := []) (ks := []) (r := none) hk (by decide) rfl rfl
            rw [hku, h2]; simp only [Found] at h1; rw [h1]
          rw [this] at hout
          injection hout with hout _
          exact hout.symm
        subst this
        rw [ev_v hG hS hev]
        have hf : (Instr.findKey kt (a.eval k) (#[] : Array MapEntry).toList).run P w = .ok none w := hout
        simp [Instr.lookup, run_underlying ht, hck, hf, hzr]
      · rename_i i hev
        split at hmap
        · rename_i ag' ks' vs' bs cl hg
          split at hmap
          · rename_i hag
            subst hag
            injection hmap with hmap
            injection hmap with e1 e2
            subst e1; subst e2
            obtain ⟨g, ens, h1, h2, h3, h4, h5, h6⟩ := map_at hI hg
            refine ⟨ens, h4, h6, fun out hout => ?_⟩
            rw [hev] at hm; simp only [Rp] at hm
            rw [hm.2.1, h1]
            cases out with
            | none => simp [Instr.lookup, run_underlying ht, getObj_map h2, hck, hout, hzr]
            | some p => simp [Instr.lookup, run_underlying ht, getObj_map h2, hck, hout]
          · simp at hmap
        · simp at hmap
      · simp at hmap
    obtain ⟨ens, hkeys, hvals, hrun⟩ := hen
    split at he
    · rename_i hf
      injection he with he; injection he with e1 e2; subst e1; subst e2
      obtain ⟨out, h1, h2⟩ := find_ok (w := w) hk (by decide) hkeys hf
      simp only [Found] at h1
      subst h1
      refine ⟨rfl, _, hrun none (by rw [hku]; exact h2), ?_⟩
      cases ok <;> simp [Rp, RpL]
    · rename_i j hf
      split at he
      · rename_i y hy
        injection he with he; injection he with e1 e2; subst e1; subst e2
        obtain ⟨out, h1, h2⟩ := find_ok (w := w) hk (by decide) hkeys hf
        obtain ⟨e, h3, h4, h5⟩ := found_get hvals h1 hy
        subst h4
        refine ⟨rfl, _, hrun _ (by rw [hku]; exact h2), ?_⟩
        cases ok
        · simpa using h5
        · simp only [if_true, Rp, RpL]
          exact ⟨_, rfl, _, _, rfl, h5, _, _, rfl, rfl, rfl⟩
      · simp at he
    · simp at he
  · simp at he
theorem findK_ge {ls : List LK} {kc : List Value} : ∀ (ks : List (List Value)) (i : Nat) {j : Nat}, findK ls kc ks i = some (some j) → i ≤ j
  | [], i, j, h => by simp [findK] at h
  | k :: ks, i, j, h => by
    simp only [findK] at h
    split at h
    · simp only [Option.some.injEq] at h; omega
    · have := findK_ge ks (i + 1) h; omega
    · simp at h
theorem findK_eq {ls : List LK} {kc : List Value} : ∀ (ks : List (List Value)) (i : Nat) {j : Nat}, findK ls kc ks i = some (some j) → ∀ {k' : List Value}, ks[j - i]? = some k' → eqV ls kc k' = some true
  | [], i, j, h, k', _ => by simp [findK] at h
  | k :: ks, i, j, h, k', hk => by
    simp only [findK] at h
    split at h
    · rename_i hb
      simp only [Option.some.injEq] at h
      subst h
      simp only [Nat.sub_self, List.getElem?_cons_zero, Option.some.injEq] at hk
      subst hk
      exact hb
    · have hij := findK_ge ks (i + 1) h
      rw [show j - i = (j - (i + 1)) + 1 from by omega, List.getElem?_cons_succ] at hk
      exact findK_eq ks (i + 1) h hk
    · simp at h
theorem modify_list (ens : Array MapEntry) (j : Nat) (f : MapEntry → MapEntry) : (ens.modify j f).toList = ens.toList.modify j f := by simp
theorem map_modify_key (l : List MapEntry) (j : Nat) (f : MapEntry → MapEntry) (hf : ∀ e, l[j]? = some e → (f e).key = e.key) : (l.modify j f).map (·.key) = l.map (·.key) := by
  apply List.ext_getElem?
  intro i
  rw [List.getElem?_map, List.getElem?_map, List.getElem?_modify]
  split
  · rename_i hij; subst hij
    cases he : l[j]? with
    | none => rfl
    | some e => simp [hf e he]
  · simp
theorem map_modify_born (l : List MapEntry) (j : Nat) (f : MapEntry → MapEntry) (hf : ∀ e, (f e).born = e.born) : (l.modify j f).map (·.born) = l.map (·.born) := by
  apply List.ext_getElem?
  intro i
  rw [List.getElem?_map, List.getElem?_map, List.getElem?_modify]
  split
  · cases he : l[i]? with
    | none => rfl
    | some e => simp [hf]
  · simp
theorem map_modify_val (l : List MapEntry) (j : Nat) (f : MapEntry → MapEntry) (v : Value) (hf : ∀ e, (f e).val = v) : (l.modify j f).map (·.val) = (l.map (·.val)).set j v := by
  apply List.ext_getElem?
  intro i
  rw [List.getElem?_map, List.getElem?_modify, List.getElem?_set, List.getElem?_map]
  split
  · rename_i hij; subst hij
    cases he : l[j]? with
    | none => simp [List.getElem?_eq_none_iff.1 he]
    | some e =>
      have : j < l.length := (List.getElem?_eq_some_iff.1 he).1
      simp [hf, this]
  · simp
theorem RpL.setv {n : Nat} {vs : List AV} {us : List Value} (hr : RpL h φ n vs us) {j : Nat} {x : AV} {v : Value} (hx : Rp h φ n x v) : RpL h φ n (vs.set j x) (us.set j v) :=
  RpL.mk (by simp [hr.length]) fun i c u hc hu => by
    rw [List.getElem?_set] at hc hu
    rw [hr.length] at hc
    split at hc
    · rename_i hij
      rw [if_pos hij] at hu
      split at hc
      · rename_i hl
        rw [if_pos hl] at hu
        injection hc with hc; injection hu with hu
        subst hc; subst hu; exact hx
      · simp at hc
    · rename_i hij
      rw [if_neg hij] at hu
      obtain ⟨u', h1, h2⟩ := hr.get hc
      rw [hu] at h1; injection h1 with h1; subst h1; exact h2
theorem mup_makes {t kt et : TypeId} (ht : P.underlying t = some (.map kt et)) {ag : Bool} {ls : List LK} (hk : kindsT P 20 kt = some (ag, ls))
    (hG : GOk G h) (hI : Inv h φ w T) (hS : SOk h φ T.length s a) {m k q : Operand} {x : AV} {T' : Tab} (he : hop T (evO G s) (.mup ag ls m k q) = some (x, T')) :
    ∃ w', (Instr.mapUpdate t (a.eval m) (a.eval k) (a.eval q)).run P w = .ok () w' ∧ x = .v undef ∧ Evo h φ T w h φ T' w' ∧ Inv h φ w' T' := by
  have hm := ev_ok hG hS m
  have hkv := ev_ok hG hS k
  have hq := ev_ok hG hS q
  simp only [hop] at he
  split at he
  · rename_i i hev
    rw [hev] at hm; simp only [Rp] at hm
    split at he
    · rename_i ag' ks vs bs cl kc hg hkc
      split at he
      · rename_i hag
        subst hag
        obtain ⟨hku, b, hb⟩ := keyC_ok hkv hkc
        have hck : ∀ em, (Instr.checkKey em 10000 kt (a.eval k)).run P w = .ok () w := fun em => by rw [hku]; exact ck_ok 20 kt ag ls hk 10000 (by omega) kc b hb
        obtain ⟨g, ens, h1, h2, h3, h4, h5, h6⟩ := map_at hI hg
        rw [hm.2.1, h1]
        split at he
        · rename_i hf
          injection he with he; injection he with e1 e2; subst e1; subst e2
          obtain ⟨out, f1, f2⟩ := find_ok (w := w) hk (by decide) h4 hf
          simp only [Found] at f1
          subst f1
          rw [← hku] at f2
          have hset := set_map hI hg h1 h2 (ens' := ens.push { key := a.eval k, val := a.eval q, born := cl }) (ks' := ks ++ [kc]) (vs' := vs ++ [evO G s q]) (bs' := bs ++ [cl]) (cl' := cl + 1)
            (by simp [h4, hku]) (by simp [h5]) (by simp only [Array.toList_push, List.map_append, List.map_cons, List.map_nil]; exact h6.app (by simp [RpL, hq]))
          exact ⟨_, by simp [Instr.mapUpdate, run_underlying ht, getObj_map h2, hck, f2, setObj_map _ h2], rfl, hset.2, hset.1⟩
        · rename_i j hf
          injection he with he; injection he with e1 e2; subst e1; subst e2
          obtain ⟨out, f1, f2⟩ := find_ok (w := w) hk (by decide) h4 hf
          obtain ⟨_, e, f3, f4⟩ := f1
          subst f4
          rw [← hku] at f2
          simp only [Nat.sub_zero] at f3
          have hek : e.key = a.eval k := by
            have hkj : (ks.map (keyV ag))[j]? = some e.key := by rw [← h4, List.getElem?_map, f3]; rfl
            rw [List.getElem?_map] at hkj
            cases hkk : ks[j]? with
            | none => simp [hkk] at hkj
            | some k' =>
              simp only [hkk, Option.map_some, Option.some.injEq] at hkj
              have : eqV ls kc k' = some true := findK_eq ks 0 hf (by simpa using hkk)
              rw [← hkj, hku, eqV_true this]
          have f3' : ens[j]? = some e := by simpa using f3
          have hst : (Instr.keyThatStays e.key (a.eval k)).run P w = .ok (a.eval k) w := by
            rw [hek, hku]; exact stays_ok hb (eq_type (P := P) (w := w) 20 kt ag ls hk).1
          have hset := set_map hI hg h1 h2 (ens' := ens.modify j fun e => { e with key := a.eval k, val := a.eval q }) (ks' := ks) (vs' := vs.set j (evO G s q)) (bs' := bs) (cl' := cl)
            (by rw [modify_list, map_modify_key _ _ _ (fun e' he' => by rw [f3] at he'; injection he' with he'; subst he'; exact hek.symm)]; exact h4)
            (by rw [modify_list, map_modify_born ens.toList j (fun e => { e with key := a.eval k, val := a.eval q }) (fun _ => rfl)]; exact h5)
            (by rw [modify_list, map_modify_val ens.toList j (fun e => { e with key := a.eval k, val := a.eval q }) (a.eval q) (fun _ => rfl)]; exact h6.setv hq)
          exact ⟨_, by simp [Instr.mapUpdate, run_underlying ht, getObj_map h2, hck, f2, f3', hst, setObj_map _ h2], rfl, hset.2, hset.1⟩
        · simp at he
      · simp at he
    · simp at he
  · simp at he
theorem lenM_gives {t kt et ty : TypeId} (ht : P.underlying t = some (.map kt et)) {ts : Array TypeId} (hts : ts[0]? = some t)
    (hG : GOk G h) (hI : Inv h φ w T) (hS : SOk h φ T.length s a) {p : Operand} {x : AV} {T' : Tab} (he : hop T (evO G s) (.lenM p) = some (x, T')) :
    T' = T ∧ ∃ v, (Builtin.len_ ts ty #[a.eval p]).run P w = .ok v w ∧ Rp h φ T.length x v := by
  have hp := ev_ok hG hS p
  simp only [hop] at he
  split at he
  · rename_i hev
    injection he with he; injection he with e1 e2; subst e1; subst e2
    rw [ev_v hG hS hev]
    exact ⟨rfl, goInt 0, by simp [Builtin.len_, hts, run_underlying ht], by simp [Rp, goInt]⟩
  · rename_i i hev
    rw [hev] at hp; simp only [Rp] at hp
    split at he
    · rename_i ag ks vs bs cl hg
      injection he with he; injection he with e1 e2; subst e1; subst e2
      obtain ⟨g, ens, h1, h2, h3, h4, h5, h6⟩ := map_at hI hg
      have hl : ens.size = ks.length := by
        have := congrArg List.length h4
        simpa using this
      rw [hp.2.1, h1]
      exact ⟨rfl, goInt ens.size, by simp [Builtin.len_, hts, run_underlying ht, getObj_map h2], by simp [Rp, goInt, hl]⟩
    · simp at he
  · simp at he
end
end Hud
end
