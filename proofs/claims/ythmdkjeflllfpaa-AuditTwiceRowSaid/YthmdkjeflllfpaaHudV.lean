/- Code: what is compiled is done. -/
import Derived.Test.YthmdkjeflllfpaaHudW
set_option linter.all false
namespace Hud
open Go

-- which slots are still read
def addU (L : List Nat) : List Nat → List Nat
  | [] => L
  | i :: r => if L.contains i then addU L r else addU (i :: L) r
def subU (L d : List Nat) : List Nat := L.filter fun i => !d.contains i
/-- (read ahead of being written, written for sure, written at all), in the order of the text. -/
def useOps (ops : Array Oper) : List Oper → List Nat → List Nat → List Nat → List Nat × List Nat × List Nat
  | [], e, w, a => (e, w, a)
  | o :: os, e, w, a =>
    let g := match o.guard with | some (j, _) => (match (ops[j]?).bind (·.dst) with | some d => [d] | none => []) | none => []
    let rd := subU (g ++ o.op.operands.toList.flatMap opndT) w
    match o.dst with
    | some d => useOps ops os (addU e rd) (d :: w) (d :: a)
    | none => useOps ops os (addU e rd) w a
def atE : List (Nat × List Nat) → Nat → List Nat
  | [], _ => []
  | (i, x) :: r, j => if i = j then x else atE r j
/-- What is read from here on; behind it, at the exits' goals, at the function's end 'out', 'ex', 'rt' are. -/
def liveC (ex : List (Nat × List Nat)) (rt : List Nat) : Code → List Nat → List Nat
  | .region _ ops _, out => let u := useOps ops ops.toList [] [] []; addU u.1 (subU out u.2.1)
  | .seq a b, out => liveC ex rt a (liveC ex rt b out)
  | .cond c a b, out => addU (addU (opndT c) (liveC ex rt a out)) (liveC ex rt b out)
  | .block i a, out => liveC ((i, out) :: ex) rt a out
  | .loop a, _ => liveC ex rt a []
  | .exit i, _ => atE ex i
  | .ret, _ => rt
  | _, out => out
def killH (d : List Nat) (h : HC) : HC := match d with | [] => h | d => .seq h (.kill d)
def killB (d : List Nat) (h : HC) : HC := match d with | [] => h | d => .seq (.kill d) h

/-- Slots, places in boxes, that are taken for arrays of so many cells an element, where they were written. -/
def ownH (wr : List Nat) : List (Nat × Option Nat × Nat) → HC → HC
  | [], h => h
  | (j, c, k) :: r, h => ownH wr r (if wr.contains j then .seq h (.own j c k) else h)

def compCode (P : Program) (N : Nat) (H : List (Nat × Option Nat × Nat)) : Code → List (Nat × List Nat) → List Nat → List Nat → Option HC
  | .skip, _, _, _ => some .skip
  | .region id ops dr, ex, rt, out =>
    let u := useOps ops ops.toList [] [] []
    let k := subU (addU u.2.2 (liveC ex rt (.region id ops dr) out)) out
    if dr then (if P.follows .mixedOrders then (compDraw P N ops).map fun d => ownH (subU u.2.2 k) H (killH k (.regd d)) else none)
    else (compOps P N ops ops.toList).map fun l => ownH (subU u.2.2 k) H (killH k (.reg l))
  | .seq a b, ex, rt, out => match compCode P N H a ex rt (liveC ex rt b out), compCode P N H b ex rt out with
    | some x, some y => some (.seq x y)
    | _, _ => none
  | .cond c a b, ex, rt, out =>
    let la := liveC ex rt a out
    let lb := liveC ex rt b out
    let all := addU (addU (opndT c) la) lb
    match compCode P N H a ex rt out, compCode P N H b ex rt out with
    | some x, some y => some (.cond c (killB (subU all la) x) (killB (subU all lb) y))
    | _, _ => none
  | .block i a, ex, rt, out => (compCode P N H a ((i, out) :: ex) rt out).map (.block i)
  | .loop a, ex, rt, _ => (compCode P N H a ex rt (liveC ex rt a [])).map (.loop [])
  | .exit i, _, _, _ => some (.exit i)
  | .ret, _, _, _ => some .ret
  | _, _, _, _ => none

structure HFun where
  nt : Nat
  res : List Nat
  code : HC
  deriving Inhabited

def resT : List ResultVar → Option (List Nat)
  | [] => some []
  | .tmp t :: r => (resT r).map (t :: ·)
  | _ => none

def compFunH (P : Program) (f : FuncId) (H : List (Nat × Option Nat × Nat)) : Option HFun :=
  match P.funcs[f]? with
  | none => none
  | some fn => if fn.name == "runtime.NumGoroutine" then none else match fn.body, resT fn.results.toList with
    | some c, some rs => (compCode P fn.ntmps H c [] rs rs).map fun h => ⟨fn.ntmps, rs, killB (subU (List.range (fn.params.size + fn.nfree)) (liveC [] rs c rs)) h⟩
    | _, _ => none

def compFun (P : Program) (f : FuncId) : Option HFun := compFunH P f []

section
variable {P : Program} {G : Nat → Option (List AV)} {N : Nat} {H : List (Nat × Option Nat × Nat)} {h0 : GH} {φ0 : Nat → Value} {T0 : Tab} {w0 : World} {a : Act} {w : World}

def exQ (Q : Ex → St → Prop) : Exit → St → Prop
  | .normal, s => Q .normal s
  | .exit i, s => Q (.exit i) s
  | .ret, s => Q .ret s
  | _, _ => False

/-- The least round's number. -/
theorem least {p : Nat → Prop} (h : ∃ n, p n) : ∃ n, p n ∧ ∀ m, m < n → ¬ p m := by
  obtain ⟨n, hn⟩ := h
  induction n using Nat.strongRecOn with
  | _ n ih =>
    by_cases hx : ∃ m, m < n ∧ p m
    · obtain ⟨m, hm, hp⟩ := hx; exact ih m hm hp
    · exact ⟨n, hn, fun m hm hp => hx ⟨m, hm, hp⟩⟩

theorem SInv.kill {st : St} (hS : SInv P G N h0 φ0 T0 w0 st a w) (d : List Nat) : SInv P G N h0 φ0 T0 w0 ⟨st.r, dropS d st.s, st.T⟩ a w := by
  obtain ⟨hr, honce, ⟨h, φ, hG, hE, hI, hSl⟩, hsz, hdf⟩ := hS
  have ho : Once (dropS d st.s) := fun i x y hx hy => honce i x y (mem_drop hx) (mem_drop hy)
  refine ⟨hr, ho, ⟨h, φ, hG, hE, hI, fun i => ?_⟩, hsz, hdf⟩
  show Rp h φ st.T.length (getS (dropS d st.s) i) _
  rcases get_mem (l := dropS d st.s) (i := i) with e | e
  · rw [e]; simp [Rp]
  · rw [← once_get honce (mem_drop e)]; exact hSl i
theorem killH_reg {d : List Nat} {l : List HOper} {Q : Ex → St → Prop} {st : St} (h : codeW P G (killH d (.reg l)) Q st) :
    ∃ K : St → Prop, opsW P G l st K ∧ ∀ s, K s → Q .normal s ∨ Q .normal ⟨s.r, dropS d s.s, s.T⟩ := by
  cases d with
  | nil => exact ⟨Q .normal, h, fun s hs => .inl hs⟩
  | cons i d => exact ⟨_, h, fun s hs => .inr hs⟩
theorem killH_regd {d : List Nat} {l : HD} {Q : Ex → St → Prop} {st : St} (h : codeW P G (killH d (.regd l)) Q st) :
    ∃ K : St → Prop, hdW P G l st K ∧ ∀ s, K s → Q .normal s ∨ Q .normal ⟨s.r, dropS d s.s, s.T⟩ := by
  cases d with
  | nil => exact ⟨Q .normal, h, fun s hs => .inl hs⟩
  | cons i d => exact ⟨_, h, fun s hs => .inr hs⟩
theorem killB_w {d : List Nat} {c : HC} {Q : Ex → St → Prop} {st : St} (h : codeW P G (killB d c) Q st) : codeW P G c Q st ∨ codeW P G c Q ⟨st.r, dropS d st.s, st.T⟩ := by
  cases d with
  | nil => exact .inl h
  | cons i d => exact .inr h

theorem SInv.own {st : St} (hS : SInv P G N h0 φ0 T0 w0 st a w) (j : Nat) (c : Option Nat) (k : Nat) : SInv P G N h0 φ0 T0 w0 (ownSt st j c k) a w := by
  have key : ∀ {h : GH} {φ : Nat → Value}, Inv h φ w st.T → Evo h0 φ0 T0 w0 h φ st.T w →
      Inv h (upd φ st.T.length (.slice none 0 0)) w (st.T ++ [some (.arr k [])]) ∧ Evo h0 φ0 T0 w0 h (upd φ st.T.length (.slice none 0 0)) (st.T ++ [some (.arr k [])]) w := by
    intro h φ hI hE
    have := inv_new (w' := w) (o := .arr k []) (v := .slice none 0 0) hI rfl rfl rfl (Nat.le_refl _) (fun _ _ => rfl) (fun g hg => by simp [blk] at hg) ⟨by simp, .inl ⟨upd_self, rfl⟩⟩
    exact ⟨this.1, hE.trans this.2⟩
  cases c with
  | none =>
    simp only [ownSt]
    split
    · rename_i hj
      obtain ⟨hr, honce, ⟨h, φ, hG, hE, hI, hSl⟩, hsz, hdf⟩ := hS
      obtain ⟨k1, k2⟩ := key hI hE
      have hjv := hSl j
      rw [hj] at hjv
      simp only [Rp] at hjv
      refine ⟨hr, once_put honce _ _, ⟨h, _, hG, k2, k1, fun i => ?_⟩, hsz, hdf⟩
      rw [getS_put]
      split
      · rename_i e
        subst e
        simp only [Rp]
        exact ⟨by simp, by rw [hjv, upd_self], none, 0, 0, hjv⟩
      · exact (hSl i).mono (GLe.refl h) (by simp) (fun i hi => upd_lt hi)
    · exact hS
  | some c =>
    simp only [ownSt]
    split
    · rename_i i o hj
      split
      · rename_i cs hg
        split
        · rename_i hc
          obtain ⟨hr, honce, ⟨h, φ, hG, hE, hI, hSl⟩, hsz, hdf⟩ := hS
          obtain ⟨k1, k2⟩ := key hI hE
          have hgt := getT_some hg
          have hlt : i < st.T.length := by
            rcases Nat.lt_or_ge i st.T.length with hh | hh
            · exact hh
            · rw [List.getElem?_eq_none hh] at hgt; simp at hgt
          have hgt' : (st.T ++ [some (.arr k [])])[i]? = some (some (.box cs)) := by rw [List.getElem?_append_left hlt]; exact hgt
          obtain ⟨g, us, E, e1, e2, e3, e4⟩ := k1.obj i _ hgt'
          have hset := inv_set (w' := w) (o' := .box (cs.set c (.own st.T.length))) k1 rfl rfl rfl (Nat.le_refl _) hgt' (fun _ _ _ => rfl) (by
            refine ⟨g, us, E, e1, e2, e3, ?_⟩
            obtain ⟨u, hu1, hu2⟩ := e4.get hc
            simp only [Rp] at hu2
            have := e4.set (m := c) (c := .own st.T.length) (u := u) (by
              simp only [Rp]
              exact ⟨by simp, by rw [hu2, upd_self], none, 0, 0, hu2⟩)
            rwa [show us.toList.set c u = us.toList from by
              apply List.ext_getElem?
              intro m
              rw [List.getElem?_set]
              split
              · rename_i e; subst e; split
                · exact hu1.symm
                · rename_i hh; rw [List.getElem?_eq_none (by omega)]
              · rfl] at this)
          refine ⟨hr, honce, ⟨h, _, hG, k2.trans hset.2, hset.1, fun i => ?_⟩, hsz, hdf⟩
          exact (hSl i).mono (GLe.refl h) (by simp) (fun i hi => upd_lt hi)
        · exact hS
      · exact hS
    · exact hS
theorem ownH_w {wr : List Nat} : ∀ {H : List (Nat × Option Nat × Nat)} {c : HC} {Q : Ex → St → Prop} {st : St}, codeW P G (ownH wr H c) Q st → ∃ R : Ex → St → Prop, codeW P G c R st ∧
    (∀ s, R .normal s → ∀ (a : Act) (w : World), SInv P G N h0 φ0 T0 w0 s a w → ∃ s', Q .normal s' ∧ SInv P G N h0 φ0 T0 w0 s' a w) ∧ (∀ i s, R (.exit i) s → Q (.exit i) s) ∧ (∀ s, R .ret s → Q .ret s)
  | [], c, Q, st, h => ⟨Q, h, fun s hs a w hS => ⟨s, hs, hS⟩, fun _ _ h => h, fun _ h => h⟩
  | (j, d, k) :: r, c, Q, st, h => by
    simp only [ownH] at h
    obtain ⟨R, h1, h2, h3, h4⟩ := ownH_w h
    split at h1
    · simp only [codeW] at h1
      refine ⟨_, h1, fun s hs a w hS => h2 _ hs a w (hS.own j d k), fun i s hs => h3 i s hs, fun s hs => h4 s hs⟩
    · exact ⟨R, h1, h2, h3, h4⟩

theorem code_sound (hr0 : T0.length ≤ 200) : ∀ {c : Code} {hc : HC} {Q : Ex → St → Prop} {st : St} {a : Act} {w : World} {ex : List (Nat × List Nat)} {rt out : List Nat}, compCode P N H c ex rt out = some hc → codeW P G hc Q st → SInv P G N h0 φ0 T0 w0 st a w →
    c.wp P (fun e a' w' => ∃ st', exQ Q e st' ∧ SInv P G N h0 φ0 T0 w0 st' a' w') a w := by
  intro c
  induction c with
  | skip =>
    intro hc Q st a w exs rt out e hw hS
    simp only [compCode, Option.some.injEq] at e
    subst e
    exact wp_skip ⟨st, hw, hS⟩
  | region id ops draw =>
    intro hc Q st a w exs rt out e hw hS
    cases draw with
    | true =>
      simp only [compCode, if_true] at e
      split at e
      · rename_i hm
        cases ho : compDraw P N ops with
        | none => simp [ho] at e
        | some hd =>
          simp only [ho, Option.map_some, Option.some.injEq] at e
          subst e
          obtain ⟨R, hw, h2, _, _⟩ := ownH_w (N := N) (h0 := h0) (φ0 := φ0) (T0 := T0) (w0 := w0) hw
          obtain ⟨K, hw, hK⟩ := killH_regd hw
          refine wp_region_any hm (draw_sound ho (by have := hS.r; omega) hw hS.drawn fun st' a' w' hk hS' => (hK st' hk).elim (fun hq => h2 st' hq a' w' hS') fun hq => h2 _ hq a' w' (hS'.kill _))
      · simp at e
    | false =>
      simp only [compCode, Bool.false_eq_true, if_false] at e
      cases ho : compOps P N ops ops.toList with
      | none => simp [ho] at e
      | some hl =>
        simp only [ho, Option.map_some, Option.some.injEq] at e
        subst e
        obtain ⟨R, hw, h2, _, _⟩ := ownH_w (N := N) (h0 := h0) (φ0 := φ0) (T0 := T0) (w0 := w0) hw
        obtain ⟨K, hw, hK⟩ := killH_reg hw
        exact wp_region_list (ops_sound ho hw hS fun st' a' w' hk hS' => (hK st' hk).elim (fun hq => h2 st' hq a' w' hS') fun hq => h2 _ hq a' w' (hS'.kill _))
  | seq x y ihx ihy =>
    intro hc Q st a w exs rt out e hw hS
    simp only [compCode] at e
    split at e
    · rename_i hx hy h1 h2
      injection e with e
      subst e
      simp only [codeW] at hw
      refine wp_seq (wp_mono (ihx h1 hw hS) fun ex a' w' ⟨st', hq, hS'⟩ => ?_)
      cases ex with
      | normal => exact ihy h2 hq hS'
      | exit i => exact ⟨st', hq, hS'⟩
      | ret => exact ⟨st', hq, hS'⟩
      | _ => exact hq.elim
    · simp at e
  | cond c x y ihx ihy =>
    intro hc Q st a w exs rt out e hw hS
    simp only [compCode] at e
    split at e
    · rename_i hx hy h1 h2
      injection e with e
      subst e
      simp only [codeW] at hw
      split at hw
      · rename_i t ht
        have hS' := hS
        obtain ⟨hr, honce, ⟨h, φ, hG, hE, hI, hSl⟩, hsz, hdf⟩ := hS'
        refine wp_cond (t := t) (ev_v hG hSl ht) ?_
        cases t
        · rcases killB_w hw with hw | hw
          · exact ihy h2 hw hS
          · exact ihy h2 hw (hS.kill _)
        · rcases killB_w hw with hw | hw
          · exact ihx h1 hw hS
          · exact ihx h1 hw (hS.kill _)
      · exact hw.elim
    · simp at e
  | block id x ih =>
    intro hc Q st a w exs rt out e hw hS
    simp only [compCode] at e
    cases hx : compCode P N H x ((id, out) :: exs) rt out with
    | none => simp [hx] at e
    | some hx' =>
      simp only [hx, Option.map_some, Option.some.injEq] at e
      subst e
      simp only [codeW] at hw
      refine wp_block (wp_mono (ih hx hw hS) fun ex a' w' ⟨st', hq, hS'⟩ => ?_)
      cases ex with
      | normal => exact ⟨st', hq, hS'⟩
      | exit i =>
        simp only [exQ] at hq
        simp only [Exit.inBlock]
        split
        · rename_i hi
          rw [if_pos hi] at hq
          exact ⟨st', hq, hS'⟩
        · rename_i hi
          rw [if_neg hi] at hq
          exact ⟨st', hq, hS'⟩
      | ret => exact ⟨st', hq, hS'⟩
      | _ => exact hq.elim
  | loop x ih =>
    intro hc Q st a w exs rt out e hw hS
    simp only [compCode] at e
    cases hx : compCode P N H x exs rt (liveC exs rt x []) with
    | none => simp [hx] at e
    | some hx' =>
      simp only [hx, Option.map_some, Option.some.injEq] at e
      subst e
      simp only [codeW] at hw
      obtain ⟨I, ⟨n0, hI0⟩, hround⟩ := hw
      have hr : ∀ {st a w}, SInv P G N h0 φ0 T0 w0 st a w → st.r ≤ 200 := fun h => by have := h.r; omega
      let J : Act → World → Nat → Prop := fun a w n => ∃ st, I n st ∧ SInv P G N h0 φ0 T0 w0 st a w
      refine wp_loop (fun a w => ∃ n, J a w n) (fun a w => open Classical in if h : ∃ n, J a w n then (least h).choose else 0) ⟨n0, _, hI0, gcs_ok (hr hS) _ hS⟩ fun a w hJ => ?_
      obtain ⟨st', hI', hS'⟩ := (least hJ).choose_spec.1
      refine wp_mono (ih hx (hround _ st' hI') hS') fun ex a' w' ⟨st2, hq, hS2⟩ => ?_
      cases ex with
      | normal =>
        obtain ⟨m, hm, hIm⟩ := hq
        have hJ' : ∃ n, J a' w' n := ⟨m, _, hIm, gcs_ok (hr hS2) _ hS2⟩
        refine ⟨hJ', ?_⟩
        simp only [dif_pos hJ', dif_pos hJ]
        have hle : (least hJ').choose ≤ m := by
          rcases Nat.lt_or_ge m (least hJ').choose with hlt | hge
          · exact absurd ⟨_, hIm, gcs_ok (hr hS2) _ hS2⟩ ((least hJ').choose_spec.2 m hlt)
          · exact hge
        omega
      | exit i => exact ⟨st2, hq, hS2⟩
      | ret => exact ⟨st2, hq, hS2⟩
      | _ => exact hq.elim
  | exit i =>
    intro hc Q st a w exs rt out e hw hS
    simp only [compCode, Option.some.injEq] at e
    subst e
    exact wp_exit ⟨st, hw, hS⟩
  | ret =>
    intro hc Q st a w exs rt out e hw hS
    simp only [compCode, Option.some.injEq] at e
    subst e
    exact wp_ret ⟨st, hw, hS⟩
  | _ => intro hc Q st a w exs rt out e; simp [compCode] at e
end
end Hud
