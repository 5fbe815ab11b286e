/- A region whose order is drawn: what its plan says holds in each order. -/
import Derived.Test.YthmdkjeflllfpaaHudU
set_option linter.all false
namespace Hud
open Go

section
variable {P : Program} {G : Nat → Option (List AV)} {N : Nat} {h0 : GH} {φ0 : Nat → Value} {T0 : Tab} {w0 : World}
variable {p : Plan} {ops : Array Oper} {E : List Nat} {st : St} {listed : Array Bool} {a : Act} {w : World} {Q : Exit → Act → World → Prop}

theorem callW_mono {f : FuncId} {args : List AV} {T : Tab} {K K' : AV → Tab → Prop} (h : ∀ x T, K x T → K' x T) (hw : callW P G f args T K) : callW P G f args T K' := by
  obtain ⟨as, hs, hw⟩ := hw
  refine ⟨as, hs, ?_⟩
  rcases hw with hw | ⟨h1, hw⟩
  · exact .inl (hw.mono fun r T' hk => h _ _ hk)
  · exact .inr ⟨h1, hw.mono fun r T' hk => ⟨hk.1, hk.2.1, h _ _ hk.2.2⟩⟩
theorem opW_mono {st : St} {o : HOp} {K K' : AV → Tab → Prop} (h : ∀ x T, K x T → K' x T) (hw : opW P G st o K) : opW P G st o K' := by
  cases o
  case call f as =>
    simp only [opW] at hw ⊢
    split at hw
    · rename_i g caps he
      exact callW_mono h hw
    · exact hw.elim
  all_goals
    simp only [opW] at hw ⊢
    split at hw
    · exact h _ _ hw
    · exact hw.elim

theorem opW_of_hop {st : St} {o : HOp} {K : AV → Tab → Prop} {x : AV} {T : Tab} (hq : quietH o = true) (he : hop st.T (evO G st.s) o = some (x, T)) (hk : K x T) : opW P G st o K := by
  cases o
  case call f as => simp [quietH] at hq
  all_goals
    simp only [opW, he]
    exact hk

theorem put_at (s : List (Nat × AV)) (d : Nat) (x : AV) : getS (putO s (some d) x) d = x := by simp [putO, getS_put]
theorem put_off {s : List (Nat × AV)} {d t : Nat} {x : AV} (h : d ≠ t) : getS (putO s (some d) x) t = getS s t := by simp [putO, getS_put, h]
theorem putO_off {s : List (Nat × AV)} {o : Option Nat} {t : Nat} {x : AV} (h : o ≠ some t) : getS (putO s o x) t = getS s t := by
  cases o with
  | none => rfl
  | some d => exact put_off fun e => h (by rw [e])

theorem listed_set {i : Nat} (hs : i < listed.size) (j : Nat) : (listed.setIfInBounds i true).getD j false = true ↔ j = i ∨ listed.getD j false = true := by
  by_cases h : i = j
  · subst h; simp [Array.getD_eq_getD_getElem?, hs]
  · rw [getD_set_ne false h]; constructor
    · exact .inr
    · rintro (rfl | h')
      · exact absurd rfl h
      · exact h'

/-- One more is evaluated. -/
theorem drawn_q (hp : PlanOk p ops) (hJ : Drawn P G N h0 φ0 T0 w0 p E st listed a w) {i : Nat} (hr : i ∈ p.ready E) (hq : p.quiet i = true) {o : HOper} (ho : p.hops[i]? = some o) {x : AV}
    (hx : (wants st.s o.guard = some true ∧ ∃ T', hop st.T (evO G st.s) o.op = some (x, T')) ∨ (wants st.s o.guard = some false ∧ x = .v undef)) :
    Drawn P G N h0 φ0 T0 w0 p (i :: E) ⟨st.r, putO st.s o.dst x, st.T⟩ listed a w := by
  obtain ⟨o', d, ho', hqh, hd, hrd⟩ := quiet_spec hq
  rw [ho] at ho'
  injection ho' with ho'
  subst ho'
  simp only [Plan.ready, List.mem_filter, List.mem_range, Bool.and_eq_true, Bool.not_eq_true', List.contains_eq_mem, decide_eq_false_iff_not, List.all_eq_true, decide_eq_true_eq] at hr
  obtain ⟨hlt, hni, hpre⟩ := hr
  have hnl : listed.getD i false = false := by
    cases hb : listed.getD i false
    · rfl
    · exact absurd (hJ.sub i hb) hni
  have noread : ∀ (k : Nat) ok, k ∈ E ∨ k = i → p.hops[k]? = some ok → d ∉ rdO ok := fun k ok hk hok hm => by
    have h1 := hrd k ok hok hm
    rcases hk with hk | rfl
    · exact hni (hJ.ecl k hk i h1)
    · exact hni (hpre k h1)
  have keep : ∀ (k : Nat) ok, k ∈ E ∨ k = i → p.hops[k]? = some ok → ∀ t ∈ rdO ok, getS (putO st.s o.dst x) t = getS st.s t := fun k ok hk hok t ht => by
    rw [hd]
    exact put_off fun e => noread k ok hk hok (e ▸ ht)
  refine ⟨hJ.size, ?_, fun k hk => List.mem_cons_of_mem _ (hJ.sub k hk), hJ.clo, ?_, ?_, ?_, once_putO hJ.once _ _, ?_⟩
  · intro k hk
    rcases List.mem_cons.1 hk with rfl | hk
    · exact hlt
    · exact hJ.lt k hk
  · intro k hk hqk
    rcases List.mem_cons.1 hk with rfl | hk
    · rw [hq] at hqk; simp at hqk
    · exact hJ.heavy k hk hqk
  · intro k hk q hqm
    rcases List.mem_cons.1 hk with rfl | hk
    · exact List.mem_cons_of_mem _ (hpre q hqm)
    · exact List.mem_cons_of_mem _ (hJ.ecl k hk q hqm)
  · intro k hk hul ok hok
    by_cases hki : k = i
    · subst hki
      rw [ho] at hok
      injection hok with hok
      subst hok
      have hg : wants (putO st.s o.dst x) o.guard = wants st.s o.guard := wants_congr fun j b e => keep k o (.inr rfl) ho j (by simp [rdO, e])
      have hh : hop st.T (evO G (putO st.s o.dst x)) o.op = hop st.T (evO G st.s) o.op := hop_congr fun y hy => ev_congr fun t ht => keep k o (.inr rfl) ho t (by simp only [rdO, List.mem_append]; exact .inl (hy t ht))
      rw [hd] at hg hh ⊢
      simp only [chkW, hg, hh, hd, Option.map_some, put_at, and_true]
      rcases hx with ⟨h1, T', h2⟩ | ⟨h1, h2⟩
      · simp [h1, h2]
      · simp [h1, h2]
    · have hkE : k ∈ E := by
        rcases List.mem_cons.1 hk with h | h
        · exact absurd h hki
        · exact h
      rw [chkW_congr (s' := st.s) (keep k ok (.inl hkE) hok) ?_]
      · exact hJ.pend k hkE hul ok hok
      · cases hdk : ok.dst with
        | none => rfl
        | some dk =>
          simp only [Option.map_some, Option.some.injEq]
          refine putO_off fun e => hki ?_
          exact hp.dst i k o ok dk ho hok (e ▸ rfl) hdk
  · obtain ⟨s', hs, hS⟩ := hJ.inv
    refine ⟨s', fun t => ?_, hS⟩
    by_cases ht : o.dst = some t
    · exact .inr ⟨i, o, by simp, hnl, ho, ht⟩
    · rcases hs t with h | ⟨k, ok, h1, h2, h3, h4⟩
      · exact .inl (by rw [h]; exact (putO_off ht).symm)
      · exact .inr ⟨k, ok, by simp [h1], h2, h3, h4⟩

/-- What an operation that may be made now reads is there. -/
theorem reads_same (hp : PlanOk p ops) (hJ : Drawn P G N h0 φ0 T0 w0 p E st listed a w) {i : Nat} (hr : i ∈ Region.ready .any ops listed) {o : HOper} (ho : p.hops[i]? = some o) {s' : List (Nat × AV)}
    (hs : ∀ t, getS s' t = getS st.s t ∨ ∃ i o, i ∈ E ∧ listed.getD i false = false ∧ p.hops[i]? = some o ∧ o.dst = some t) : ∀ t ∈ rdO o, getS s' t = getS st.s t := by
  intro t ht
  obtain ⟨_, _, _, hpre⟩ := ready_pre hp hJ hr
  rcases hs t with h | ⟨k, ok, h1, h2, h3, h4⟩
  · exact h
  · have hqk : p.quiet k = true := by
      cases hb : p.quiet k
      · rw [hJ.heavy k h1 hb] at h2; simp at h2
      · rfl
    obtain ⟨o', d, ho', _, hd, hrd⟩ := quiet_spec hqk
    rw [h3] at ho'
    injection ho' with ho'
    subst ho'
    rw [h4] at hd
    injection hd with hd
    subst hd
    rw [hpre k (hrd i o ho ht)] at h2
    simp at h2

/-- An evaluated one is made. -/
theorem exec_q (hp : PlanOk p ops) (hh : ∀ (i : Nat) ho, p.hops[i]? = some ho → ∃ o, ops[i]? = some o ∧ compOper P N ops o = some ho) (hJ : Drawn P G N h0 φ0 T0 w0 p E st listed a w) {i : Nat} (hr : i ∈ Region.ready .any ops listed) (hi : i ∈ E) {next : Act → World → Prop}
    (hn : ∀ a' w', Drawn P G N h0 φ0 T0 w0 p E st (listed.setIfInBounds i true) a' w' → next a' w') : wpOp P ops Q i next a w := by
  obtain ⟨hul, hlt, ⟨c, hc⟩, hpre⟩ := ready_pre hp hJ hr
  have hq : p.quiet i = true := by
    cases hb : p.quiet i
    · rw [hJ.heavy i hi hb] at hul; simp at hul
    · rfl
  obtain ⟨o, d, ho, hqh, hd, hrd⟩ := quiet_spec hq
  obtain ⟨s', hs, hS⟩ := hJ.inv
  have hrs := reads_same hp hJ hr ho hs
  have hck := hJ.pend i hi hul o ho
  obtain ⟨c', hc', hcomp⟩ := hh i o ho
  have fin : ∀ x a' w', x = getS st.s d → SInv P G N h0 φ0 T0 w0 ⟨st.r, putO s' o.dst x, st.T⟩ a' w' → next a' w' := by
    intro x a' w' hx hS'
    have hsz : i < listed.size := by rw [hJ.size]; exact hlt
    refine hn a' w' ⟨by simpa using hJ.size, hJ.lt, fun k hk => ?_, fun k hk q hqm => ?_, fun k hk hqk => ?_, hJ.ecl, fun k hk hk2 => ?_, hJ.once, putO s' o.dst x, fun t => ?_, hS'⟩
    · rcases (listed_set hsz k).1 hk with rfl | h
      · exact hi
      · exact hJ.sub k h
    · refine (listed_set hsz q).2 (.inr ?_)
      rcases (listed_set hsz k).1 hk with rfl | h
      · exact hpre q hqm
      · exact hJ.clo k h q hqm
    · exact (listed_set hsz k).2 (.inr (hJ.heavy k hk hqk))
    · refine hJ.pend k hk ?_
      cases hb : listed.getD k false
      · rfl
      · rw [(listed_set hsz k).2 (.inr hb)] at hk2; simp at hk2
    · by_cases ht : o.dst = some t
      · rw [ht]
        rw [hd] at ht
        injection ht with ht
        subst ht
        exact .inl (by rw [put_at]; exact hx)
      · rw [putO_off ht]
        rcases hs t with h | ⟨k, ok, h1, h2, h3, h4⟩
        · exact .inl h
        · refine .inr ⟨k, ok, h1, ?_, h3, h4⟩
          cases hb : (listed.setIfInBounds i true).getD k false
          · rfl
          · rcases (listed_set hsz k).1 hb with rfl | h
            · rw [ho] at h3; injection h3 with h3; subst h3; exact absurd h4 ht
            · rw [h2] at h; simp at h
  refine exec_op hc' hcomp hS ?_
  have hw : wants s' o.guard = wants st.s o.guard := wants_congr fun j b e => hrs j (by simp [rdO, e])
  simp only [chkW, and_true] at hck
  simp only [hw]
  cases hwv : wants st.s o.guard with
  | none => simp [hwv] at hck
  | some b =>
    rw [hwv] at hck
    cases b with
    | false =>
      simp only [hd, Option.map_some, Option.some.injEq] at hck
      exact fun a' w' hS' => fin _ a' w' hck.symm hS'
    | true =>
      simp only at hck ⊢
      rw [opW_congr (s' := st.s) fun t ht => hrs t (by simp only [rdO, List.mem_append]; exact .inl ht)]
      split at hck
      · rename_i x T' he
        simp only [hd, Option.map_some, Option.some.injEq] at hck
        have hT := hop_quiet hqh he
        subst hT
        exact opW_of_hop (st := ⟨st.r, st.s, st.T⟩) hqh he fun a' w' hS' => fin x a' w' hck.symm hS'
      · exact hck.elim

/-- One that makes memory is made. -/
theorem exec_h (hp : PlanOk p ops) (hh : ∀ (i : Nat) ho, p.hops[i]? = some ho → ∃ o, ops[i]? = some o ∧ compOper P N ops o = some ho) (hJ : Drawn P G N h0 φ0 T0 w0 p E st listed a w) {i : Nat} (hr : i ∈ Region.ready .any ops listed) (hi : i ∉ E) (hq : p.quiet i = false)
    {o : HOper} (ho : p.hops[i]? = some o) {K : AV → Tab → Prop}
    (hw : match wants st.s o.guard with
      | some true => opW P G st o.op fun x T => chkW G ⟨st.r, putO st.s o.dst x, T⟩ (if quietH o.op then [] else p.pend (i :: E)) ∧ K x T
      | some false => chkW G ⟨st.r, putO st.s o.dst (.v undef), st.T⟩ (if quietH o.op then [] else p.pend (i :: E)) ∧ K (.v undef) st.T
      | none => False) {next : Act → World → Prop}
    (hn : ∀ x T a' w', K x T → Drawn P G N h0 φ0 T0 w0 p (i :: E) ⟨st.r, putO st.s o.dst x, T⟩ (listed.setIfInBounds i true) a' w' → next a' w') : wpOp P ops Q i next a w := by
  obtain ⟨hul, hlt, ⟨c, hc⟩, hpre⟩ := ready_pre hp hJ hr
  obtain ⟨s', hs, hS⟩ := hJ.inv
  have hrs := reads_same hp hJ hr ho hs
  obtain ⟨c', hc', hcomp⟩ := hh i o ho
  have hsz : i < listed.size := by rw [hJ.size]; exact hlt
  have fin : ∀ x T a' w', chkW G ⟨st.r, putO st.s o.dst x, T⟩ (if quietH o.op then [] else p.pend (i :: E)) → (quietH o.op = true → T = st.T) → K x T →
      SInv P G N h0 φ0 T0 w0 ⟨st.r, putO s' o.dst x, T⟩ a' w' → next a' w' := by
    intro x T a' w' hck hqT hk hS'
    have hclo : ∀ k, (listed.setIfInBounds i true).getD k false = true → ∀ q ∈ p.p k, (listed.setIfInBounds i true).getD q false = true := fun k hk q hqm => by
      refine (listed_set hsz q).2 (.inr ?_)
      rcases (listed_set hsz k).1 hk with rfl | h
      · exact hpre q hqm
      · exact hJ.clo k h q hqm
    have hheavy : ∀ k ∈ i :: E, p.quiet k = false → (listed.setIfInBounds i true).getD k false = true := fun k hk hqk => by
      rcases List.mem_cons.1 hk with rfl | hk
      · exact (listed_set hsz k).2 (.inl rfl)
      · exact (listed_set hsz k).2 (.inr (hJ.heavy k hk hqk))
    refine hn x T a' w' hk ⟨by simpa using hJ.size, fun k hk => ?_, fun k hk => ?_, hclo, hheavy, fun k hk q hqm => ?_, fun k hk hk2 ok hok => ?_, once_putO hJ.once _ _, putO s' o.dst x, fun t => ?_, hS'⟩
    · rcases List.mem_cons.1 hk with rfl | hk
      · exact hlt
      · exact hJ.lt k hk
    · rcases (listed_set hsz k).1 hk with rfl | h
      · simp
      · exact List.mem_cons_of_mem _ (hJ.sub k h)
    · rcases List.mem_cons.1 hk with rfl | hk
      · exact List.mem_cons_of_mem _ (hJ.sub q (hpre q hqm))
      · exact List.mem_cons_of_mem _ (hJ.ecl k hk q hqm)
    · have hki : k ≠ i := fun e => by
        rw [(listed_set hsz k).2 (.inl e)] at hk2; simp at hk2
      have hkE : k ∈ E := by
        rcases List.mem_cons.1 hk with h | h
        · exact absurd h hki
        · exact h
      have hkl : listed.getD k false = false := by
        cases hb : listed.getD k false
        · rfl
        · rw [(listed_set hsz k).2 (.inr hb)] at hk2; simp at hk2
      have hqk : p.quiet k = true := by
        cases hb : p.quiet k
        · rw [hJ.heavy k hkE hb] at hkl; simp at hkl
        · rfl
      by_cases hqo : quietH o.op = true
      · have hT := hqT hqo
        subst hT
        rw [chkW_congr (s' := st.s) ?_ ?_]
        · exact hJ.pend k hkE hkl ok hok
        · intro t ht
          refine putO_off fun e => ?_
          rcases hp.rds i k o ok t ho hok e ht hq hqk with h1 | h1
          · exact hi (hJ.ecl k hkE i h1)
          · rw [hpre k h1] at hkl; simp at hkl
        · cases hdk : ok.dst with
          | none => rfl
          | some dk =>
            simp only [Option.map_some, Option.some.injEq]
            exact putO_off fun e => hki (hp.dst i k o ok dk ho hok e hdk)
      · rw [if_neg hqo] at hck
        refine (chkW_iff.1 hck) ok ?_
        simp only [Plan.pend, List.mem_filterMap, List.mem_filter, Bool.and_eq_true, Bool.not_eq_true', List.any_eq_false]
        refine ⟨k, ⟨hk, hqk, fun h hm hb => ?_⟩, hok⟩
        simp only [Bool.not_eq_true', Bool.and_eq_true, Bool.not_eq_eq_eq_not, Bool.not_true, List.contains_eq_mem, decide_eq_true_eq] at hb
        rw [hclo h (hheavy h hm hb.1) k hb.2] at hk2
        simp at hk2
    · by_cases ht : o.dst = some t
      · simp only [ht, put_at, true_or]
      · simp only [putO_off ht]
        rcases hs t with h | ⟨k, ok, h1, h2, h3, h4⟩
        · exact .inl h
        · refine .inr ⟨k, ok, by simp [h1], ?_, h3, h4⟩
          cases hb : (listed.setIfInBounds i true).getD k false
          · rfl
          · rcases (listed_set hsz k).1 hb with rfl | h
            · exact absurd h1 hi
            · rw [h2] at h; simp at h
  refine exec_op hc' hcomp hS ?_
  have hwe : wants s' o.guard = wants st.s o.guard := wants_congr fun j b e => hrs j (by simp [rdO, e])
  simp only [hwe]
  cases hwv : wants st.s o.guard with
  | none => simp [hwv] at hw
  | some b =>
    rw [hwv] at hw
    cases b with
    | false =>
      simp only at hw ⊢
      exact fun a' w' hS' => fin _ _ a' w' hw.1 (fun _ => rfl) hw.2 hS'
    | true =>
      simp only at hw ⊢
      rw [opW_congr (s' := st.s) fun t ht => hrs t (by simp only [rdO, List.mem_append]; exact .inl ht)]
      refine opW_mono (fun x T h a' w' hS' => ?_) (opW_quiet hw)
      exact fin x T a' w' h.1.1 h.2 h.1.2 hS'

/-- A row of alternatives. -/
theorem alts_get {gc : Bool} {n : Nat} {c : Bool} {G : Nat → Option (List AV)} {K : St → Prop} : ∀ {l : List Nat} {hd : HD}, l.foldr (fun i acc => match acc, p.hops[i]?, mkHD p n (gc || c) (i :: E) with
        | some t, some o, some x => some (.alt o (if quietH o.op then [] else p.pend (i :: E)) x t)
        | _, _, _ => none) (some .no) = some hd → hdW P G hd st K → ∀ i ∈ l, ∃ o x, p.hops[i]? = some o ∧ mkHD p n (gc || c) (i :: E) = some x ∧ (match wants st.s o.guard with
    | some true => opW P G st o.op fun y T => chkW G ⟨st.r, putO st.s o.dst y, T⟩ (if quietH o.op then [] else p.pend (i :: E)) ∧ hdW P G x ⟨st.r, putO st.s o.dst y, T⟩ K
    | some false => chkW G ⟨st.r, putO st.s o.dst (.v undef), st.T⟩ (if quietH o.op then [] else p.pend (i :: E)) ∧ hdW P G x ⟨st.r, putO st.s o.dst (.v undef), st.T⟩ K
    | none => False)
  | [], hd, _, _, i, hi => by simp at hi
  | j :: l, hd, he, hw, i, hi => by
    simp only [List.foldr_cons] at he
    split at he
    · rename_i t o x h1 h2 h3
      injection he with he
      subst he
      simp only [hdW] at hw
      rcases List.mem_cons.1 hi with rfl | hi
      · exact ⟨o, x, h2, h3, hw.1⟩
      · exact alts_get h1 hw.2 i hi
    · simp at he

theorem hd_sound (hr0 : T0.length ≤ 200) (hp : PlanOk p ops) (hh : ∀ (i : Nat) ho, p.hops[i]? = some ho → ∃ o, ops[i]? = some o ∧ compOper P N ops o = some ho) {K : St → Prop}
    (hn : ∀ st' a' w', K st' → SInv P G N h0 φ0 T0 w0 st' a' w' → Q .normal a' w') : ∀ (n : Nat) (gc : Bool) (E : List Nat) (hd : HD) (st : St), mkHD p n gc E = some hd → hdW P G hd st K →
    ∀ (fuel : Nat) (listed : Array Bool) (a : Act) (w : World), Drawn P G N h0 φ0 T0 w0 p E st listed a w → unl listed p.hops.length ≤ fuel → wpAny P .any ops Q fuel listed a w
  | 0, gc, E, hd, st, hm, _ => by simp [mkHD] at hm
  | n + 1, gc, E, hd, st, hm, hw => by
    intro fuel listed a w hJ hf
    simp only [mkHD] at hm
    split at hm
    · -- evaluated in any case
      rename_i i hfi
      have hri := List.mem_of_find?_eq_some hfi
      have hqi := List.find?_some hfi
      split at hm
      · rename_i o ho
        cases hx : mkHD p n gc (i :: E) with
        | none => simp [hx] at hm
        | some hd' =>
          simp only [hx, Option.map_some, Option.some.injEq] at hm
          subst hm
          simp only [hdW] at hw
          split at hw
          · rename_i hwt
            split at hw
            · rename_i x T' he
              exact hd_sound hr0 hp hh hn n gc (i :: E) hd' _ hx hw fuel listed a w (drawn_q hp hJ hri hqi ho (.inl ⟨hwt, T', he⟩)) hf
            · exact hw.elim
          · rename_i hwt
            exact hd_sound hr0 hp hh hn n gc (i :: E) hd' _ hx hw fuel listed a w (drawn_q hp hJ hri hqi ho (.inr ⟨hwt, rfl⟩)) hf
          · exact hw.elim
      · simp at hm
    · rename_i hnone
      have hnq : ∀ i ∈ p.ready E, p.quiet i = false := fun i hi => by
        have := List.find?_eq_none.1 hnone i hi
        simpa using this
      -- an operation is made
      have step : ∀ (fuel : Nat), (∀ (listed : Array Bool) (a : Act) (w : World), Drawn P G N h0 φ0 T0 w0 p E st listed a w → unl listed p.hops.length ≤ fuel → wpAny P .any ops Q fuel listed a w) →
          ∀ (listed : Array Bool) (a : Act) (w : World), Drawn P G N h0 φ0 T0 w0 p E st listed a w → unl listed p.hops.length ≤ fuel + 1 → ∀ i ∈ Region.ready .any ops listed, wpOp P ops Q i (wpAny P .any ops Q fuel (listed.setIfInBounds i true)) a w := by
        intro fuel ih listed a w hJ hf i hi
        obtain ⟨hul, hlt, _, hpre⟩ := ready_pre hp hJ hi
        have hf' : unl (listed.setIfInBounds i true) p.hops.length ≤ fuel := by
          have := unl_set (by rw [hJ.size]; exact hlt) hul hlt
          omega
        by_cases hiE : i ∈ E
        · exact exec_q hp hh hJ hi hiE fun a' w' hJ' => ih _ a' w' hJ' hf'
        · have hri : i ∈ p.ready E := by
            simp only [Plan.ready, List.mem_filter, List.mem_range, Bool.and_eq_true, Bool.not_eq_true', List.contains_eq_mem, decide_eq_false_iff_not, List.all_eq_true, decide_eq_true_eq]
            exact ⟨hlt, hiE, fun q hq => hJ.sub q (hpre q hq)⟩
          split at hm
          · rename_i he; rw [he] at hri; simp at hri
          · rename_i c cs he
            rw [he] at hri
            obtain ⟨o, x, h1, h2, h3⟩ := alts_get hm hw i hri
            exact exec_h hp hh hJ hi hiE (hnq i (by rw [he]; exact hri)) h1 h3 fun y T a' w' hk hJ' => hd_sound hr0 hp hh hn n _ (i :: E) x _ h2 hk fuel _ a' w' hJ' hf'
      -- all is made
      have fin : ∀ (listed : Array Bool) (a : Act) (w : World), Drawn P G N h0 φ0 T0 w0 p E st listed a w → (∀ i, i < p.hops.length → listed.getD i false = true) → Q .normal a w := by
        intro listed a w hJ hall
        split at hm
        · injection hm with hm
          subst hm
          simp only [hdW] at hw
          obtain ⟨s', hs, hS⟩ := hJ.inv
          have hS' : SInv P G N h0 φ0 T0 w0 st a w := by
            obtain ⟨hr, _, ⟨h, φ, hG, hE, hI, hSl⟩, hsz, hdf⟩ := hS
            refine ⟨hr, hJ.once, ⟨h, φ, hG, hE, hI, fun t => ?_⟩, hsz, hdf⟩
            have h1 := hSl t
            rcases hs t with h2 | ⟨k, ok, h2, h3, _⟩
            · simp only at h1; rw [h2] at h1; exact h1
            · rw [hall k (hJ.lt k h2)] at h3; simp at h3
          refine hn _ a w hw ?_
          split
          · exact gcs_ok (by have := hS'.r; omega) _ hS'
          · exact hS'
        · rename_i c cs he
          have hc : c ∈ p.ready E := by rw [he]; simp
          simp only [Plan.ready, List.mem_filter, List.mem_range, Bool.and_eq_true, Bool.not_eq_true', List.contains_eq_mem, decide_eq_false_iff_not] at hc
          exact absurd (hJ.sub c (hall c hc.1)) hc.2.1
      refine (?_ : ∀ (fuel : Nat) (listed : Array Bool) (a : Act) (w : World), Drawn P G N h0 φ0 T0 w0 p E st listed a w → unl listed p.hops.length ≤ fuel → wpAny P .any ops Q fuel listed a w) fuel listed a w hJ hf
      clear hf hJ listed a w fuel
      intro fuel listed a w
      induction fuel generalizing listed a w with
      | zero =>
        intro hJ hf
        have hall := unl_zero (Nat.le_zero.1 hf)
        refine ⟨?_, fin listed a w hJ hall⟩
        cases hr : Region.ready .any ops listed with
        | nil => rfl
        | cons i l =>
          obtain ⟨hul, hlt, _, _⟩ := ready_pre hp hJ (i := i) (by rw [hr]; simp)
          rw [hall i hlt] at hul
          simp at hul
      | succ fuel ih =>
        intro hJ hf
        exact ⟨fun hr => fin listed a w hJ (ready_nil hp hJ.size hr), step fuel (fun l a w => ih l a w) listed a w hJ hf⟩

theorem draw_sound {hd : HD} {K : St → Prop} (hc : compDraw P N ops = some hd) (hr0 : T0.length ≤ 200) (hw : hdW P G hd st K) (hS : SInv P G N h0 φ0 T0 w0 st a w)
    (hn : ∀ st' a' w', K st' → SInv P G N h0 φ0 T0 w0 st' a' w' → Q .normal a' w') : wpAny P .any ops Q ops.size (Array.replicate ops.size false) a w := by
  unfold compDraw at hc
  split at hc
  · simp at hc
  · rename_i hl hcl
    simp only at hc
    split at hc
    · rename_i hok
      simp only [Bool.and_eq_true, beq_iff_eq] at hok
      obtain ⟨hlen, hget⟩ := compOps_get hcl
      have hp := plan_ok hok.2 hok.1
      have hf : ∀ i, (Array.replicate ops.size false).getD i false = false := fun i => by simp [Array.getD_eq_getD_getElem?, Array.getElem?_replicate]; split <;> rfl
      refine hd_sound hr0 hp (fun i ho hi => ?_) hn _ _ [] hd st hc hw _ _ a w ⟨by simpa using hok.2.symm, by simp, fun i h => by rw [hf] at h; simp at h, fun i h => by rw [hf] at h; simp at h, by simp, by simp, by simp, hS.once, st.s, fun t => .inl rfl, hS⟩ ?_
      · obtain ⟨o, h1, h2⟩ := hget i ho hi
        exact ⟨o, by simpa using h1, h2⟩
      · have : ∀ m, unl (Array.replicate ops.size false) m = m := fun m => by
          induction m with
          | zero => rfl
          | succ m ih => simp only [unl, ih, hf]; simp
        rw [this]
        exact Nat.le_of_eq hok.2
    · simp at hc
end

theorem SInv.drawn {P : Program} {G : Nat → Option (List AV)} {N : Nat} {h0 : GH} {φ0 : Nat → Value} {T0 : Tab} {w0 : World} {st : St} {a : Act} {w : World} (hS : SInv P G N h0 φ0 T0 w0 st a w) :
    SInv P G N h0 φ0 T0 w0 st a { w with drawn := w.drawn + 1 } := by
  obtain ⟨hr, honce, ⟨h, φ, hG, hE, hI, hSl⟩, hsz, hdf⟩ := hS
  exact ⟨hr, honce, ⟨h, φ, hG, ⟨hE.os, hE.tape, hE.output, hE.size, hE.frame, hE.le, hE.gfr, hE.phi, hE.org, hE.len, Nat.le_trans hE.drawn (Nat.le_succ _)⟩, ⟨hI.gh, hI.obj, hI.dis⟩, hSl⟩, hsz, hdf⟩
end Hud
