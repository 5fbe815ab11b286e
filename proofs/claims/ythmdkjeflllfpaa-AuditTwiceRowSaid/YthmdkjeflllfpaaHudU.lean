/- A region whose order is drawn. -/
import Derived.Test.YthmdkjeflllfpaaHudR
set_option linter.all false
namespace Hud
open Go

def opndT : Operand → List Nat
  | .tmp t => [t]
  | _ => []
/-- The slots that an operation reads. -/
def rdH : HOp → List Nat
  | .mov x => opndT x
  | .pick c a b => opndT c ++ opndT a ++ opndT b
  | .bin _ x y => opndT x ++ opndT y
  | .eqa _ _ x y => opndT x ++ opndT y
  | .eqb _ x y => opndT x ++ opndT y
  | .un _ x => opndT x
  | .conv _ x => opndT x
  | .box x => opndT x
  | .alloc _ => []
  | .bld _ ps => ps.flatMap fun p => opndT p.2.2
  | .bsl _ _ ps _ => ps.flatMap fun p => opndT p.2.2
  | .ld _ p => opndT p
  | .st _ p x => opndT p ++ opndT x
  | .fad p _ => opndT p
  | .fld x _ _ => opndT x
  | .iad x i _ => opndT x ++ opndT i
  | .iadA x i _ _ => opndT x ++ opndT i
  | .ixS x i => opndT x ++ opndT i
  | .lenS x => opndT x
  | .lenL x => opndT x
  | .app x y _ _ => opndT x ++ opndT y
  | .ext x _ => opndT x
  | .clo _ cs => cs.flatMap opndT
  | .call f as => opndT f ++ as.flatMap opndT
  | .nilc x => opndT x
  | .slc x lo hi _ => opndT x ++ (match lo with | some o => opndT o | none => []) ++ (match hi with | some o => opndT o | none => [])
  | .slcS x lo hi => opndT x ++ (match lo with | some o => opndT o | none => []) ++ (match hi with | some o => opndT o | none => [])
  | .nilS _ _ x => opndT x
  | .mm _ x y => opndT x ++ opndT y
  | .mkm _ => []
  | .lku _ _ _ m k _ => opndT m ++ opndT k
  | .mup _ _ m k x => opndT m ++ opndT k ++ opndT x
  | .men _ _ _ m k => opndT m ++ opndT k
  | .mst m s x => opndT m ++ opndT s ++ opndT x
  | .del _ _ m k => opndT m ++ opndT k
  | .lenM m => opndT m
def rdO (o : HOper) : List Nat := rdH o.op ++ (match o.guard with | some (j, _) => [j] | none => [])

/-- Leaves memory as it is. -/
def quietH : HOp → Bool
  | .box _ => false
  | .alloc _ => false
  | .bsl _ _ _ _ => false
  | .st _ _ _ => false
  | .app _ _ _ _ => false
  | .call _ _ => false
  | .mkm _ => false
  | .mup _ _ _ _ _ => false
  | .men _ _ _ _ _ => false
  | .mst _ _ _ => false
  | .del _ _ _ _ => false
  | _ => true

theorem hop_quiet {T : Tab} {ev : Operand → AV} {o : HOp} (hq : quietH o = true) {x : AV} {T' : Tab} (h : hop T ev o = some (x, T')) : T' = T := by
  cases o <;> simp only [quietH, Bool.false_eq_true, reduceCtorEq] at hq <;> simp only [hop] at h <;> (repeat' split at h) <;>
    first
    | (simp only [Option.some.injEq, Prod.mk.injEq] at h; exact h.2.symm)
    | (simp at h; done)

theorem ev_congr {G : Nat → Option (List AV)} {s s' : List (Nat × AV)} {x : Operand} (h : ∀ t ∈ opndT x, getS s t = getS s' t) : evO G s x = evO G s' x := by
  cases x <;> simp only [evO]
  exact h _ (by simp [opndT])

theorem hop_congr {T : Tab} {ev ev' : Operand → AV} {o : HOp} (h : ∀ x, (∀ t ∈ opndT x, t ∈ rdH o) → ev x = ev' x) : hop T ev o = hop T ev' o := by
  have hps : ∀ (ps : List (Nat × Nat × Operand)), (∀ t ∈ ps.flatMap (fun p => opndT p.2.2), t ∈ rdH o) → (ps.map fun p => (p.1, p.2.1, ev p.2.2)) = ps.map fun p => (p.1, p.2.1, ev' p.2.2) := by
    intro ps hp
    refine List.map_congr_left fun p hm => ?_
    rw [h p.2.2 fun t ht => hp t (List.mem_flatMap.2 ⟨p, hm, ht⟩)]
  cases o
  case bld z ps => simp only [hop]; rw [hps ps fun t ht => ht]
  case bsl k z ps n => simp only [hop]; rw [hps ps fun t ht => ht]
  case clo f cs => simp only [hop]; rw [List.map_congr_left fun c hc => h c fun t ht => List.mem_flatMap.2 ⟨c, hc, ht⟩]
  case alloc => rfl
  case mkm => rfl
  case lku ag ls z m k ok => simp only [hop]; rw [h m (by simp_all [rdH]), h k (by simp_all [rdH])]
  case mup ag ls m k x => simp only [hop]; rw [h m (by simp_all [rdH]), h k (by simp_all [rdH]), h x (by simp_all [rdH])]
  case men ag ls z m k => simp only [hop]; rw [h m (by simp_all [rdH]), h k (by simp_all [rdH])]
  case mst m k x => simp only [hop]; rw [h m (by simp_all [rdH]), h k (by simp_all [rdH]), h x (by simp_all [rdH])]
  case del ag ls m k => simp only [hop]; rw [h m (by simp_all [rdH]), h k (by simp_all [rdH])]
  case lenM m => simp only [hop]; rw [h m (by simp_all [rdH])]
  case call => rfl
  case pick c a b => simp only [hop]; rw [h c (by simp_all [rdH]), h a (by simp_all [rdH]), h b (by simp_all [rdH])]
  case mov x => simp only [hop]; rw [h x (by simp_all [rdH])]
  case un u x => simp only [hop]; rw [h x (by simp_all [rdH])]
  case conv k x => simp only [hop]; rw [h x (by simp_all [rdH])]
  case box x => simp only [hop]; rw [h x (by simp_all [rdH])]
  case ld n x => simp only [hop]; rw [h x (by simp_all [rdH])]
  case fad x n => simp only [hop]; rw [h x (by simp_all [rdH])]
  case fld x n k => simp only [hop]; rw [h x (by simp_all [rdH])]
  case lenS x => simp only [hop]; rw [h x (by simp_all [rdH])]
  case lenL x => simp only [hop]; rw [h x (by simp_all [rdH])]
  case ext x i => simp only [hop]; rw [h x (by simp_all [rdH])]
  case nilc x => simp only [hop]; rw [h x (by simp_all [rdH])]
  case nilS n kd x => simp only [hop]; rw [h x (by simp_all [rdH])]
  case mm n x y => simp only [hop]; rw [h x (by simp_all [rdH]), h y (by simp_all [rdH])]
  case slc x lo hi k =>
    simp only [hop]
    rw [h x (by simp_all [rdH])]
    cases lo <;> cases hi <;> simp only <;> (try rw [h _ (by simp_all [rdH])]) <;> (try rw [h _ (by simp_all [rdH])])
  case slcS x lo hi =>
    simp only [hop]
    rw [h x (by simp_all [rdH])]
    cases lo <;> cases hi <;> simp only <;> (try rw [h _ (by simp_all [rdH])]) <;> (try rw [h _ (by simp_all [rdH])])
  case bin op x y => simp only [hop]; rw [h x (by simp_all [rdH]), h y (by simp_all [rdH])]
  case eqa n ks x y => simp only [hop]; rw [h x (by simp_all [rdH]), h y (by simp_all [rdH])]
  case eqb n x y => simp only [hop]; rw [h x (by simp_all [rdH]), h y (by simp_all [rdH])]
  case st n x y => simp only [hop]; rw [h x (by simp_all [rdH]), h y (by simp_all [rdH])]
  case iad x y k => simp only [hop]; rw [h x (by simp_all [rdH]), h y (by simp_all [rdH])]
  case iadA x y n k => simp only [hop]; rw [h x (by simp_all [rdH]), h y (by simp_all [rdH])]
  case ixS x y => simp only [hop]; rw [h x (by simp_all [rdH]), h y (by simp_all [rdH])]
  case app x y k b => simp only [hop]; rw [h x (by simp_all [rdH]), h y (by simp_all [rdH])]

theorem opW_congr {P : Program} {G : Nat → Option (List AV)} {r : Nat} {s s' : List (Nat × AV)} {T : Tab} {o : HOp} {K : AV → Tab → Prop} (h : ∀ t ∈ rdH o, getS s t = getS s' t) :
    opW P G ⟨r, s, T⟩ o K = opW P G ⟨r, s', T⟩ o K := by
  have hev : ∀ x, (∀ t ∈ opndT x, t ∈ rdH o) → evO G s x = evO G s' x := fun x hx => ev_congr fun t ht => h t (hx t ht)
  cases o
  case call f as =>
    simp only [opW]
    rw [hev f (by simp_all [rdH]), List.map_congr_left fun c hc => hev c fun t ht => by simp only [rdH, List.mem_append, List.mem_flatMap]; exact .inr ⟨c, hc, ht⟩]
  all_goals simp only [opW]; rw [hop_congr hev]

theorem wants_congr {s s' : List (Nat × AV)} {g : Option (Nat × Bool)} (h : ∀ j b, g = some (j, b) → getS s j = getS s' j) : wants s g = wants s' g := by
  cases g with
  | none => rfl
  | some p => obtain ⟨j, b⟩ := p; simp only [wants]; rw [h j b rfl]

-- the plan
def aft (o : Oper) : List Nat := (o.after.toList.filter (Region.binds .any)).map (·.on)
def preOf (done : List (List Nat)) (o : Oper) : List Nat := ((aft o).flatMap fun e => e :: done.getD e []).eraseDups
def preAll : List Oper → List (List Nat) → List (List Nat)
  | [], d => d
  | o :: os, d => preAll os (d ++ [preOf d o])

structure Plan where
  hops : List HOper
  pre : List (List Nat)
def Plan.p (p : Plan) (i : Nat) : List Nat := p.pre.getD i []
/-- May be made as early as it can: it leaves memory as it is, and who reads what it makes waits for it. -/
def Plan.quiet (p : Plan) (i : Nat) : Bool :=
  match p.hops[i]? with
  | none => false
  | some o => quietH o.op && (match o.dst with
    | none => false
    | some d => (List.range p.hops.length).all fun r => match p.hops[r]? with
      | none => true
      | some o' => !(rdO o').contains d || (p.p r).contains i)
def Plan.ready (p : Plan) (E : List Nat) : List Nat := (List.range p.hops.length).filter fun i => !E.contains i && (p.p i).all E.contains
def Plan.pend (p : Plan) (E : List Nat) : List HOper :=
  (E.filter fun q => p.quiet q && !(E.any fun h => !p.quiet h && (p.p h).contains q)).filterMap fun q => p.hops[q]?
/-- What the plan leans on. -/
def Plan.ok (p : Plan) (ops : List Oper) : Bool :=
  (List.range p.hops.length).all fun i => match p.hops[i]?, ops[i]? with
    | some o, some c =>
      (aft c).all (fun e => e < i && (p.p i).contains e) &&
      (p.p i).all (fun q => (aft c).any fun e => q == e || (p.p e).contains q) &&
      (match o.dst with
      | none => true
      | some d => (List.range p.hops.length).all fun j => match p.hops[j]? with
        | none => true
        | some o' => (j == i || !(o'.dst == some d)) && (p.quiet i || !p.quiet j || !(rdO o').contains d || (p.p j).contains i || (p.p i).contains j))
    | _, _ => false

def mkHD (p : Plan) : Nat → Bool → List Nat → Option HD
  | 0, _, _ => none
  | n + 1, gc, E => match (p.ready E).find? p.quiet with
    | some i => match p.hops[i]? with
      | some o => (mkHD p n gc (i :: E)).map (.q o)
      | none => none
    | none => match p.ready E with
      | [] => some (.done gc)
      | c :: cs => (c :: cs).foldr (fun i acc => match acc, p.hops[i]?, mkHD p n (gc || !cs.isEmpty) (i :: E) with
        | some t, some o, some x => some (.alt o (if quietH o.op then [] else p.pend (i :: E)) x t)
        | _, _, _ => none) (some .no)

def compDraw (P : Program) (N : Nat) (ops : Array Oper) : Option HD :=
  match compOps P N ops ops.toList with
  | none => none
  | some hl => let p : Plan := ⟨hl, preAll ops.toList []⟩
    if p.ok ops.toList && (p.hops.length == ops.size) then mkHD p (ops.size + 1) false [] else none

-- what the plan means
structure PlanOk (p : Plan) (ops : Array Oper) : Prop where
  len : p.hops.length = ops.size
  aft : ∀ i c, ops[i]? = some c → ∀ e ∈ c.after, Region.binds .any e = true → e.on < i ∧ e.on ∈ p.p i
  pre : ∀ i c, ops[i]? = some c → ∀ q ∈ p.p i, ∃ e ∈ c.after, Region.binds .any e = true ∧ (q = e.on ∨ q ∈ p.p e.on)
  dst : ∀ (i j : Nat) (o o' : HOper) (d : Nat), p.hops[i]? = some o → p.hops[j]? = some o' → o.dst = some d → o'.dst = some d → j = i
  rds : ∀ (i j : Nat) (o o' : HOper) (d : Nat), p.hops[i]? = some o → p.hops[j]? = some o' → o.dst = some d → d ∈ rdO o' → p.quiet i = false → p.quiet j = true → i ∈ p.p j ∨ j ∈ p.p i

theorem quiet_spec {p : Plan} {i : Nat} (h : p.quiet i = true) :
    ∃ o d, p.hops[i]? = some o ∧ quietH o.op = true ∧ o.dst = some d ∧ ∀ r o', p.hops[r]? = some o' → d ∈ rdO o' → i ∈ p.p r := by
  unfold Plan.quiet at h
  split at h
  · simp at h
  · rename_i o ho
    simp only [Bool.and_eq_true] at h
    obtain ⟨h1, h2⟩ := h
    split at h2
    · simp at h2
    · rename_i d hd
      refine ⟨o, d, ho, h1, hd, fun r o' hr hm => ?_⟩
      simp only [List.all_eq_true, List.mem_range] at h2
      have := h2 r (List.getElem?_eq_some_iff.1 hr).1
      rw [hr] at this
      simpa [hm] using this

theorem mem_aft {o : Oper} {x : Nat} : x ∈ Hud.aft o ↔ ∃ e ∈ o.after, Region.binds .any e = true ∧ e.on = x := by
  simp only [Hud.aft, List.mem_map, List.mem_filter, Array.mem_toList_iff]
  constructor
  · rintro ⟨e, ⟨h1, h2⟩, h3⟩; exact ⟨e, h1, h2, h3⟩
  · rintro ⟨e, h1, h2, h3⟩; exact ⟨e, ⟨h1, h2⟩, h3⟩

theorem plan_ok {p : Plan} {ops : Array Oper} (hl : p.hops.length = ops.size) (h : p.ok ops.toList = true) : PlanOk p ops := by
  have key : ∀ i o c, p.hops[i]? = some o → ops[i]? = some c → _ := fun i o c hi hc => by
    have h1 := h
    simp only [Plan.ok, List.all_eq_true, List.mem_range] at h1
    have h2 := h1 i (List.getElem?_eq_some_iff.1 hi).1
    rw [hi, show ops.toList[i]? = some c from by simpa using hc] at h2
    simp only [Bool.and_eq_true] at h2
    exact h2
  have hop : ∀ i c, ops[i]? = some c → ∃ o, p.hops[i]? = some o := fun i c hc => by
    have := (Array.getElem?_eq_some_iff.1 hc).1
    exact ⟨_, List.getElem?_eq_getElem (by omega)⟩
  have opp : ∀ (i : Nat) (o : HOper), p.hops[i]? = some o → ∃ c, ops[i]? = some c := fun i o hc => by
    have := (List.getElem?_eq_some_iff.1 hc).1
    exact ⟨_, Array.getElem?_eq_getElem (by omega)⟩
  refine ⟨hl, fun i c hc e he hb => ?_, fun i c hc q hq => ?_, fun i j o o' d hi hj hd hd' => ?_, fun i j o o' d hi hj hd hr hqi hqj => ?_⟩
  · obtain ⟨o, ho⟩ := hop i c hc
    have h1 := (key i o c ho hc).1.1
    simp only [List.all_eq_true] at h1
    have := h1 e.on (mem_aft.2 ⟨e, he, hb, rfl⟩)
    simp only [Bool.and_eq_true, decide_eq_true_eq] at this
    exact ⟨this.1, by simpa using this.2⟩
  · obtain ⟨o, ho⟩ := hop i c hc
    have h1 := (key i o c ho hc).1.2
    simp only [List.all_eq_true] at h1
    have := h1 q hq
    simp only [List.any_eq_true] at this
    obtain ⟨e, he, h2⟩ := this
    obtain ⟨e', he', hb, rfl⟩ := mem_aft.1 he
    refine ⟨e', he', hb, ?_⟩
    simpa using h2
  · obtain ⟨c, hc⟩ := opp i o hi
    have h1 := (key i o c hi hc).2
    rw [hd] at h1
    simp only [List.all_eq_true, List.mem_range] at h1
    have h2 := h1 j (List.getElem?_eq_some_iff.1 hj).1
    rw [hj] at h2
    simp only [hd', Bool.and_eq_true, Bool.or_eq_true, beq_self_eq_true, Bool.not_true, Bool.false_eq_true, or_false, beq_iff_eq] at h2
    exact h2.1
  · obtain ⟨c, hc⟩ := opp i o hi
    have h1 := (key i o c hi hc).2
    rw [hd] at h1
    simp only [List.all_eq_true, List.mem_range] at h1
    have h2 := h1 j (List.getElem?_eq_some_iff.1 hj).1
    rw [hj] at h2
    simp only [hqi, hqj, Bool.and_eq_true, Bool.or_eq_true, Bool.false_eq_true, Bool.not_true, false_or, Bool.not_eq_true', List.contains_eq_mem, decide_eq_true_eq, decide_eq_false_iff_not, hr, not_true_eq_false] at h2
    exact h2.2

theorem pre_lt {p : Plan} {ops : Array Oper} (hp : PlanOk p ops) : ∀ (i : Nat) c, ops[i]? = some c → ∀ q ∈ p.p i, q < i := by
  intro i
  induction i using Nat.strongRecOn with
  | _ i ih =>
    intro c hc q hq
    obtain ⟨e, he, hb, h⟩ := hp.pre i c hc q hq
    have h1 := (hp.aft i c hc e he hb).1
    rcases h with rfl | h
    · exact h1
    · have hlt : e.on < ops.size := by have := (Array.getElem?_eq_some_iff.1 hc).1; omega
      have := ih e.on h1 _ (Array.getElem?_eq_getElem hlt) q h
      omega

theorem chkW_iff {G : Nat → Option (List AV)} {st : St} {l : List HOper} : chkW G st l ↔ ∀ o ∈ l, chkW G st [o] := by
  induction l with
  | nil => simp [chkW]
  | cons o l ih =>
    simp only [List.mem_cons, forall_eq_or_imp]
    rw [← ih]
    simp [chkW]

theorem chkW_congr {G : Nat → Option (List AV)} {r : Nat} {s s' : List (Nat × AV)} {T : Tab} {o : HOper} (h : ∀ t ∈ rdO o, getS s t = getS s' t) (hd : o.dst.map (getS s) = o.dst.map (getS s')) :
    chkW G ⟨r, s, T⟩ [o] = chkW G ⟨r, s', T⟩ [o] := by
  have hw : wants s o.guard = wants s' o.guard := wants_congr fun j b e => h j (by simp [rdO, e])
  have hh : hop T (evO G s) o.op = hop T (evO G s') o.op := hop_congr fun x hx => ev_congr fun t ht => h t (by simp only [rdO, List.mem_append]; exact .inl (hx t ht))
  simp only [chkW, hw, hh, hd]

theorem opW_quiet {P : Program} {G : Nat → Option (List AV)} {st : St} {o : HOp} {K : AV → Tab → Prop} (h : opW P G st o K) : opW P G st o fun x T => K x T ∧ (quietH o = true → T = st.T) := by
  cases o
  case call f as =>
    have : (fun x T => K x T ∧ (quietH (HOp.call f as) = true → T = st.T)) = K := by
      funext x T; simp [quietH]
    rw [this]; exact h
  all_goals
    simp only [opW] at h ⊢
    split at h
    · rename_i x T he
      exact ⟨h, fun hq => hop_quiet hq he⟩
    · exact h.elim

def unl (listed : Array Bool) : Nat → Nat
  | 0 => 0
  | m + 1 => unl listed m + if listed.getD m false then 0 else 1
theorem unl_zero {listed : Array Bool} : ∀ {m : Nat}, unl listed m = 0 → ∀ i, i < m → listed.getD i false = true
  | 0, _, i, hi => by omega
  | m + 1, h, i, hi => by
    simp only [unl] at h
    split at h
    · rename_i hm
      rcases Nat.lt_or_ge i m with h1 | h1
      · exact unl_zero (by omega) i h1
      · have : i = m := by omega
        subst this; exact hm
    · omega
theorem unl_all {listed : Array Bool} : ∀ {m : Nat}, (∀ i, i < m → listed.getD i false = true) → unl listed m = 0
  | 0, _ => rfl
  | m + 1, h => by simp only [unl]; rw [unl_all fun i hi => h i (by omega), if_pos (h m (by omega))]
theorem unl_ge {listed : Array Bool} {i : Nat} : ∀ {m : Nat}, m ≤ i → unl (listed.setIfInBounds i true) m = unl listed m
  | 0, _ => rfl
  | m + 1, h => by
    simp only [unl]
    rw [unl_ge (by omega), getD_set_ne false (by omega)]
theorem unl_set {listed : Array Bool} {i : Nat} (hs : i < listed.size) (hu : listed.getD i false = false) : ∀ {m : Nat}, i < m → unl (listed.setIfInBounds i true) m + 1 = unl listed m
  | 0, h => by omega
  | m + 1, h => by
    simp only [unl]
    rcases Nat.lt_or_ge i m with h1 | h1
    · have := unl_set hs hu h1
      rw [getD_set_ne false (by omega)]
      omega
    · have : i = m := by omega
      subst this
      have h2 : (listed.setIfInBounds i true).getD i false = true := by simp [Array.getD_eq_getD_getElem?, hs]
      rw [unl_ge (Nat.le_refl _), h2, hu]
      simp

theorem compOps_get {P : Program} {N : Nat} {ops : Array Oper} : ∀ {l : List Oper} {hl : List HOper}, compOps P N ops l = some hl → hl.length = l.length ∧ ∀ (i : Nat) ho, hl[i]? = some ho → ∃ o, l[i]? = some o ∧ compOper P N ops o = some ho
  | [], hl, h => by simp only [compOps, Option.some.injEq] at h; subst h; simp
  | o :: l, hl, h => by
    simp only [compOps] at h
    split at h
    · rename_i ho hl' h1 h2
      injection h with h
      subst h
      obtain ⟨h3, h4⟩ := compOps_get h2
      refine ⟨by simp [h3], fun i ho' hi => ?_⟩
      cases i with
      | zero => simp only [List.getElem?_cons_zero, Option.some.injEq] at hi; subst hi; exact ⟨o, rfl, h1⟩
      | succ i => simpa using h4 i ho' (by simpa using hi)
    · simp at h

section
variable {P : Program} {G : Nat → Option (List AV)} {N : Nat} {h0 : GH} {φ0 : Nat → Value} {T0 : Tab} {w0 : World}

/-- One operation. -/
theorem exec_op {ops : Array Oper} {Q : Exit → Act → World → Prop} {i : Nat} {o : Oper} {ho : HOper} {st : St} {a : Act} {w : World} {next : Act → World → Prop} (hi : ops[i]? = some o) (hc : compOper P N ops o = some ho)
    (hS : SInv P G N h0 φ0 T0 w0 st a w) (hw : match wants st.s ho.guard with
      | some true => opW P G st ho.op fun x T => ∀ a' w', SInv P G N h0 φ0 T0 w0 ⟨st.r, putO st.s ho.dst x, T⟩ a' w' → next a' w'
      | some false => ∀ a' w', SInv P G N h0 φ0 T0 w0 ⟨st.r, putO st.s ho.dst (.v undef), st.T⟩ a' w' → next a' w'
      | none => False) : wpOp P ops Q i next a w := by
  obtain ⟨hr, honce, ⟨h, φ, hG, hE, hI, hSl⟩, hsz, hdf⟩ := hS
  obtain ⟨c1, c2, c3, c4⟩ := compOper_some hc
  have hdst : ∀ j, o.dst = some j → j < a.tmps.size := fun j hj => Nat.lt_of_lt_of_le (c1 j hj) hsz
  have hput : ∀ v, N ≤ (a.put o.dst v).tmps.size ∧ (a.put o.dst v).defers = [] := by
    intro v
    cases o.dst with
    | none => exact ⟨hsz, hdf⟩
    | some j => exact ⟨by simpa [Act.put] using hsz, hdf⟩
  unfold wpOp
  simp only [hi]
  rw [c2] at hw
  split at hw
  · rename_i hwt
    have hwant := wants_ok hSl c4 hwt
    rw [if_pos hwant]
    refine .inl (op_sound c3 hw hG hI hSl fun v w' hret => ?_)
    obtain ⟨x, T', h', φ', hk, hE', hI', hx⟩ := hret
    have hSl' : SOk h' φ' T'.length st.s a := fun i => (hSl i).mono hE'.le hE'.len hE'.phi
    exact hk _ _ ⟨hr, once_putO honce _ _, ⟨h', φ', hG.mono hE'.le, hE.trans hE', hI', sok_put hSl' hx hdst⟩, (hput v).1, (hput v).2⟩
  · rename_i hwt
    have hwant := wants_ok hSl c4 hwt
    rw [if_neg (by simp [hwant])]
    exact hw _ _ ⟨hr, once_putO honce _ _, ⟨h, φ, hG, hE, hI, sok_put hSl (by simp [Rp]) hdst⟩, (hput _).1, (hput _).2⟩
  · exact hw.elim

/-- Some are evaluated (E), some of them are made. -/
structure Drawn (P : Program) (G : Nat → Option (List AV)) (N : Nat) (h0 : GH) (φ0 : Nat → Value) (T0 : Tab) (w0 : World) (p : Plan) (E : List Nat) (st : St) (listed : Array Bool) (a : Act) (w : World) : Prop where
  size : listed.size = p.hops.length
  lt : ∀ i ∈ E, i < p.hops.length
  sub : ∀ i, listed.getD i false = true → i ∈ E
  clo : ∀ i, listed.getD i false = true → ∀ q ∈ p.p i, listed.getD q false = true
  heavy : ∀ i ∈ E, p.quiet i = false → listed.getD i false = true
  ecl : ∀ i ∈ E, ∀ q ∈ p.p i, q ∈ E
  pend : ∀ i ∈ E, listed.getD i false = false → ∀ o, p.hops[i]? = some o → chkW G st [o]
  once : Once st.s
  inv : ∃ s', (∀ t, getS s' t = getS st.s t ∨ ∃ i o, i ∈ E ∧ listed.getD i false = false ∧ p.hops[i]? = some o ∧ o.dst = some t) ∧ SInv P G N h0 φ0 T0 w0 ⟨st.r, s', st.T⟩ a w

variable {p : Plan} {ops : Array Oper} {E : List Nat} {st : St} {listed : Array Bool} {a : Act} {w : World}

theorem getD_tf {listed : Array Bool} {i : Nat} : (i < listed.size ∧ listed.getD i true = false) ↔ (i < listed.size ∧ listed.getD i false = false) := by
  constructor <;> rintro ⟨h, h1⟩ <;> exact ⟨h, by simpa [Array.getD_eq_getD_getElem?, h] using h1⟩

theorem ready_pre (hp : PlanOk p ops) (hJ : Drawn P G N h0 φ0 T0 w0 p E st listed a w) {i : Nat} (hr : i ∈ Region.ready .any ops listed) :
    listed.getD i false = false ∧ i < p.hops.length ∧ (∃ o, ops[i]? = some o) ∧ ∀ q ∈ p.p i, listed.getD q false = true := by
  obtain ⟨h1, o, ho, h2⟩ := mem_ready.1 hr
  have hlt : i < listed.size := by have := (Array.getElem?_eq_some_iff.1 ho).1; have := hp.len; have := hJ.size; omega
  refine ⟨(getD_tf.1 ⟨hlt, h1⟩).2, by have := hJ.size; omega, ⟨o, ho⟩, fun q hq => ?_⟩
  obtain ⟨e, he, hb, h3⟩ := hp.pre i o ho q hq
  have h4 := h2 e he hb
  rcases h3 with rfl | h3
  · exact h4
  · exact hJ.clo _ h4 _ h3

/-- Nothing is ready: all is made. -/
theorem ready_nil (hp : PlanOk p ops) (hs : listed.size = p.hops.length) (hr : Region.ready .any ops listed = []) : ∀ i, i < p.hops.length → listed.getD i false = true := by
  intro i
  induction i using Nat.strongRecOn with
  | _ i ih =>
    intro hi
    have hlt : i < ops.size := by have := hp.len; omega
    by_cases hu : listed.getD i false = true
    · exact hu
    · have : i ∈ Region.ready .any ops listed := by
        refine mem_ready.2 ⟨(getD_tf.2 ⟨by omega, by simpa using hu⟩).2, ops[i], Array.getElem?_eq_getElem hlt, fun e he hb => ?_⟩
        have := (hp.aft i _ (Array.getElem?_eq_getElem hlt) e he hb).1
        exact ih e.on this (by omega)
      rw [hr] at this
      simp at this
end
end Hud
