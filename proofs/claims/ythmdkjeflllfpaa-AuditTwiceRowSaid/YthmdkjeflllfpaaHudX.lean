/- The predicate transformer as equations for 'simp', each argument met ahead of what follows it. -/
import Derived.Test.YthmdkjeflllfpaaHudS
import Derived.Attr
set_option linter.all false
namespace Hud
open Go

/-- A text, of its bytes. -/
def bs (l : List UInt8) : ByteArray := ⟨l.toArray⟩
/-- What follows, out of sight of 'simp' till it is met. -/
class KC (α : Type) where
  k : α → Prop
class PC where
  p : Prop
class KT where
  k : AV → Tab → Prop
class QC where
  q : Ex → St → Prop
/-- What is done with what is there. -/
def bindO {α : Type} (o : Option α) [c : KC α] : Prop := match o with | some x => c.k x | none => False
def condW (t : Bool) [A : PC] [B : PC] : Prop := match t with | true => A.p | false => B.p
/-- A function value that is called. -/
def clW (v : AV) [c : KC (Nat × List AV)] : Prop := match v with | .cl f caps => c.k (f, caps) | _ => False
def boolW (v : AV) [c : KC Bool] : Prop := match v with | .v (.bool t) => c.k t | _ => False

@[go_sem] theorem bindO_some {α : Type} (x : α) (K : α → Prop) : @bindO α (some x) ⟨K⟩ = K x := Eq.trans rfl rfl
@[go_sem] theorem condW_t (A B : Prop) : @condW true ⟨A⟩ ⟨B⟩ = A := Eq.trans rfl rfl
@[go_sem] theorem condW_f (A B : Prop) : @condW false ⟨A⟩ ⟨B⟩ = B := Eq.trans rfl rfl
@[go_sem] theorem clW_cl (f : Nat) (caps : List AV) (K : Nat × List AV → Prop) : @clW (.cl f caps) ⟨K⟩ = K (f, caps) := Eq.trans rfl rfl
@[go_sem] theorem boolW_b (t : Bool) (K : Bool → Prop) : @boolW (.v (.bool t)) ⟨K⟩ = K t := Eq.trans rfl rfl
theorem condW_i {t : Bool} {A B : Prop} (ha : t = true → A) (hb : t = false → B) : @condW t ⟨A⟩ ⟨B⟩ := by cases t; exact hb rfl; exact ha rfl
theorem bindO_i {α : Type} {o : Option α} {K : α → Prop} {x : α} (h : o = some x) (hk : K x) : @bindO α o ⟨K⟩ := by rw [h]; exact hk
theorem opsW_mono {P : Program} {G : Nat → Option (List AV)} {K K' : St → Prop} (h : ∀ s, K s → K' s) : ∀ {os : List HOper} {st : St}, opsW P G os st K → opsW P G os st K'
  | [], st, hw => h st hw
  | o :: os, st, hw => by
    simp only [opsW] at hw ⊢
    split <;> rename_i e <;> simp only [e] at hw
    · exact opW_mono (fun _ _ hk => opsW_mono h hk) hw
    · exact opsW_mono h hw
theorem hdW_mono {P : Program} {G : Nat → Option (List AV)} {K K' : St → Prop} (h : ∀ s, K s → K' s) : ∀ {d : HD} {st : St}, hdW P G d st K → hdW P G d st K'
  | .done b, st, hw => h _ hw
  | .no, st, hw => trivial
  | .q o n, st, hw => by
    simp only [hdW] at hw ⊢
    split <;> rename_i e <;> simp only [e] at hw
    · split <;> rename_i e' <;> simp only [e'] at hw
      exact hdW_mono h hw
    · exact hdW_mono h hw
  | .alt o c n m, st, hw => by
    simp only [hdW] at hw ⊢
    refine ⟨?_, hdW_mono h hw.2⟩
    have hw := hw.1
    split <;> rename_i e <;> simp only [e] at hw
    · exact opW_mono (fun _ _ hk => ⟨hk.1, hdW_mono h hk.2⟩) hw
    · exact ⟨hw.1, hdW_mono h hw.2⟩
theorem codeW_mono {P : Program} {G : Nat → Option (List AV)} : ∀ {c : HC} {Q Q' : Ex → St → Prop} {st : St}, (∀ e s, Q e s → Q' e s) → codeW P G c Q st → codeW P G c Q' st
  | .skip, _, _, _, h, hw => h _ _ hw
  | .reg l, _, _, _, h, hw => opsW_mono (h _) hw
  | .regd d, _, _, _, h, hw => hdW_mono (h _) hw
  | .seq a b, _, _, _, h, hw => by
    simp only [codeW] at hw ⊢
    refine codeW_mono (fun e s hq => ?_) hw
    cases e with
    | normal => exact codeW_mono h hq
    | exit i => exact h _ _ hq
    | ret => exact h _ _ hq
  | .cond c a b, _, _, _, h, hw => by
    simp only [codeW] at hw ⊢
    split <;> rename_i e <;> simp only [e] at hw
    rename_i t
    cases t
    · exact codeW_mono h hw
    · exact codeW_mono h hw
  | .block i a, _, _, _, h, hw => by
    simp only [codeW] at hw ⊢
    refine codeW_mono (fun e s hq => ?_) hw
    cases e with
    | normal => exact h _ _ hq
    | exit j => by_cases hj : j = i <;> simp only [hj, if_true, if_false] at hq ⊢ <;> exact h _ _ hq
    | ret => exact h _ _ hq
  | .loop d a, _, _, _, h, hw => by
    obtain ⟨I, h0, hr⟩ := hw
    refine ⟨I, h0, fun n s hs => codeW_mono (fun e s hq => ?_) (hr n s hs)⟩
    cases e with
    | normal => exact hq
    | exit i => exact h _ _ hq
    | ret => exact h _ _ hq
  | .exit i, _, _, _, h, hw => h _ _ hw
  | .ret, _, _, _, h, hw => h _ _ hw
  | .kill d, _, _, _, h, hw => h _ _ hw
  | .own j c k, _, _, _, h, hw => h _ _ hw

section
variable {P : Program} {G : Nat → Option (List AV)} {st : St}
def callC (P : Program) (G : Nat → Option (List AV)) (f : FuncId) (args : List AV) (T : Tab) [c : KT] : Prop := callW P G f args T c.k
def opC (P : Program) (G : Nat → Option (List AV)) (st : St) (o : HOp) [c : KT] : Prop := opW P G st o c.k
def opsC (P : Program) (G : Nat → Option (List AV)) (os : List HOper) (st : St) [c : KC St] : Prop := opsW P G os st c.k
def hdC (P : Program) (G : Nat → Option (List AV)) (d : HD) (st : St) [c : KC St] : Prop := hdW P G d st c.k
def codeC (P : Program) (G : Nat → Option (List AV)) (c : HC) (st : St) [q : QC] : Prop := codeW P G c q.q st

@[go_sem] theorem funW_eq (hf : HFun) (args : List AV) (T : Tab) (post : AV → Tab → Prop) : funW P G hf args T post = @codeC P G hf.code ⟨T.length, initS 0 args, T⟩ ⟨bodyW hf.res post⟩ := Eq.trans rfl rfl
@[go_sem] theorem opsC_nil (K : St → Prop) : @opsC P G [] st ⟨K⟩ = K st := Eq.trans rfl rfl
@[go_sem] theorem opsC_cons (d : Option Nat) (o : HOp) (os : List HOper) (K : St → Prop) : @opsC P G (⟨d, o, none⟩ :: os) st ⟨K⟩ = @opC P G st o ⟨fun x T => @opsC P G os ⟨st.r, putO st.s d x, T⟩ ⟨K⟩⟩ := Eq.trans rfl rfl
@[go_sem] theorem opsC_guard (d : Option Nat) (o : HOp) (j : Nat) (b : Bool) (os : List HOper) (K : St → Prop) :
    @opsC P G (⟨d, o, some (j, b)⟩ :: os) st ⟨K⟩ = @bindO Bool (wants st.s (some (j, b))) ⟨fun t => @condW t ⟨@opC P G st o ⟨fun x T => @opsC P G os ⟨st.r, putO st.s d x, T⟩ ⟨K⟩⟩⟩ ⟨@opsC P G os ⟨st.r, putO st.s d (.v undef), st.T⟩ ⟨K⟩⟩⟩ := by
  simp only [opsC, opsW]
  unfold bindO
  cases wants st.s (some (j, b)) with
  | none => rfl
  | some t => cases t <;> rfl
@[go_sem] theorem opC_call (f : Operand) (as : List Operand) (K : AV → Tab → Prop) : @opC P G st (.call f as) ⟨K⟩ = @clW (evO G st.s f) ⟨fun p => @callC P G p.1 (as.map (evO G st.s) ++ p.2) st.T ⟨K⟩⟩ := by
  simp only [opC, opW]
  unfold clW
  cases evO G st.s f <;> rfl
theorem opC_hop {o : HOp} (h : ∀ f l, o ≠ .call f l) (K : AV → Tab → Prop) : @opC P G st o ⟨K⟩ = @bindO (AV × Tab) (hop st.T (evO G st.s) o) ⟨fun p => K p.1 p.2⟩ := by
  cases o with
  | call f l => exact absurd rfl (h f l)
  | _ =>
    simp only [opC, opW]
    unfold bindO
    cases hop st.T (evO G st.s) _ with
    | none => rfl
    | some p => rfl
@[go_sem] theorem opC_mov {x} (K : AV → Tab → Prop) : @opC P G st (.mov x) ⟨K⟩ = @bindO (AV × Tab) (hop st.T (evO G st.s) (.mov x)) ⟨fun p => K p.1 p.2⟩ := opC_hop (fun _ _ e => by cases e) K
@[go_sem] theorem opC_pick {c a b} (K : AV → Tab → Prop) : @opC P G st (.pick c a b) ⟨K⟩ = @bindO (AV × Tab) (hop st.T (evO G st.s) (.pick c a b)) ⟨fun p => K p.1 p.2⟩ := opC_hop (fun _ _ e => by cases e) K
@[go_sem] theorem opC_bin {op x y} (K : AV → Tab → Prop) : @opC P G st (.bin op x y) ⟨K⟩ = @bindO (AV × Tab) (hop st.T (evO G st.s) (.bin op x y)) ⟨fun p => K p.1 p.2⟩ := opC_hop (fun _ _ e => by cases e) K
@[go_sem] theorem opC_eqa {neg ks x y} (K : AV → Tab → Prop) : @opC P G st (.eqa neg ks x y) ⟨K⟩ = @bindO (AV × Tab) (hop st.T (evO G st.s) (.eqa neg ks x y)) ⟨fun p => K p.1 p.2⟩ := opC_hop (fun _ _ e => by cases e) K
@[go_sem] theorem opC_eqb {neg x y} (K : AV → Tab → Prop) : @opC P G st (.eqb neg x y) ⟨K⟩ = @bindO (AV × Tab) (hop st.T (evO G st.s) (.eqb neg x y)) ⟨fun p => K p.1 p.2⟩ := opC_hop (fun _ _ e => by cases e) K
@[go_sem] theorem opC_un {op x} (K : AV → Tab → Prop) : @opC P G st (.un op x) ⟨K⟩ = @bindO (AV × Tab) (hop st.T (evO G st.s) (.un op x)) ⟨fun p => K p.1 p.2⟩ := opC_hop (fun _ _ e => by cases e) K
@[go_sem] theorem opC_conv {k x} (K : AV → Tab → Prop) : @opC P G st (.conv k x) ⟨K⟩ = @bindO (AV × Tab) (hop st.T (evO G st.s) (.conv k x)) ⟨fun p => K p.1 p.2⟩ := opC_hop (fun _ _ e => by cases e) K
@[go_sem] theorem opC_box {x} (K : AV → Tab → Prop) : @opC P G st (.box x) ⟨K⟩ = @bindO (AV × Tab) (hop st.T (evO G st.s) (.box x)) ⟨fun p => K p.1 p.2⟩ := opC_hop (fun _ _ e => by cases e) K
@[go_sem] theorem opC_alloc {z} (K : AV → Tab → Prop) : @opC P G st (.alloc z) ⟨K⟩ = @bindO (AV × Tab) (hop st.T (evO G st.s) (.alloc z)) ⟨fun p => K p.1 p.2⟩ := opC_hop (fun _ _ e => by cases e) K
@[go_sem] theorem opC_bld {z parts} (K : AV → Tab → Prop) : @opC P G st (.bld z parts) ⟨K⟩ = @bindO (AV × Tab) (hop st.T (evO G st.s) (.bld z parts)) ⟨fun p => K p.1 p.2⟩ := opC_hop (fun _ _ e => by cases e) K
@[go_sem] theorem opC_bsl {k z parts len} (K : AV → Tab → Prop) : @opC P G st (.bsl k z parts len) ⟨K⟩ = @bindO (AV × Tab) (hop st.T (evO G st.s) (.bsl k z parts len)) ⟨fun p => K p.1 p.2⟩ := opC_hop (fun _ _ e => by cases e) K
@[go_sem] theorem opC_ld {n p} (K : AV → Tab → Prop) : @opC P G st (.ld n p) ⟨K⟩ = @bindO (AV × Tab) (hop st.T (evO G st.s) (.ld n p)) ⟨fun p => K p.1 p.2⟩ := opC_hop (fun _ _ e => by cases e) K
@[go_sem] theorem opC_st {n p x} (K : AV → Tab → Prop) : @opC P G st (.st n p x) ⟨K⟩ = @bindO (AV × Tab) (hop st.T (evO G st.s) (.st n p x)) ⟨fun p => K p.1 p.2⟩ := opC_hop (fun _ _ e => by cases e) K
@[go_sem] theorem opC_fad {p off} (K : AV → Tab → Prop) : @opC P G st (.fad p off) ⟨K⟩ = @bindO (AV × Tab) (hop st.T (evO G st.s) (.fad p off)) ⟨fun p => K p.1 p.2⟩ := opC_hop (fun _ _ e => by cases e) K
@[go_sem] theorem opC_fld {x off n} (K : AV → Tab → Prop) : @opC P G st (.fld x off n) ⟨K⟩ = @bindO (AV × Tab) (hop st.T (evO G st.s) (.fld x off n)) ⟨fun p => K p.1 p.2⟩ := opC_hop (fun _ _ e => by cases e) K
@[go_sem] theorem opC_iad {x ix k} (K : AV → Tab → Prop) : @opC P G st (.iad x ix k) ⟨K⟩ = @bindO (AV × Tab) (hop st.T (evO G st.s) (.iad x ix k)) ⟨fun p => K p.1 p.2⟩ := opC_hop (fun _ _ e => by cases e) K
@[go_sem] theorem opC_iadA {x ix len k} (K : AV → Tab → Prop) : @opC P G st (.iadA x ix len k) ⟨K⟩ = @bindO (AV × Tab) (hop st.T (evO G st.s) (.iadA x ix len k)) ⟨fun p => K p.1 p.2⟩ := opC_hop (fun _ _ e => by cases e) K
@[go_sem] theorem opC_ixS {x ix} (K : AV → Tab → Prop) : @opC P G st (.ixS x ix) ⟨K⟩ = @bindO (AV × Tab) (hop st.T (evO G st.s) (.ixS x ix)) ⟨fun p => K p.1 p.2⟩ := opC_hop (fun _ _ e => by cases e) K
@[go_sem] theorem opC_lenS {x} (K : AV → Tab → Prop) : @opC P G st (.lenS x) ⟨K⟩ = @bindO (AV × Tab) (hop st.T (evO G st.s) (.lenS x)) ⟨fun p => K p.1 p.2⟩ := opC_hop (fun _ _ e => by cases e) K
@[go_sem] theorem opC_lenL {x} (K : AV → Tab → Prop) : @opC P G st (.lenL x) ⟨K⟩ = @bindO (AV × Tab) (hop st.T (evO G st.s) (.lenL x)) ⟨fun p => K p.1 p.2⟩ := opC_hop (fun _ _ e => by cases e) K
@[go_sem] theorem opC_app {x y k bytes} (K : AV → Tab → Prop) : @opC P G st (.app x y k bytes) ⟨K⟩ = @bindO (AV × Tab) (hop st.T (evO G st.s) (.app x y k bytes)) ⟨fun p => K p.1 p.2⟩ := opC_hop (fun _ _ e => by cases e) K
@[go_sem] theorem opC_ext {x i} (K : AV → Tab → Prop) : @opC P G st (.ext x i) ⟨K⟩ = @bindO (AV × Tab) (hop st.T (evO G st.s) (.ext x i)) ⟨fun p => K p.1 p.2⟩ := opC_hop (fun _ _ e => by cases e) K
@[go_sem] theorem opC_clo {f caps} (K : AV → Tab → Prop) : @opC P G st (.clo f caps) ⟨K⟩ = @bindO (AV × Tab) (hop st.T (evO G st.s) (.clo f caps)) ⟨fun p => K p.1 p.2⟩ := opC_hop (fun _ _ e => by cases e) K
@[go_sem] theorem opC_nilc {x} (K : AV → Tab → Prop) : @opC P G st (.nilc x) ⟨K⟩ = @bindO (AV × Tab) (hop st.T (evO G st.s) (.nilc x)) ⟨fun p => K p.1 p.2⟩ := opC_hop (fun _ _ e => by cases e) K
@[go_sem] theorem opC_slc {x lo hi k} (K : AV → Tab → Prop) : @opC P G st (.slc x lo hi k) ⟨K⟩ = @bindO (AV × Tab) (hop st.T (evO G st.s) (.slc x lo hi k)) ⟨fun p => K p.1 p.2⟩ := opC_hop (fun _ _ e => by cases e) K
@[go_sem] theorem opC_slcS {x lo hi} (K : AV → Tab → Prop) : @opC P G st (.slcS x lo hi) ⟨K⟩ = @bindO (AV × Tab) (hop st.T (evO G st.s) (.slcS x lo hi)) ⟨fun p => K p.1 p.2⟩ := opC_hop (fun _ _ e => by cases e) K
@[go_sem] theorem opC_nilS {neg kd x} (K : AV → Tab → Prop) : @opC P G st (.nilS neg kd x) ⟨K⟩ = @bindO (AV × Tab) (hop st.T (evO G st.s) (.nilS neg kd x)) ⟨fun p => K p.1 p.2⟩ := opC_hop (fun _ _ e => by cases e) K
@[go_sem] theorem opC_mm {mx x y} (K : AV → Tab → Prop) : @opC P G st (.mm mx x y) ⟨K⟩ = @bindO (AV × Tab) (hop st.T (evO G st.s) (.mm mx x y)) ⟨fun p => K p.1 p.2⟩ := opC_hop (fun _ _ e => by cases e) K
@[go_sem] theorem opC_mkm {ag} (K : AV → Tab → Prop) : @opC P G st (.mkm ag) ⟨K⟩ = @bindO (AV × Tab) (hop st.T (evO G st.s) (.mkm ag)) ⟨fun p => K p.1 p.2⟩ := opC_hop (fun _ _ e => by cases e) K
@[go_sem] theorem opC_lku {ag ls z m k ok} (K : AV → Tab → Prop) : @opC P G st (.lku ag ls z m k ok) ⟨K⟩ = @bindO (AV × Tab) (hop st.T (evO G st.s) (.lku ag ls z m k ok)) ⟨fun p => K p.1 p.2⟩ := opC_hop (fun _ _ e => by cases e) K
@[go_sem] theorem opC_mup {ag ls m k x} (K : AV → Tab → Prop) : @opC P G st (.mup ag ls m k x) ⟨K⟩ = @bindO (AV × Tab) (hop st.T (evO G st.s) (.mup ag ls m k x)) ⟨fun p => K p.1 p.2⟩ := opC_hop (fun _ _ e => by cases e) K
@[go_sem] theorem opC_men {ag ls z m k} (K : AV → Tab → Prop) : @opC P G st (.men ag ls z m k) ⟨K⟩ = @bindO (AV × Tab) (hop st.T (evO G st.s) (.men ag ls z m k)) ⟨fun p => K p.1 p.2⟩ := opC_hop (fun _ _ e => by cases e) K
@[go_sem] theorem opC_mst {m s x} (K : AV → Tab → Prop) : @opC P G st (.mst m s x) ⟨K⟩ = @bindO (AV × Tab) (hop st.T (evO G st.s) (.mst m s x)) ⟨fun p => K p.1 p.2⟩ := opC_hop (fun _ _ e => by cases e) K
@[go_sem] theorem opC_del {ag ls m k} (K : AV → Tab → Prop) : @opC P G st (.del ag ls m k) ⟨K⟩ = @bindO (AV × Tab) (hop st.T (evO G st.s) (.del ag ls m k)) ⟨fun p => K p.1 p.2⟩ := opC_hop (fun _ _ e => by cases e) K
@[go_sem] theorem opC_lenM {m} (K : AV → Tab → Prop) : @opC P G st (.lenM m) ⟨K⟩ = @bindO (AV × Tab) (hop st.T (evO G st.s) (.lenM m)) ⟨fun p => K p.1 p.2⟩ := opC_hop (fun _ _ e => by cases e) K

@[go_sem] theorem hdC_done (b : Bool) (K : St → Prop) : @hdC P G (.done b) st ⟨K⟩ = K (if b then gcs [] st else st) := Eq.trans rfl rfl
@[go_sem] theorem hdC_no (K : St → Prop) : @hdC P G .no st ⟨K⟩ = True := Eq.trans rfl rfl
@[go_sem] theorem hdC_q (d : Option Nat) (o : HOp) (n : HD) (K : St → Prop) : @hdC P G (.q ⟨d, o, none⟩ n) st ⟨K⟩ = @bindO (AV × Tab) (hop st.T (evO G st.s) o) ⟨fun p => @hdC P G n ⟨st.r, putO st.s d p.1, st.T⟩ ⟨K⟩⟩ := by
  simp only [hdC, hdW, wants]
  unfold bindO
  cases hop st.T (evO G st.s) o with
  | none => rfl
  | some p => rfl
@[go_sem] theorem hdC_qg (d : Option Nat) (o : HOp) (j : Nat) (b : Bool) (n : HD) (K : St → Prop) :
    @hdC P G (.q ⟨d, o, some (j, b)⟩ n) st ⟨K⟩ = @bindO Bool (wants st.s (some (j, b))) ⟨fun t => @condW t ⟨@bindO (AV × Tab) (hop st.T (evO G st.s) o) ⟨fun p => @hdC P G n ⟨st.r, putO st.s d p.1, st.T⟩ ⟨K⟩⟩⟩ ⟨@hdC P G n ⟨st.r, putO st.s d (.v undef), st.T⟩ ⟨K⟩⟩⟩ := by
  simp only [hdC, hdW]
  unfold bindO
  cases wants st.s (some (j, b)) with
  | none => rfl
  | some t =>
    cases t
    · rfl
    · cases hop st.T (evO G st.s) o with
      | none => rfl
      | some p => rfl
@[go_sem] theorem hdC_alt (d : Option Nat) (o : HOp) (chk : List HOper) (n m : HD) (K : St → Prop) :
    @hdC P G (.alt ⟨d, o, none⟩ chk n m) st ⟨K⟩ = ((@opC P G st o ⟨fun x T => chkW G ⟨st.r, putO st.s d x, T⟩ chk ∧ @hdC P G n ⟨st.r, putO st.s d x, T⟩ ⟨K⟩⟩) ∧ @hdC P G m st ⟨K⟩) := rfl
@[go_sem] theorem hdC_altg (d : Option Nat) (o : HOp) (j : Nat) (b : Bool) (chk : List HOper) (n m : HD) (K : St → Prop) :
    @hdC P G (.alt ⟨d, o, some (j, b)⟩ chk n m) st ⟨K⟩ = ((@bindO Bool (wants st.s (some (j, b))) ⟨fun t => @condW t ⟨@opC P G st o ⟨fun x T => chkW G ⟨st.r, putO st.s d x, T⟩ chk ∧ @hdC P G n ⟨st.r, putO st.s d x, T⟩ ⟨K⟩⟩⟩
      ⟨chkW G ⟨st.r, putO st.s d (.v undef), st.T⟩ chk ∧ @hdC P G n ⟨st.r, putO st.s d (.v undef), st.T⟩ ⟨K⟩⟩⟩) ∧ @hdC P G m st ⟨K⟩) := by
  simp only [hdC, hdW]
  unfold bindO
  cases wants st.s (some (j, b)) with
  | none => rfl
  | some t => cases t <;> rfl
@[go_sem] theorem codeC_skip (Q : Ex → St → Prop) : @codeC P G .skip st ⟨Q⟩ = Q .normal st := Eq.trans rfl rfl
@[go_sem] theorem codeC_reg (l : List HOper) (Q : Ex → St → Prop) : @codeC P G (.reg l) st ⟨Q⟩ = @opsC P G l st ⟨Q .normal⟩ := Eq.trans rfl rfl
@[go_sem] theorem codeC_regd (d : HD) (Q : Ex → St → Prop) : @codeC P G (.regd d) st ⟨Q⟩ = @hdC P G d st ⟨Q .normal⟩ := Eq.trans rfl rfl
@[go_sem] theorem codeC_kill (d : List Nat) (Q : Ex → St → Prop) : @codeC P G (.kill d) st ⟨Q⟩ = Q .normal ⟨st.r, dropS d st.s, st.T⟩ := Eq.trans rfl rfl
@[go_sem] theorem codeC_own (j : Nat) (c : Option Nat) (k : Nat) (Q : Ex → St → Prop) : @codeC P G (.own j c k) st ⟨Q⟩ = Q .normal (ownSt st j c k) := Eq.trans rfl rfl
@[go_sem] theorem codeC_exit (i : Nat) (Q : Ex → St → Prop) : @codeC P G (.exit i) st ⟨Q⟩ = Q (.exit i) st := Eq.trans rfl rfl
@[go_sem] theorem codeC_ret (Q : Ex → St → Prop) : @codeC P G .ret st ⟨Q⟩ = Q .ret st := Eq.trans rfl rfl
/-- What follows in a row. -/
def seqQ [c : KC St] [q : QC] : Ex → St → Prop | .normal, s => c.k s | .exit i, s => q.q (.exit i) s | .ret, s => q.q .ret s
@[go_sem] theorem seqQ_n (K : St → Prop) (Q : Ex → St → Prop) (s : St) : @seqQ ⟨K⟩ ⟨Q⟩ .normal s = K s := Eq.trans rfl rfl
@[go_sem] theorem seqQ_e (K : St → Prop) (Q : Ex → St → Prop) (i : Nat) (s : St) : @seqQ ⟨K⟩ ⟨Q⟩ (.exit i) s = Q (.exit i) s := Eq.trans rfl rfl
@[go_sem] theorem seqQ_r (K : St → Prop) (Q : Ex → St → Prop) (s : St) : @seqQ ⟨K⟩ ⟨Q⟩ .ret s = Q .ret s := Eq.trans rfl rfl
@[go_sem] theorem codeC_seq (a b : HC) (Q : Ex → St → Prop) : @codeC P G (.seq a b) st ⟨Q⟩ = @codeC P G a st ⟨@seqQ ⟨fun s => @codeC P G b s ⟨Q⟩⟩ ⟨Q⟩⟩ := by
  simp only [codeC, codeW]
  congr 1
  funext e s
  cases e <;> rfl
def blockQ (id : Nat) [q : QC] : Ex → St → Prop | .normal, s => q.q .normal s | .exit i, s => if i = id then q.q .normal s else q.q (.exit i) s | .ret, s => q.q .ret s
@[go_sem] theorem blockQ_n (id : Nat) (Q : Ex → St → Prop) (s : St) : @blockQ id ⟨Q⟩ .normal s = Q .normal s := Eq.trans rfl rfl
@[go_sem] theorem blockQ_e (id i : Nat) (Q : Ex → St → Prop) (s : St) : @blockQ id ⟨Q⟩ (.exit i) s = if i = id then Q .normal s else Q (.exit i) s := Eq.trans rfl rfl
@[go_sem] theorem blockQ_r (id : Nat) (Q : Ex → St → Prop) (s : St) : @blockQ id ⟨Q⟩ .ret s = Q .ret s := Eq.trans rfl rfl
@[go_sem] theorem codeC_block (id : Nat) (a : HC) (Q : Ex → St → Prop) : @codeC P G (.block id a) st ⟨Q⟩ = @codeC P G a st ⟨@blockQ id ⟨Q⟩⟩ := by
  simp only [codeC, codeW]
  congr 1
  funext e s
  cases e <;> rfl
@[go_sem] theorem codeC_cond (c : Operand) (a b : HC) (Q : Ex → St → Prop) : @codeC P G (.cond c a b) st ⟨Q⟩ = @boolW (evO G st.s c) ⟨fun t => @condW t ⟨@codeC P G a st ⟨Q⟩⟩ ⟨@codeC P G b st ⟨Q⟩⟩⟩ := by
  simp only [codeC, codeW]
  unfold boolW
  split
  · rename_i t h
    rw [h]
    cases t <;> rfl
  · rename_i h
    split
    · rename_i t h'; exact absurd h' (h t)
    · rfl
/-- A loop's round: what is behind it. -/
def loopQ (d : List Nat) [c : KC St] [q : QC] : Ex → St → Prop | .normal, s => c.k (gcs d s) | .exit i, s => q.q (.exit i) s | .ret, s => q.q .ret s
@[go_sem] theorem loopQ_n (d : List Nat) (J : St → Prop) (Q : Ex → St → Prop) (s : St) : @loopQ d ⟨J⟩ ⟨Q⟩ .normal s = J (gcs d s) := Eq.trans rfl rfl
@[go_sem] theorem loopQ_e (d : List Nat) (J : St → Prop) (Q : Ex → St → Prop) (i : Nat) (s : St) : @loopQ d ⟨J⟩ ⟨Q⟩ (.exit i) s = Q (.exit i) s := Eq.trans rfl rfl
@[go_sem] theorem loopQ_r (d : List Nat) (J : St → Prop) (Q : Ex → St → Prop) (s : St) : @loopQ d ⟨J⟩ ⟨Q⟩ .ret s = Q .ret s := Eq.trans rfl rfl
theorem codeC_mono {c : HC} {Q Q' : Ex → St → Prop} {st : St} (h : ∀ e s, Q e s → Q' e s) (hc : @codeC P G c st ⟨Q⟩) : @codeC P G c st ⟨Q'⟩ := codeW_mono h hc
/-- A LOOP: by what holds at its head at each number, that falls. -/
theorem loop_i {d : List Nat} {a : HC} {Q : Ex → St → Prop} (I : Nat → St → Prop) (n : Nat) (h0 : I n (gcs d st)) (hr : ∀ n s, I n s → @codeC P G a s ⟨@loopQ d ⟨fun s' => ∃ m, m < n ∧ I m s'⟩ ⟨Q⟩⟩) : @codeC P G (.loop d a) st ⟨Q⟩ := by
  refine ⟨I, ⟨n, h0⟩, fun n s hs => ?_⟩
  have := hr n s hs
  have e : (@loopQ d ⟨fun s' => ∃ m, m < n ∧ I m s'⟩ ⟨Q⟩) = fun e s' => match e with | .normal => ∃ m, m < n ∧ I m (gcs d s') | e => Q e s' := by
    funext e s; cases e <;> rfl
  rw [e] at this
  exact this
theorem loopQ_mono {d : List Nat} {J J' : St → Prop} {Q : Ex → St → Prop} (h : ∀ s, J s → J' s) : ∀ e s, @loopQ d ⟨J⟩ ⟨Q⟩ e s → @loopQ d ⟨J'⟩ ⟨Q⟩ e s := by
  intro e s
  cases e with
  | normal => exact h _
  | exit i => exact id
  | ret => exact id
/-- A LOOP THAT COUNTS UP: the states at its head are S i, i ≤ N, as long as J holds. -/
theorem loop_up {d : List Nat} {a : HC} {Q : Ex → St → Prop} (N : Nat) (S : Nat → St) (J : Nat → Prop) (h0 : gcs d st = S 0) (j0 : J 0) (hr : ∀ i, i < N → J i → @codeC P G a (S i) ⟨@loopQ d ⟨fun s' => s' = S (i + 1) ∧ J (i + 1)⟩ ⟨Q⟩⟩)
    (hl : J N → @codeC P G a (S N) ⟨@loopQ d ⟨fun _ => False⟩ ⟨Q⟩⟩) : @codeC P G (.loop d a) st ⟨Q⟩ := by
  refine loop_i (fun n s => ∃ i, i ≤ N ∧ n = N - i ∧ s = S i ∧ J i) N ⟨0, Nat.zero_le _, by simp, h0, j0⟩ ?_
  rintro n s ⟨i, hi, rfl, rfl, hj⟩
  rcases Nat.lt_or_ge i N with hlt | hge
  · exact codeC_mono (loopQ_mono fun s ⟨h1, h2⟩ => ⟨N - (i + 1), by omega, i + 1, by omega, rfl, h1, h2⟩) (hr i hlt hj)
  · obtain rfl : i = N := by omega
    exact codeC_mono (loopQ_mono fun s h => h.elim) (hl hj)
/-- What leaves a block by more ways than one goes on in states R. -/
theorem cut_block {c : HC} {id : Nat} {K : St → Prop} {Q : Ex → St → Prop} (R : St → Prop) (h : @codeC P G c st ⟨@blockQ id ⟨@seqQ ⟨R⟩ ⟨Q⟩⟩⟩) (hr : ∀ s, R s → K s) : @codeC P G c st ⟨@blockQ id ⟨@seqQ ⟨K⟩ ⟨Q⟩⟩⟩ := by
  refine codeC_mono (fun e s hq => ?_) h
  cases e with
  | normal => exact hr s hq
  | exit i =>
    simp only [blockQ] at hq ⊢
    split
    · rename_i e; rw [if_pos e] at hq; exact hr s hq
    · rename_i e; rw [if_neg e] at hq; exact hq
  | ret => exact hq
theorem cut_seq {c : HC} {K : St → Prop} {Q : Ex → St → Prop} (R : St → Prop) (h : @codeC P G c st ⟨@seqQ ⟨R⟩ ⟨Q⟩⟩) (hr : ∀ s, R s → K s) : @codeC P G c st ⟨@seqQ ⟨K⟩ ⟨Q⟩⟩ := by
  refine codeC_mono (fun e s hq => ?_) h
  cases e with
  | normal => exact hr s hq
  | exit i => exact hq
  | ret => exact hq
/-- A LOOP THAT COUNTS DOWN. -/
theorem loop_dn {d : List Nat} {a : HC} {Q : Ex → St → Prop} (N : Nat) (S : Nat → St) (J : Nat → Prop) (h0 : gcs d st = S N) (j0 : J N) (hr : ∀ k, k < N → J (k + 1) → @codeC P G a (S (k + 1)) ⟨@loopQ d ⟨fun s' => s' = S k ∧ J k⟩ ⟨Q⟩⟩)
    (hl : J 0 → @codeC P G a (S 0) ⟨@loopQ d ⟨fun _ => False⟩ ⟨Q⟩⟩) : @codeC P G (.loop d a) st ⟨Q⟩ := by
  refine loop_i (fun n s => n ≤ N ∧ s = S n ∧ J n) N ⟨Nat.le_refl _, h0, j0⟩ ?_
  rintro n s ⟨hn, rfl, hj⟩
  cases n with
  | zero => exact codeC_mono (loopQ_mono fun s h => h.elim) (hl hj)
  | succ n => exact codeC_mono (loopQ_mono fun s ⟨h1, h2⟩ => ⟨n, by omega, by omega, h1, h2⟩) (hr n (by omega) hj)
end
attribute [go_sem] hop evO getS putO putS delS dropS initS getT cellsA aggC cutA oneC closedA pbin pun eqC eqV wants bodyW retW resA reach rounds addN idsA idsL idsM idsO rnA rnL rnT rnO idx gcs sortS insS idsS rnS
  ownSt lendA lendL flatA flatL flatO bkA bkL bkO bkT bk keyC exactL findK mapAt layA groups chkW
attribute [go_sem] if_true if_false Bool.false_eq_true true_and and_true List.getElem?_cons_zero List.getElem?_cons_succ List.length_cons List.length_nil List.map_cons List.map_nil List.take_succ_cons List.drop_succ_cons List.take_zero List.drop_zero List.take_nil List.drop_nil
  List.cons_append List.nil_append List.append_nil List.all_cons List.all_nil Bool.and_true Bool.and_self Bool.not_true Bool.not_false List.set_cons_zero List.set_cons_succ List.contains_cons List.contains_nil List.map_map Option.map_some Option.map_none
  Int.toNat_natCast Int.natCast_nonneg decide_true decide_false Bool.not_eq_true
@[go_sem] theorem range_0 : List.range 0 = [] := rfl
@[go_sem] theorem range_1 : List.range 1 = [0] := rfl
@[go_sem] theorem range_2 : List.range 2 = [0, 1] := rfl
@[go_sem] theorem range_3 : List.range 3 = [0, 1, 2] := rfl
@[go_sem] theorem range_4 : List.range 4 = [0, 1, 2, 3] := rfl
@[go_sem] theorem range_5 : List.range 5 = [0, 1, 2, 3, 4] := rfl
@[go_sem] theorem range_6 : List.range 6 = [0, 1, 2, 3, 4, 5] := rfl
@[go_sem] theorem range_7 : List.range 7 = [0, 1, 2, 3, 4, 5, 6] := rfl
@[go_sem] theorem range_8 : List.range 8 = [0, 1, 2, 3, 4, 5, 6, 7] := rfl
@[go_sem] theorem range_9 : List.range 9 = [0, 1, 2, 3, 4, 5, 6, 7, 8] := rfl
@[go_sem] theorem range_10 : List.range 10 = [0, 1, 2, 3, 4, 5, 6, 7, 8, 9] := rfl
@[go_sem] theorem range_11 : List.range 11 = [0, 1, 2, 3, 4, 5, 6, 7, 8, 9, 10] := rfl
@[go_sem] theorem range_12 : List.range 12 = [0, 1, 2, 3, 4, 5, 6, 7, 8, 9, 10, 11] := rfl
@[go_sem] theorem range_13 : List.range 13 = [0, 1, 2, 3, 4, 5, 6, 7, 8, 9, 10, 11, 12] := rfl
@[go_sem] theorem range_14 : List.range 14 = [0, 1, 2, 3, 4, 5, 6, 7, 8, 9, 10, 11, 12, 13] := rfl
@[go_sem] theorem range_15 : List.range 15 = [0, 1, 2, 3, 4, 5, 6, 7, 8, 9, 10, 11, 12, 13, 14] := rfl
@[go_sem] theorem range_16 : List.range 16 = [0, 1, 2, 3, 4, 5, 6, 7, 8, 9, 10, 11, 12, 13, 14, 15] := rfl
@[go_sem] theorem beqT (b : Bool) : (b == true) = b := by cases b <;> rfl
@[go_sem] theorem beqF (b : Bool) : (b == false) = !b := by cases b <;> rfl
attribute [go_sem] Bool.not_not bne_self_eq_false beq_self_eq_true
attribute [go_sem] Nat.min_self List.length_map List.length_append List.length_take List.length_drop Nat.zero_add Nat.add_zero Nat.sub_zero Nat.le_refl Nat.zero_le List.length_range List.length_set List.map_append
attribute [go_sem] List.getD_cons_zero List.getD_cons_succ List.getD_nil
attribute [go_sem] Bool.or_false Bool.or_true Bool.true_or Bool.false_or List.idxOf?_cons List.idxOf?_nil List.findIdx?_cons List.findIdx?_nil List.filter_cons List.filter_nil
@[go_sem] theorem cast_0 : ((0 : Nat) : Int) = 0 := rfl
@[go_sem] theorem cast_1 : ((1 : Nat) : Int) = 1 := rfl
@[go_sem] theorem cast_2 : ((2 : Nat) : Int) = 2 := rfl
@[go_sem] theorem cast_3 : ((3 : Nat) : Int) = 3 := rfl
@[go_sem] theorem cast_4 : ((4 : Nat) : Int) = 4 := rfl
@[go_sem] theorem cast_5 : ((5 : Nat) : Int) = 5 := rfl
@[go_sem] theorem cast_6 : ((6 : Nat) : Int) = 6 := rfl
@[go_sem] theorem cast_7 : ((7 : Nat) : Int) = 7 := rfl
@[go_sem] theorem cast_8 : ((8 : Nat) : Int) = 8 := rfl
@[go_sem] theorem cast_9 : ((9 : Nat) : Int) = 9 := rfl
@[go_sem] theorem cast_10 : ((10 : Nat) : Int) = 10 := rfl
@[go_sem] theorem cast_11 : ((11 : Nat) : Int) = 11 := rfl
@[go_sem] theorem cast_12 : ((12 : Nat) : Int) = 12 := rfl
@[go_sem] theorem cast_13 : ((13 : Nat) : Int) = 13 := rfl
@[go_sem] theorem cast_14 : ((14 : Nat) : Int) = 14 := rfl
@[go_sem] theorem cast_15 : ((15 : Nat) : Int) = 15 := rfl
@[go_sem] theorem cast_16 : ((16 : Nat) : Int) = 16 := rfl
@[go_sem] theorem cast_17 : ((17 : Nat) : Int) = 17 := rfl
@[go_sem] theorem cast_18 : ((18 : Nat) : Int) = 18 := rfl
@[go_sem] theorem cast_19 : ((19 : Nat) : Int) = 19 := rfl
@[go_sem] theorem cast_20 : ((20 : Nat) : Int) = 20 := rfl
@[go_sem] theorem cast_21 : ((21 : Nat) : Int) = 21 := rfl
@[go_sem] theorem cast_22 : ((22 : Nat) : Int) = 22 := rfl
@[go_sem] theorem cast_23 : ((23 : Nat) : Int) = 23 := rfl
@[go_sem] theorem cast_24 : ((24 : Nat) : Int) = 24 := rfl
@[go_sem] theorem cast_25 : ((25 : Nat) : Int) = 25 := rfl
@[go_sem] theorem cast_26 : ((26 : Nat) : Int) = 26 := rfl
@[go_sem] theorem cast_27 : ((27 : Nat) : Int) = 27 := rfl
@[go_sem] theorem cast_28 : ((28 : Nat) : Int) = 28 := rfl
@[go_sem] theorem cast_29 : ((29 : Nat) : Int) = 29 := rfl
@[go_sem] theorem cast_30 : ((30 : Nat) : Int) = 30 := rfl
@[go_sem] theorem cast_31 : ((31 : Nat) : Int) = 31 := rfl
@[go_sem] theorem cast_32 : ((32 : Nat) : Int) = 32 := rfl
@[go_sem] theorem pick_and (t a : Bool) : (if t = true then AV.v (.bool a) else AV.v (.bool false)) = AV.v (.bool (t && a)) := by cases t <;> rfl
@[go_sem] theorem pick_or (t b : Bool) : (if t = true then AV.v (.bool true) else AV.v (.bool b)) = AV.v (.bool (t || b)) := by cases t <;> rfl
attribute [go_sem] Bool.and_true Bool.true_and Bool.false_and Bool.and_false
end Hud
