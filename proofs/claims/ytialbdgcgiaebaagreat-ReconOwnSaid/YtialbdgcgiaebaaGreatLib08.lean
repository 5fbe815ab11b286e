import Derived.Test.YtialbdgcgiaebaaGreatLib07
import Derived.Attr
import Derived.Test.YtialbdgcgiaebaaGreatProg
set_option linter.all false
section
namespace Hud
open Go
def bs (l : List UInt8) : ByteArray := ⟨l.toArray⟩
class KC (α : Type) where
  k : α → Prop
class PC where
  p : Prop
class KT where
  k : AV → Tab → Prop
class QC where
  q : Ex → St → Prop
def bindO {α : Type} (o : Option α) [c : KC α] : Prop := match o with | some x => c.k x | none => False
def condW (t : Bool) [A : PC] [B : PC] : Prop := match t with | true => A.p | false => B.p
def boolW (v : AV) [c : KC Bool] : Prop := match v with | .v (.bool t) => c.k t | _ => False
@[go_sem] theorem bindO_some {α : Type} (x : α) (K : α → Prop) : @bindO α (some x) ⟨K⟩ = K x := Eq.trans rfl rfl
@[go_sem] theorem condW_t (A B : Prop) : @condW true ⟨A⟩ ⟨B⟩ = A := Eq.trans rfl rfl
@[go_sem] theorem condW_f (A B : Prop) : @condW false ⟨A⟩ ⟨B⟩ = B := Eq.trans rfl rfl
@[go_sem] theorem boolW_b (t : Bool) (K : Bool → Prop) : @boolW (.v (.bool t)) ⟨K⟩ = K t := Eq.trans rfl rfl
theorem condW_i {t : Bool} {A B : Prop} (ha : t = true → A) (hb : t = false → B) : @condW t ⟨A⟩ ⟨B⟩ := by cases t; exact hb rfl; exact ha rfl
theorem opsW_mono {P : Program} {G : Nat → Option (List AV)} {K K' : St → Prop} (h : ∀ s, K s → K' s) : ∀ {os : List HOper} {st : St}, opsW P G os st K → opsW P G os st K'
  | [], st, hw => h st hw
  | o :: os, st, hw => by
    simp only [opsW] at hw ⊢
    split <;> rename_i e <;> simp only [e] at hw
    · exact opW_mono (fun _ _ hk => opsW_mono h hk) hw
    · exact opsW_mono h hw
theorem hdW_mono {P : Program} {G : Nat → Option (List AV)} {K K' : St → Prop} (h : ∀ s, K s → K' s) : ∀ {d : HD} {st : St}, hdW P G d st K → hdW P G d st K'
  | .done b, st, hw => h _ hw
  | .no, st, hw => trivial
  | .q o n, st, hw => by
    simp only [hdW] at hw ⊢
    split <;> rename_i e <;> simp only [e] at hw
    · split <;> rename_i e' <;> simp only [e'] at hw
      exact hdW_mono h hw
    · exact hdW_mono h hw
  | .alt o c n m, st, hw => by
    simp only [hdW] at hw ⊢
    refine ⟨?_, hdW_mono h hw.2⟩
    have hw := hw.1
    split <;> rename_i e <;> simp only [e] at hw
    · exact opW_mono (fun _ _ hk => ⟨hk.1, hdW_mono h hk.2⟩) hw
    · exact ⟨hw.1, hdW_mono h hw.2⟩
theorem codeW_mono {P : Program} {G : Nat → Option (List AV)} : ∀ {c : HC} {Q Q' : Ex → St → Prop} {st : St}, (∀ e s, Q e s → Q' e s) → codeW P G c Q st → codeW P G c Q' st
  | .skip, _, _, _, h, hw => h _ _ hw
  | .reg l, _, _, _, h, hw => opsW_mono (h _) hw
  | .regd d, _, _, _, h, hw => hdW_mono (h _) hw
  | .seq a b, _, _, _, h, hw => by
    simp only [codeW] at hw ⊢
    refine codeW_mono (fun e s hq => ?_) hw
    cases e with
    | normal => exact codeW_mono h hq
    | exit i => exact h _ _ hq
    | ret => exact h _ _ hq
  | .cond c a b, _, _, _, h, hw => by
    simp only [codeW] at hw ⊢
    split <;> rename_i e <;> simp only [e] at hw
    rename_i t
    cases t
    · exact codeW_mono h hw
    · exact codeW_mono h hw
  | .block i a, _, _, _, h, hw => by
    simp only [codeW] at hw ⊢
    refine codeW_mono (fun e s hq => ?_) hw
    cases e with
    | normal => exact h _ _ hq
    | exit j => by_cases hj : j = i <;> simp only [hj, if_true, if_false] at hq ⊢ <;> exact h _ _ hq
    | ret => exact h _ _ hq
  | .rng g ps d a b, Q, Q', st, h, hw => by
    simp only [codeW] at hw ⊢
    intro r h1 h2 h3 hy
    have hw := hw r h1 h2 h3 hy
    split <;> rename_i e <;> simp only [e] at hw
    refine ⟨hw.1, callW_mono (fun x T hk => ?_) hw.2⟩
    simp only [rngEnd] at hk ⊢
    split <;> rename_i e' <;> simp only [e'] at hk
    refine ⟨hk.1, ?_⟩
    have hk := hk.2
    split <;> rename_i e'' <;> simp only [e''] at hk <;> exact h _ _ hk
  | .loop d a, _, _, _, h, hw => by
    obtain ⟨I, h0, hr⟩ := hw
    refine ⟨I, h0, fun n s hs => codeW_mono (fun e s hq => ?_) (hr n s hs)⟩
    cases e with
    | normal => exact hq
    | exit i => exact h _ _ hq
    | ret => exact h _ _ hq
  | .exit i, _, _, _, h, hw => h _ _ hw
  | .ret, _, _, _, h, hw => h _ _ hw
  | .kill d, _, _, _, h, hw => h _ _ hw
  | .own j c k, _, _, _, h, hw => h _ _ hw
  | .shut j, _, _, _, h, hw => h _ _ hw
section
variable {P : Program} {G : Nat → Option (List AV)} {st : St}
def retG (rs : List (Nat × Option (Option Nat))) (post : AV → Tab → Prop) (st : St) : Prop :=
  match resO st rs with
  | some l =>
    let r := resA l
    let L := reach st.T (List.range st.r ++ idsA r)
    post (rnA L r) (rnT L st.T)
  | none => False
def bodyG (rs : List (Nat × Option (Option Nat))) (post : AV → Tab → Prop) : Ex → St → Prop
  | .normal, st => retG rs post st
  | .ret, st => retG rs post st
  | _, _ => False
def funG (P : Program) (G : Nat → Option (List AV)) (hf : HFun) (args : List AV) (T : Tab) (post : AV → Tab → Prop) : Prop :=
  codeW P G hf.code (bodyG hf.res post) ⟨T.length, initS 0 args, T⟩
theorem funG_W {P : Program} {G : Nat → Option (List AV)} {hf : HFun} {args : List AV} {T : Tab} {post : AV → Tab → Prop} (h : funG P G hf args T post) : funW P G hf args T post := by
  refine codeW_mono (fun e s hq => ?_) h
  have key : retG hf.res post s → retW hf.res post s := by
    intro hr
    unfold retG at hr
    unfold retW
    split <;> rename_i e <;> simp only [e] at hr
    exact .inl hr
  cases e with
  | normal => exact key hq
  | ret => exact key hq
  | exit i => exact hq
theorem fun_okH {P : Program} {G : Nat → Option (List AV)} {f : FuncId} {hf : HFun} {H : List (Nat × Option Nat × Nat)} (hc : compFunH P f H = some hf) {args : List AV} {T : Tab} {post : AV → Tab → Prop} (hT : True) (hw : funG P G hf args T post) : CallOk P G f args T post := fun_okS hc hT (funG_W hw)
def retF (rs : List (Nat × Option (Option Nat))) (post : AV → Tab → Prop) (st : St) : Prop :=
  match resO st rs with
  | some l => post (resA l) st.T
  | none => False
def bodyF (rs : List (Nat × Option (Option Nat))) (post : AV → Tab → Prop) : Ex → St → Prop
  | .normal, st => retF rs post st
  | .ret, st => retF rs post st
  | _, _ => False
def funF (P : Program) (G : Nat → Option (List AV)) (hf : HFun) (args : List AV) (T : Tab) (post : AV → Tab → Prop) : Prop :=
  codeW P G hf.code (bodyF hf.res post) ⟨T.length, initS 0 args, T⟩
theorem fun_okF {P : Program} {G : Nat → Option (List AV)} {f : FuncId} {hf : HFun} {H : List (Nat × Option Nat × Nat)} (hc : compFunH P f H = some hf) {args : List AV} {T : Tab} {post : AV → Tab → Prop} (hw : funF P G hf args T post) : CallOk P G f args T post := by
  refine fun_okS hc trivial (codeW_mono (fun e s hq => ?_) hw)
  have key : retF hf.res post s → retW hf.res post s := by
    intro hr
    unfold retF at hr
    unfold retW
    split <;> rename_i e <;> simp only [e] at hr
    exact .inr hr
  cases e with
  | normal => exact key hq
  | ret => exact key hq
  | exit i => exact hq
theorem gobody_ok {P : Program} {f : FuncId} {hf : HFun} {H : List (Nat × Option Nat × Nat)} (hc : compFunH P f H = some hf) : GoBody P f := by
  unfold compFunH at hc
  split at hc
  · simp at hc
  · rename_i fn hfn
    split at hc
    · simp at hc
    · rename_i hname
      split at hc
      · rename_i c rs hb hrs
        exact ⟨fn, c, hfn, hb, by simpa using hname⟩
      · simp at hc
def callC (P : Program) (G : Nat → Option (List AV)) (f : FuncId) (args : List AV) (T : Tab) [c : KT] : Prop := callW P G f args T c.k
def opC (P : Program) (G : Nat → Option (List AV)) (st : St) (o : HOp) [c : KT] : Prop := opW P G st o c.k
def opsC (P : Program) (G : Nat → Option (List AV)) (os : List HOper) (st : St) [c : KC St] : Prop := opsW P G os st c.k
def hdC (P : Program) (G : Nat → Option (List AV)) (d : HD) (st : St) [c : KC St] : Prop := hdW P G d st c.k
def codeC (P : Program) (G : Nat → Option (List AV)) (c : HC) (st : St) [q : QC] : Prop := codeW P G c q.q st
@[go_sem] theorem funG_eq (hf : HFun) (args : List AV) (T : Tab) (post : AV → Tab → Prop) : funG P G hf args T post = @codeC P G hf.code ⟨T.length, initS 0 args, T⟩ ⟨bodyG hf.res post⟩ := Eq.trans rfl rfl
@[go_sem] theorem funF_eq (hf : HFun) (args : List AV) (T : Tab) (post : AV → Tab → Prop) : funF P G hf args T post = @codeC P G hf.code ⟨T.length, initS 0 args, T⟩ ⟨bodyF hf.res post⟩ := Eq.trans rfl rfl
@[go_sem] theorem opsC_nil (K : St → Prop) : @opsC P G [] st ⟨K⟩ = K st := Eq.trans rfl rfl
@[go_sem] theorem opsC_cons (d : Option Nat) (o : HOp) (os : List HOper) (K : St → Prop) : @opsC P G (⟨d, o, none⟩ :: os) st ⟨K⟩ = @opC P G st o ⟨fun x T => @opsC P G os ⟨st.r, putO st.s d x, T⟩ ⟨K⟩⟩ := Eq.trans rfl rfl
@[go_sem] theorem opsC_guard (d : Option Nat) (o : HOp) (j : Nat) (b : Bool) (os : List HOper) (K : St → Prop) :
    @opsC P G (⟨d, o, some (j, b)⟩ :: os) st ⟨K⟩ = @bindO Bool (wants st.s (some (j, b))) ⟨fun t => @condW t ⟨@opC P G st o ⟨fun x T => @opsC P G os ⟨st.r, putO st.s d x, T⟩ ⟨K⟩⟩⟩ ⟨@opsC P G os ⟨st.r, putO st.s d (.v undef), st.T⟩ ⟨K⟩⟩⟩ := by
  simp only [opsC, opsW]
  unfold bindO
  cases wants st.s (some (j, b)) with
  | none => rfl
  | some t => cases t <;> rfl
def yldC (P : Program) (G : Nat → Option (List AV)) (i : Nat) (args : List AV) (T : Tab) [c : KT] : Prop := YieldOk P G i args T c.k
def calC (P : Program) (G : Nat → Option (List AV)) (f : AV) (args : List AV) (T : Tab) [c : KT] : Prop := match f with
  | .cl g caps => callC P G g (args ++ caps) T
  | .bm g k cs => callC P G g (cs.take k ++ args ++ cs.drop k) T
  | .yl i => yldC P G i args T
  | _ => False
@[go_sem] theorem calC_cl (g : Nat) (caps args : List AV) (T : Tab) (K : AV → Tab → Prop) : @calC P G (.cl g caps) args T ⟨K⟩ = @callC P G g (args ++ caps) T ⟨K⟩ := Eq.trans rfl rfl
@[go_sem] theorem calC_bm (g k : Nat) (cs args : List AV) (T : Tab) (K : AV → Tab → Prop) : @calC P G (.bm g k cs) args T ⟨K⟩ = @callC P G g (cs.take k ++ args ++ cs.drop k) T ⟨K⟩ := Eq.trans rfl rfl
@[go_sem] theorem calC_yl (i : Nat) (args : List AV) (T : Tab) (K : AV → Tab → Prop) : @calC P G (.yl i) args T ⟨K⟩ = @yldC P G i args T ⟨K⟩ := Eq.trans rfl rfl
@[go_sem] theorem opC_call (f : Operand) (as_ : List Operand) (K : AV → Tab → Prop) : @opC P G st (.call f as_) ⟨K⟩ = @calC P G (evO G st.s f) (as_.map (evO G st.s)) st.T ⟨K⟩ := by
  simp only [opC, opW]
  unfold calC
  cases evO G st.s f <;> rfl
theorem opC_hop {o : HOp} (h : ∀ f l, o ≠ .call f l) (h' : ∀ p, o ≠ .nxt p) (h'' : ∀ n k x, o ≠ .nilS n k x) (K : AV → Tab → Prop) : @opC P G st o ⟨K⟩ = @bindO (AV × Tab) (hop st.T (evO G st.s) o) ⟨fun p => K p.1 p.2⟩ := by
  cases o with
  | call f l => exact absurd rfl (h f l)
  | nxt p => exact absurd rfl (h' p)
  | nilS n k x => exact absurd rfl (h'' n k x)
  | _ =>
    simp only [opC, opW]
    unfold bindO
    cases hop st.T (evO G st.s) _ with
    | none => rfl
    | some p => rfl
@[go_sem] theorem opC_mov {x} (K : AV → Tab → Prop) : @opC P G st (.mov x) ⟨K⟩ = @bindO (AV × Tab) (hop st.T (evO G st.s) (.mov x)) ⟨fun p => K p.1 p.2⟩ := opC_hop (fun _ _ e => by cases e) (fun _ e => by cases e) (fun _ _ _ e => by cases e) K
@[go_sem] theorem opC_pick {c a b} (K : AV → Tab → Prop) : @opC P G st (.pick c a b) ⟨K⟩ = @bindO (AV × Tab) (hop st.T (evO G st.s) (.pick c a b)) ⟨fun p => K p.1 p.2⟩ := opC_hop (fun _ _ e => by cases e) (fun _ e => by cases e) (fun _ _ _ e => by cases e) K
@[go_sem] theorem opC_bin {op x y} (K : AV → Tab → Prop) : @opC P G st (.bin op x y) ⟨K⟩ = @bindO (AV × Tab) (hop st.T (evO G st.s) (.bin op x y)) ⟨fun p => K p.1 p.2⟩ := opC_hop (fun _ _ e => by cases e) (fun _ e => by cases e) (fun _ _ _ e => by cases e) K
@[go_sem] theorem opC_eqa {neg ks x y} (K : AV → Tab → Prop) : @opC P G st (.eqa neg ks x y) ⟨K⟩ = @bindO (AV × Tab) (hop st.T (evO G st.s) (.eqa neg ks x y)) ⟨fun p => K p.1 p.2⟩ := opC_hop (fun _ _ e => by cases e) (fun _ e => by cases e) (fun _ _ _ e => by cases e) K
@[go_sem] theorem opC_eqb {neg x y} (K : AV → Tab → Prop) : @opC P G st (.eqb neg x y) ⟨K⟩ = @bindO (AV × Tab) (hop st.T (evO G st.s) (.eqb neg x y)) ⟨fun p => K p.1 p.2⟩ := opC_hop (fun _ _ e => by cases e) (fun _ e => by cases e) (fun _ _ _ e => by cases e) K
@[go_sem] theorem opC_un {op x} (K : AV → Tab → Prop) : @opC P G st (.un op x) ⟨K⟩ = @bindO (AV × Tab) (hop st.T (evO G st.s) (.un op x)) ⟨fun p => K p.1 p.2⟩ := opC_hop (fun _ _ e => by cases e) (fun _ e => by cases e) (fun _ _ _ e => by cases e) K
@[go_sem] theorem opC_conv {k x} (K : AV → Tab → Prop) : @opC P G st (.conv k x) ⟨K⟩ = @bindO (AV × Tab) (hop st.T (evO G st.s) (.conv k x)) ⟨fun p => K p.1 p.2⟩ := opC_hop (fun _ _ e => by cases e) (fun _ e => by cases e) (fun _ _ _ e => by cases e) K
@[go_sem] theorem opC_box {x} (K : AV → Tab → Prop) : @opC P G st (.box x) ⟨K⟩ = @bindO (AV × Tab) (hop st.T (evO G st.s) (.box x)) ⟨fun p => K p.1 p.2⟩ := opC_hop (fun _ _ e => by cases e) (fun _ e => by cases e) (fun _ _ _ e => by cases e) K
@[go_sem] theorem opC_alloc {z} (K : AV → Tab → Prop) : @opC P G st (.alloc z) ⟨K⟩ = @bindO (AV × Tab) (hop st.T (evO G st.s) (.alloc z)) ⟨fun p => K p.1 p.2⟩ := opC_hop (fun _ _ e => by cases e) (fun _ e => by cases e) (fun _ _ _ e => by cases e) K
@[go_sem] theorem opC_bld {z parts} (K : AV → Tab → Prop) : @opC P G st (.bld z parts) ⟨K⟩ = @bindO (AV × Tab) (hop st.T (evO G st.s) (.bld z parts)) ⟨fun p => K p.1 p.2⟩ := opC_hop (fun _ _ e => by cases e) (fun _ e => by cases e) (fun _ _ _ e => by cases e) K
@[go_sem] theorem opC_bsl {k z parts len} (K : AV → Tab → Prop) : @opC P G st (.bsl k z parts len) ⟨K⟩ = @bindO (AV × Tab) (hop st.T (evO G st.s) (.bsl k z parts len)) ⟨fun p => K p.1 p.2⟩ := opC_hop (fun _ _ e => by cases e) (fun _ e => by cases e) (fun _ _ _ e => by cases e) K
@[go_sem] theorem opC_ld {n p} (K : AV → Tab → Prop) : @opC P G st (.ld n p) ⟨K⟩ = @bindO (AV × Tab) (hop st.T (evO G st.s) (.ld n p)) ⟨fun p => K p.1 p.2⟩ := opC_hop (fun _ _ e => by cases e) (fun _ e => by cases e) (fun _ _ _ e => by cases e) K
@[go_sem] theorem opC_st {n p x} (K : AV → Tab → Prop) : @opC P G st (.st n p x) ⟨K⟩ = @bindO (AV × Tab) (hop st.T (evO G st.s) (.st n p x)) ⟨fun p => K p.1 p.2⟩ := opC_hop (fun _ _ e => by cases e) (fun _ e => by cases e) (fun _ _ _ e => by cases e) K
@[go_sem] theorem opC_fad {p off} (K : AV → Tab → Prop) : @opC P G st (.fad p off) ⟨K⟩ = @bindO (AV × Tab) (hop st.T (evO G st.s) (.fad p off)) ⟨fun p => K p.1 p.2⟩ := opC_hop (fun _ _ e => by cases e) (fun _ e => by cases e) (fun _ _ _ e => by cases e) K
@[go_sem] theorem opC_fld {x off n} (K : AV → Tab → Prop) : @opC P G st (.fld x off n) ⟨K⟩ = @bindO (AV × Tab) (hop st.T (evO G st.s) (.fld x off n)) ⟨fun p => K p.1 p.2⟩ := opC_hop (fun _ _ e => by cases e) (fun _ e => by cases e) (fun _ _ _ e => by cases e) K
@[go_sem] theorem opC_iad {x ix k} (K : AV → Tab → Prop) : @opC P G st (.iad x ix k) ⟨K⟩ = @bindO (AV × Tab) (hop st.T (evO G st.s) (.iad x ix k)) ⟨fun p => K p.1 p.2⟩ := opC_hop (fun _ _ e => by cases e) (fun _ e => by cases e) (fun _ _ _ e => by cases e) K
@[go_sem] theorem opC_iadA {x ix len k} (K : AV → Tab → Prop) : @opC P G st (.iadA x ix len k) ⟨K⟩ = @bindO (AV × Tab) (hop st.T (evO G st.s) (.iadA x ix len k)) ⟨fun p => K p.1 p.2⟩ := opC_hop (fun _ _ e => by cases e) (fun _ e => by cases e) (fun _ _ _ e => by cases e) K
@[go_sem] theorem opC_ixS {x ix} (K : AV → Tab → Prop) : @opC P G st (.ixS x ix) ⟨K⟩ = @bindO (AV × Tab) (hop st.T (evO G st.s) (.ixS x ix)) ⟨fun p => K p.1 p.2⟩ := opC_hop (fun _ _ e => by cases e) (fun _ e => by cases e) (fun _ _ _ e => by cases e) K
@[go_sem] theorem opC_lenS {x} (K : AV → Tab → Prop) : @opC P G st (.lenS x) ⟨K⟩ = @bindO (AV × Tab) (hop st.T (evO G st.s) (.lenS x)) ⟨fun p => K p.1 p.2⟩ := opC_hop (fun _ _ e => by cases e) (fun _ e => by cases e) (fun _ _ _ e => by cases e) K
@[go_sem] theorem opC_lenL {x} (K : AV → Tab → Prop) : @opC P G st (.lenL x) ⟨K⟩ = @bindO (AV × Tab) (hop st.T (evO G st.s) (.lenL x)) ⟨fun p => K p.1 p.2⟩ := opC_hop (fun _ _ e => by cases e) (fun _ e => by cases e) (fun _ _ _ e => by cases e) K
@[go_sem] theorem opC_app {x y k bytes} (K : AV → Tab → Prop) : @opC P G st (.app x y k bytes) ⟨K⟩ = @bindO (AV × Tab) (hop st.T (evO G st.s) (.app x y k bytes)) ⟨fun p => K p.1 p.2⟩ := opC_hop (fun _ _ e => by cases e) (fun _ e => by cases e) (fun _ _ _ e => by cases e) K
@[go_sem] theorem opC_ext {x i} (K : AV → Tab → Prop) : @opC P G st (.ext x i) ⟨K⟩ = @bindO (AV × Tab) (hop st.T (evO G st.s) (.ext x i)) ⟨fun p => K p.1 p.2⟩ := opC_hop (fun _ _ e => by cases e) (fun _ e => by cases e) (fun _ _ _ e => by cases e) K
@[go_sem] theorem opC_clo {f caps} (K : AV → Tab → Prop) : @opC P G st (.clo f caps) ⟨K⟩ = @bindO (AV × Tab) (hop st.T (evO G st.s) (.clo f caps)) ⟨fun p => K p.1 p.2⟩ := opC_hop (fun _ _ e => by cases e) (fun _ e => by cases e) (fun _ _ _ e => by cases e) K
@[go_sem] theorem opC_nilc {x} (K : AV → Tab → Prop) : @opC P G st (.nilc x) ⟨K⟩ = @bindO (AV × Tab) (hop st.T (evO G st.s) (.nilc x)) ⟨fun p => K p.1 p.2⟩ := opC_hop (fun _ _ e => by cases e) (fun _ e => by cases e) (fun _ _ _ e => by cases e) K
@[go_sem] theorem opC_slc {x lo hi k} (K : AV → Tab → Prop) : @opC P G st (.slc x lo hi k) ⟨K⟩ = @bindO (AV × Tab) (hop st.T (evO G st.s) (.slc x lo hi k)) ⟨fun p => K p.1 p.2⟩ := opC_hop (fun _ _ e => by cases e) (fun _ e => by cases e) (fun _ _ _ e => by cases e) K
@[go_sem] theorem opC_slcS {x lo hi} (K : AV → Tab → Prop) : @opC P G st (.slcS x lo hi) ⟨K⟩ = @bindO (AV × Tab) (hop st.T (evO G st.s) (.slcS x lo hi)) ⟨fun p => K p.1 p.2⟩ := opC_hop (fun _ _ e => by cases e) (fun _ e => by cases e) (fun _ _ _ e => by cases e) K
@[go_sem] theorem opC_nilS {neg kd x} (K : AV → Tab → Prop) : @opC P G st (.nilS neg kd x) ⟨K⟩ = @condW (nilE kd (evO G st.s x)) ⟨K (.v (.bool true)) st.T ∧ K (.v (.bool false)) st.T⟩ ⟨@bindO (AV × Tab) (hop st.T (evO G st.s) (.nilS neg kd x)) ⟨fun p => K p.1 p.2⟩⟩ := by
  simp only [opC, opW]
  unfold condW bindO
  split <;> rename_i h
  · rw [h]
    rfl
  · have h : nilE kd (evO G st.s x) = false := by simpa using h
    rw [h]
    simp only
    cases hop st.T (evO G st.s) (.nilS neg kd x) with
    | none => rfl
    | some p => rfl
@[go_sem] theorem opC_mm {mx x y} (K : AV → Tab → Prop) : @opC P G st (.mm mx x y) ⟨K⟩ = @bindO (AV × Tab) (hop st.T (evO G st.s) (.mm mx x y)) ⟨fun p => K p.1 p.2⟩ := opC_hop (fun _ _ e => by cases e) (fun _ e => by cases e) (fun _ _ _ e => by cases e) K
@[go_sem] theorem opC_mkm {ag} (K : AV → Tab → Prop) : @opC P G st (.mkm ag) ⟨K⟩ = @bindO (AV × Tab) (hop st.T (evO G st.s) (.mkm ag)) ⟨fun p => K p.1 p.2⟩ := opC_hop (fun _ _ e => by cases e) (fun _ e => by cases e) (fun _ _ _ e => by cases e) K
@[go_sem] theorem opC_lku {ag ls z m k ok} (K : AV → Tab → Prop) : @opC P G st (.lku ag ls z m k ok) ⟨K⟩ = @bindO (AV × Tab) (hop st.T (evO G st.s) (.lku ag ls z m k ok)) ⟨fun p => K p.1 p.2⟩ := opC_hop (fun _ _ e => by cases e) (fun _ e => by cases e) (fun _ _ _ e => by cases e) K
@[go_sem] theorem opC_mup {ag ls m k x} (K : AV → Tab → Prop) : @opC P G st (.mup ag ls m k x) ⟨K⟩ = @bindO (AV × Tab) (hop st.T (evO G st.s) (.mup ag ls m k x)) ⟨fun p => K p.1 p.2⟩ := opC_hop (fun _ _ e => by cases e) (fun _ e => by cases e) (fun _ _ _ e => by cases e) K
@[go_sem] theorem opC_men {ag ls z m k} (K : AV → Tab → Prop) : @opC P G st (.men ag ls z m k) ⟨K⟩ = @bindO (AV × Tab) (hop st.T (evO G st.s) (.men ag ls z m k)) ⟨fun p => K p.1 p.2⟩ := opC_hop (fun _ _ e => by cases e) (fun _ e => by cases e) (fun _ _ _ e => by cases e) K
@[go_sem] theorem opC_mst {m s x} (K : AV → Tab → Prop) : @opC P G st (.mst m s x) ⟨K⟩ = @bindO (AV × Tab) (hop st.T (evO G st.s) (.mst m s x)) ⟨fun p => K p.1 p.2⟩ := opC_hop (fun _ _ e => by cases e) (fun _ e => by cases e) (fun _ _ _ e => by cases e) K
@[go_sem] theorem opC_del {ag ls m k} (K : AV → Tab → Prop) : @opC P G st (.del ag ls m k) ⟨K⟩ = @bindO (AV × Tab) (hop st.T (evO G st.s) (.del ag ls m k)) ⟨fun p => K p.1 p.2⟩ := opC_hop (fun _ _ e => by cases e) (fun _ e => by cases e) (fun _ _ _ e => by cases e) K
@[go_sem] theorem opC_lenM {m} (K : AV → Tab → Prop) : @opC P G st (.lenM m) ⟨K⟩ = @bindO (AV × Tab) (hop st.T (evO G st.s) (.lenM m)) ⟨fun p => K p.1 p.2⟩ := opC_hop (fun _ _ e => by cases e) (fun _ e => by cases e) (fun _ _ _ e => by cases e) K
@[go_sem] theorem opC_mks {k z bytes x y} (K : AV → Tab → Prop) : @opC P G st (.mks k z bytes x y) ⟨K⟩ = @bindO (AV × Tab) (hop st.T (evO G st.s) (.mks k z bytes x y)) ⟨fun p => K p.1 p.2⟩ := opC_hop (fun _ _ e => by cases e) (fun _ e => by cases e) (fun _ _ _ e => by cases e) K
@[go_sem] theorem opC_s2b {x} (K : AV → Tab → Prop) : @opC P G st (.s2b x) ⟨K⟩ = @bindO (AV × Tab) (hop st.T (evO G st.s) (.s2b x)) ⟨fun p => K p.1 p.2⟩ := opC_hop (fun _ _ e => by cases e) (fun _ e => by cases e) (fun _ _ _ e => by cases e) K
@[go_sem] theorem opC_b2s {x} (K : AV → Tab → Prop) : @opC P G st (.b2s x) ⟨K⟩ = @bindO (AV × Tab) (hop st.T (evO G st.s) (.b2s x)) ⟨fun p => K p.1 p.2⟩ := opC_hop (fun _ _ e => by cases e) (fun _ e => by cases e) (fun _ _ _ e => by cases e) K
@[go_sem] theorem opC_apS {x y} (K : AV → Tab → Prop) : @opC P G st (.apS x y) ⟨K⟩ = @bindO (AV × Tab) (hop st.T (evO G st.s) (.apS x y)) ⟨fun p => K p.1 p.2⟩ := opC_hop (fun _ _ e => by cases e) (fun _ e => by cases e) (fun _ _ _ e => by cases e) K
@[go_sem] theorem opC_bmo {f k cs} (K : AV → Tab → Prop) : @opC P G st (.bmo f k cs) ⟨K⟩ = @bindO (AV × Tab) (hop st.T (evO G st.s) (.bmo f k cs)) ⟨fun p => K p.1 p.2⟩ := opC_hop (fun _ _ e => by cases e) (fun _ e => by cases e) (fun _ _ _ e => by cases e) K
@[go_sem] theorem opC_bad (K : AV → Tab → Prop) : @opC P G st .bad ⟨K⟩ = False := Eq.trans rfl rfl
@[go_sem] theorem opC_rgm {m} (K : AV → Tab → Prop) : @opC P G st (.rgm m) ⟨K⟩ = @bindO (AV × Tab) (hop st.T (evO G st.s) (.rgm m)) ⟨fun p => K p.1 p.2⟩ := opC_hop (fun _ _ e => by cases e) (fun _ e => by cases e) (fun _ _ _ e => by cases e) K
@[go_sem] theorem opC_ent {m} (K : AV → Tab → Prop) : @opC P G st (.ent m) ⟨K⟩ = @bindO (AV × Tab) (hop st.T (evO G st.s) (.ent m)) ⟨fun p => K p.1 p.2⟩ := opC_hop (fun _ _ e => by cases e) (fun _ e => by cases e) (fun _ _ _ e => by cases e) K
@[go_sem] theorem opC_clr {x k z} (K : AV → Tab → Prop) : @opC P G st (.clr x k z) ⟨K⟩ = @bindO (AV × Tab) (hop st.T (evO G st.s) (.clr x k z)) ⟨fun p => K p.1 p.2⟩ := opC_hop (fun _ _ e => by cases e) (fun _ e => by cases e) (fun _ _ _ e => by cases e) K
def nxtC (T : Tab) (x : AV) [c : KT] : Prop := match x with
  | .ptr i 0 => match getT T i with
    | some (.mit none _ _ _) => c.k (.v (.tuple #[.bool false])) T
    | some (.mit (some j) since seen la) => match getT T j with
      | some (.map ag ks vs bs cl) => since ≤ la ∧ (∀ b ∈ bs, b < since) ∧ ((∀ b ∈ bs, b ∈ seen) → c.k (.v (.tuple #[.bool false])) T) ∧
          ∀ (e : Nat) (k : List Value) (v : AV) (b : Nat), ks[e]? = some k → vs[e]? = some v → bs[e]? = some b → b ∉ seen →
            c.k (.tup [.v (.bool true), .v (keyV ag k), v]) (T.set i (some (.mit (some j) since (seen ++ [b]) cl)))
      | _ => False
    | _ => False
  | _ => False
@[go_sem] theorem opC_nxt {p} (K : AV → Tab → Prop) : @opC P G st (.nxt p) ⟨K⟩ = @nxtC st.T (evO G st.s p) ⟨K⟩ := Eq.trans rfl rfl
@[go_sem] theorem opC_slx {x lo hi mx k} (K : AV → Tab → Prop) : @opC P G st (.slx x lo hi mx k) ⟨K⟩ = @bindO (AV × Tab) (hop st.T (evO G st.s) (.slx x lo hi mx k)) ⟨fun p => K p.1 p.2⟩ := opC_hop (fun _ _ e => by cases e) (fun _ e => by cases e) (fun _ _ _ e => by cases e) K
@[go_sem] theorem hdC_done (b : Bool) (K : St → Prop) : @hdC P G (.done b) st ⟨K⟩ = K (if b then gcs [] st else st) := Eq.trans rfl rfl
@[go_sem] theorem hdC_no (K : St → Prop) : @hdC P G .no st ⟨K⟩ = True := Eq.trans rfl rfl
@[go_sem] theorem hdC_q (d : Option Nat) (o : HOp) (n : HD) (K : St → Prop) : @hdC P G (.q ⟨d, o, none⟩ n) st ⟨K⟩ = @bindO (AV × Tab) (hop st.T (evO G st.s) o) ⟨fun p => @hdC P G n ⟨st.r, putO st.s d p.1, st.T⟩ ⟨K⟩⟩ := by
  simp only [hdC, hdW, wants]
  unfold bindO
  cases hop st.T (evO G st.s) o with
  | none => rfl
  | some p => rfl
@[go_sem] theorem hdC_qg (d : Option Nat) (o : HOp) (j : Nat) (b : Bool) (n : HD) (K : St → Prop) :
    @hdC P G (.q ⟨d, o, some (j, b)⟩ n) st ⟨K⟩ = @bindO Bool (wants st.s (some (j, b))) ⟨fun t => @condW t ⟨@bindO (AV × Tab) (hop st.T (evO G st.s) o) ⟨fun p => @hdC P G n ⟨st.r, putO st.s d p.1, st.T⟩ ⟨K⟩⟩⟩ ⟨@hdC P G n ⟨st.r, putO st.s d (.v undef), st.T⟩ ⟨K⟩⟩⟩ := by
  simp only [hdC, hdW]
  unfold bindO
  cases wants st.s (some (j, b)) with
  | none => rfl
  | some t =>
    cases t
    · rfl
    · cases hop st.T (evO G st.s) o with
      | none => rfl
      | some p => rfl
@[go_sem] theorem hdC_alt (d : Option Nat) (o : HOp) (chk : List HOper) (n m : HD) (K : St → Prop) :
    @hdC P G (.alt ⟨d, o, none⟩ chk n m) st ⟨K⟩ = ((@opC P G st o ⟨fun x T => chkW G ⟨st.r, putO st.s d x, T⟩ chk ∧ @hdC P G n ⟨st.r, putO st.s d x, T⟩ ⟨K⟩⟩) ∧ @hdC P G m st ⟨K⟩) := Eq.trans rfl rfl
@[go_sem] theorem hdC_altg (d : Option Nat) (o : HOp) (j : Nat) (b : Bool) (chk : List HOper) (n m : HD) (K : St → Prop) :
    @hdC P G (.alt ⟨d, o, some (j, b)⟩ chk n m) st ⟨K⟩ = ((@bindO Bool (wants st.s (some (j, b))) ⟨fun t => @condW t ⟨@opC P G st o ⟨fun x T => chkW G ⟨st.r, putO st.s d x, T⟩ chk ∧ @hdC P G n ⟨st.r, putO st.s d x, T⟩ ⟨K⟩⟩⟩
      ⟨chkW G ⟨st.r, putO st.s d (.v undef), st.T⟩ chk ∧ @hdC P G n ⟨st.r, putO st.s d (.v undef), st.T⟩ ⟨K⟩⟩⟩) ∧ @hdC P G m st ⟨K⟩) := by
  simp only [hdC, hdW]
  unfold bindO
  cases wants st.s (some (j, b)) with
  | none => rfl
  | some t => cases t <;> rfl
@[go_sem] theorem codeC_skip (Q : Ex → St → Prop) : @codeC P G .skip st ⟨Q⟩ = Q .normal st := Eq.trans rfl rfl
@[go_sem] theorem codeC_reg (l : List HOper) (Q : Ex → St → Prop) : @codeC P G (.reg l) st ⟨Q⟩ = @opsC P G l st ⟨Q .normal⟩ := Eq.trans rfl rfl
@[go_sem] theorem codeC_regd (d : HD) (Q : Ex → St → Prop) : @codeC P G (.regd d) st ⟨Q⟩ = @hdC P G d st ⟨Q .normal⟩ := Eq.trans rfl rfl
@[go_sem] theorem codeC_kill (d : List Nat) (Q : Ex → St → Prop) : @codeC P G (.kill d) st ⟨Q⟩ = Q .normal ⟨st.r, dropS d st.s, st.T⟩ := Eq.trans rfl rfl
@[go_sem] theorem codeC_own (j : Nat) (c : Option Nat) (k : Nat) (Q : Ex → St → Prop) : @codeC P G (.own j c k) st ⟨Q⟩ = Q .normal (ownSt st j c k) := Eq.trans rfl rfl
@[go_sem] theorem codeC_shut (j : Nat) (Q : Ex → St → Prop) : @codeC P G (.shut j) st ⟨Q⟩ = Q .normal (gcs [] (shutSt st j)) := Eq.trans rfl rfl
@[go_sem] theorem codeC_exit (i : Nat) (Q : Ex → St → Prop) : @codeC P G (.exit i) st ⟨Q⟩ = Q (.exit i) st := Eq.trans rfl rfl
@[go_sem] theorem codeC_ret (Q : Ex → St → Prop) : @codeC P G .ret st ⟨Q⟩ = Q .ret st := Eq.trans rfl rfl
def seqQ [c : KC St] [q : QC] : Ex → St → Prop | .normal, s => c.k s | .exit i, s => q.q (.exit i) s | .ret, s => q.q .ret s
@[go_sem] theorem seqQ_n (K : St → Prop) (Q : Ex → St → Prop) (s : St) : @seqQ ⟨K⟩ ⟨Q⟩ .normal s = K s := Eq.trans rfl rfl
@[go_sem] theorem seqQ_e (K : St → Prop) (Q : Ex → St → Prop) (i : Nat) (s : St) : @seqQ ⟨K⟩ ⟨Q⟩ (.exit i) s = Q (.exit i) s := Eq.trans rfl rfl
@[go_sem] theorem seqQ_r (K : St → Prop) (Q : Ex → St → Prop) (s : St) : @seqQ ⟨K⟩ ⟨Q⟩ .ret s = Q .ret s := Eq.trans rfl rfl
@[go_sem] theorem codeC_seq (a b : HC) (Q : Ex → St → Prop) : @codeC P G (.seq a b) st ⟨Q⟩ = @codeC P G a st ⟨@seqQ ⟨fun s => @codeC P G b s ⟨Q⟩⟩ ⟨Q⟩⟩ := by
  simp only [codeC, codeW]
  congr 1
  funext e s
  cases e <;> rfl
def blockQ (id : Nat) [q : QC] : Ex → St → Prop | .normal, s => q.q .normal s | .exit i, s => if i = id then q.q .normal s else q.q (.exit i) s | .ret, s => q.q .ret s
@[go_sem] theorem blockQ_n (id : Nat) (Q : Ex → St → Prop) (s : St) : @blockQ id ⟨Q⟩ .normal s = Q .normal s := Eq.trans rfl rfl
@[go_sem] theorem blockQ_e (id i : Nat) (Q : Ex → St → Prop) (s : St) : @blockQ id ⟨Q⟩ (.exit i) s = if i = id then Q .normal s else Q (.exit i) s := Eq.trans rfl rfl
@[go_sem] theorem blockQ_r (id : Nat) (Q : Ex → St → Prop) (s : St) : @blockQ id ⟨Q⟩ .ret s = Q .ret s := Eq.trans rfl rfl
@[go_sem] theorem codeC_block (id : Nat) (a : HC) (Q : Ex → St → Prop) : @codeC P G (.block id a) st ⟨Q⟩ = @codeC P G a st ⟨@blockQ id ⟨Q⟩⟩ := by
  simp only [codeC, codeW]
  congr 1
  funext e s
  cases e <;> rfl
@[go_sem] theorem codeC_cond (c : Operand) (a b : HC) (Q : Ex → St → Prop) : @codeC P G (.cond c a b) st ⟨Q⟩ = @boolW (evO G st.s c) ⟨fun t => @condW t ⟨@codeC P G a st ⟨Q⟩⟩ ⟨@codeC P G b st ⟨Q⟩⟩⟩ := by
  simp only [codeC, codeW]
  unfold boolW
  split
  · rename_i t h
    rw [h]
    cases t <;> rfl
  · rename_i h
    split
    · rename_i t h'; exact absurd h' (h t)
    · rfl
def loopQ (d : List Nat) [c : KC St] [q : QC] : Ex → St → Prop | .normal, s => c.k (gcs d s) | .exit i, s => q.q (.exit i) s | .ret, s => q.q .ret s
@[go_sem] theorem loopQ_n (d : List Nat) (J : St → Prop) (Q : Ex → St → Prop) (s : St) : @loopQ d ⟨J⟩ ⟨Q⟩ .normal s = J (gcs d s) := Eq.trans rfl rfl
@[go_sem] theorem loopQ_e (d : List Nat) (J : St → Prop) (Q : Ex → St → Prop) (i : Nat) (s : St) : @loopQ d ⟨J⟩ ⟨Q⟩ (.exit i) s = Q (.exit i) s := Eq.trans rfl rfl
@[go_sem] theorem loopQ_r (d : List Nat) (J : St → Prop) (Q : Ex → St → Prop) (s : St) : @loopQ d ⟨J⟩ ⟨Q⟩ .ret s = Q .ret s := Eq.trans rfl rfl
theorem codeC_mono {c : HC} {Q Q' : Ex → St → Prop} {st : St} (h : ∀ e s, Q e s → Q' e s) (hc : @codeC P G c st ⟨Q⟩) : @codeC P G c st ⟨Q'⟩ := codeW_mono h hc
theorem loop_i' {d : List Nat} {a : HC} {Q : Ex → St → Prop} (I : Nat → St → Prop) (n : Nat) (h0 : I n (gcs d st) ∨ I n st) (hr : ∀ n s, I n s → @codeC P G a s ⟨@loopQ d ⟨fun s' => ∃ m, m < n ∧ I m s'⟩ ⟨Q⟩⟩) : @codeC P G (.loop d a) st ⟨Q⟩ := by
  refine ⟨I, ⟨n, h0⟩, fun n s hs => ?_⟩
  have := hr n s hs
  refine codeW_mono (fun e s hq => ?_) this
  cases e with
  | normal => exact ⟨hq.choose, hq.choose_spec.1, .inl hq.choose_spec.2⟩
  | exit i => exact hq
  | ret => exact hq
def loopR [c : KC St] [q : QC] : Ex → St → Prop | .normal, s => c.k s | .exit i, s => q.q (.exit i) s | .ret, s => q.q .ret s
@[go_sem] theorem loopR_n (J : St → Prop) (Q : Ex → St → Prop) (s : St) : @loopR ⟨J⟩ ⟨Q⟩ .normal s = J s := Eq.trans rfl rfl
@[go_sem] theorem loopR_e (J : St → Prop) (Q : Ex → St → Prop) (i : Nat) (s : St) : @loopR ⟨J⟩ ⟨Q⟩ (.exit i) s = Q (.exit i) s := Eq.trans rfl rfl
@[go_sem] theorem loopR_r (J : St → Prop) (Q : Ex → St → Prop) (s : St) : @loopR ⟨J⟩ ⟨Q⟩ .ret s = Q .ret s := Eq.trans rfl rfl
theorem loop_r {d : List Nat} {a : HC} {Q : Ex → St → Prop} (I : Nat → St → Prop) (n : Nat) (h0 : I n st) (hr : ∀ n s, I n s → @codeC P G a s ⟨@loopR ⟨fun s' => ∃ m, m < n ∧ I m s'⟩ ⟨Q⟩⟩) : @codeC P G (.loop d a) st ⟨Q⟩ := by
  refine ⟨I, ⟨n, .inr h0⟩, fun n s hs => ?_⟩
  refine codeW_mono (fun e s hq => ?_) (hr n s hs)
  cases e with
  | normal => exact ⟨hq.choose, hq.choose_spec.1, .inr hq.choose_spec.2⟩
  | exit i => exact hq
  | ret => exact hq
theorem loop_i {d : List Nat} {a : HC} {Q : Ex → St → Prop} (I : Nat → St → Prop) (n : Nat) (h0 : I n (gcs d st)) (hr : ∀ n s, I n s → @codeC P G a s ⟨@loopQ d ⟨fun s' => ∃ m, m < n ∧ I m s'⟩ ⟨Q⟩⟩) : @codeC P G (.loop d a) st ⟨Q⟩ := by
  exact loop_i' I n (.inl h0) hr
theorem loopQ_mono {d : List Nat} {J J' : St → Prop} {Q : Ex → St → Prop} (h : ∀ s, J s → J' s) : ∀ e s, @loopQ d ⟨J⟩ ⟨Q⟩ e s → @loopQ d ⟨J'⟩ ⟨Q⟩ e s := by
  intro e s
  cases e with
  | normal => exact h _
  | exit i => exact id
  | ret => exact id
theorem loop_up {d : List Nat} {a : HC} {Q : Ex → St → Prop} (N : Nat) (S : Nat → St) (J : Nat → Prop) (h0 : gcs d st = S 0) (j0 : J 0) (hr : ∀ i, i < N → J i → @codeC P G a (S i) ⟨@loopQ d ⟨fun s' => s' = S (i + 1) ∧ J (i + 1)⟩ ⟨Q⟩⟩)
    (hl : J N → @codeC P G a (S N) ⟨@loopQ d ⟨fun _ => False⟩ ⟨Q⟩⟩) : @codeC P G (.loop d a) st ⟨Q⟩ := by
  refine loop_i (fun n s => ∃ i, i ≤ N ∧ n = N - i ∧ s = S i ∧ J i) N ⟨0, Nat.zero_le _, by simp, h0, j0⟩ ?_
  rintro n s ⟨i, hi, rfl, rfl, hj⟩
  rcases Nat.lt_or_ge i N with hlt | hge
  · exact codeC_mono (loopQ_mono fun s ⟨h1, h2⟩ => ⟨N - (i + 1), by omega, i + 1, by omega, rfl, h1, h2⟩) (hr i hlt hj)
  · obtain rfl : i = N := by omega
    exact codeC_mono (loopQ_mono fun s h => h.elim) (hl hj)
def rndQ (i : Nat) (r : Loop) (s : List (Nat × AV)) (n : Nat) [c : KT] : Ex → St → Prop
  | .normal, st => c.k (.v (.bool true)) ((gcs [] ⟨n, [], st.T⟩).T.set i (some (.lp r s)))
  | .exit id, st => c.k (.v (.bool false)) ((gcs [] ⟨n, [], st.T⟩).T.set i (some (.lp (left r (.exit id)) s)))
  | .ret, st => c.k (.v (.bool false)) ((gcs [] ⟨n, [], st.T⟩).T.set i (some (.lp (left r .ret) s)))
@[go_sem] theorem rndQ_n (i : Nat) (r : Loop) (s : List (Nat × AV)) (n : Nat) (K : AV → Tab → Prop) (st : St) : @rndQ i r s n ⟨K⟩ .normal st = K (.v (.bool true)) ((gcs [] ⟨n, [], st.T⟩).T.set i (some (.lp r s))) := Eq.trans rfl rfl
@[go_sem] theorem rndQ_e (i : Nat) (r : Loop) (s : List (Nat × AV)) (n : Nat) (K : AV → Tab → Prop) (id : Nat) (st : St) : @rndQ i r s n ⟨K⟩ (.exit id) st = K (.v (.bool false)) ((gcs [] ⟨n, [], st.T⟩).T.set i (some (.lp (left r (.exit id)) s))) := Eq.trans rfl rfl
@[go_sem] theorem rndQ_r (i : Nat) (r : Loop) (s : List (Nat × AV)) (n : Nat) (K : AV → Tab → Prop) (st : St) : @rndQ i r s n ⟨K⟩ .ret st = K (.v (.bool false)) ((gcs [] ⟨n, [], st.T⟩).T.set i (some (.lp (left r .ret) s))) := Eq.trans rfl rfl
def rndR (i : Nat) (r : Loop) (s : List (Nat × AV)) [c : KT] : Ex → St → Prop
  | .normal, st => c.k (.v (.bool true)) (st.T.set i (some (.lp r s)))
  | .exit id, st => c.k (.v (.bool false)) (st.T.set i (some (.lp (left r (.exit id)) s)))
  | .ret, st => c.k (.v (.bool false)) (st.T.set i (some (.lp (left r .ret) s)))
@[go_sem] theorem rndR_n (i : Nat) (r : Loop) (s : List (Nat × AV)) (K : AV → Tab → Prop) (st : St) : @rndR i r s ⟨K⟩ .normal st = K (.v (.bool true)) (st.T.set i (some (.lp r s))) := Eq.trans rfl rfl
@[go_sem] theorem rndR_e (i : Nat) (r : Loop) (s : List (Nat × AV)) (K : AV → Tab → Prop) (id : Nat) (st : St) : @rndR i r s ⟨K⟩ (.exit id) st = K (.v (.bool false)) (st.T.set i (some (.lp (left r (.exit id)) s))) := Eq.trans rfl rfl
@[go_sem] theorem rndR_r (i : Nat) (r : Loop) (s : List (Nat × AV)) (K : AV → Tab → Prop) (st : St) : @rndR i r s ⟨K⟩ .ret st = K (.v (.bool false)) (st.T.set i (some (.lp (left r .ret) s))) := Eq.trans rfl rfl
def rngE (r : Nat) (s : List (Nat × AV)) (n : Nat) (T : Tab) [q : QC] : Prop :=
  match getT T n with
  | some (.lp rec _) => rec.state ≠ .busy ∧ (match rec.pending with
    | none => q.q .normal ⟨r, s, T.set n none⟩
    | some (.exit id) => q.q (.exit id) ⟨r, s, T.set n none⟩
    | some .ret => q.q .ret ⟨r, s, T.set n none⟩
    | _ => False)
  | _ => False
def RndOk (P : Program) (G : Nat → Option (List AV)) (r : Loop) (ps : List Nat) (a b : HC) : Prop :=
  ∀ (i : Nat) (s : List (Nat × AV)) (T : Tab) (args : List AV) (K : AV → Tab → Prop), getT T i = some (.lp r s) → args.length = ps.length →
    (@codeC P G a ⟨T.length, putAll s ps args, T.set i none⟩ ⟨@seqQ ⟨fun s1 => @codeC P G b s1 ⟨@rndQ i r s T.length ⟨K⟩⟩⟩ ⟨fun _ _ => False⟩⟩) → @yldC P G i args T ⟨K⟩
def RndOkR (P : Program) (G : Nat → Option (List AV)) (r : Loop) (ps : List Nat) (a b : HC) : Prop :=
  ∀ (i : Nat) (s : List (Nat × AV)) (T : Tab) (args : List AV) (K : AV → Tab → Prop), getT T i = some (.lp r s) → args.length = ps.length →
    (@codeC P G a ⟨T.length, putAll s ps args, T.set i none⟩ ⟨@seqQ ⟨fun s1 => @codeC P G b s1 ⟨@rndR i r s ⟨K⟩⟩⟩ ⟨fun _ _ => False⟩⟩) → @yldC P G i args T ⟨K⟩
theorem rng_i {g : Operand} {ps d : List Nat} {a b : HC} {Q : Ex → St → Prop} {f : FuncId} {caps : List AV} (hg : evO G st.s g = .cl f caps) (hb : GoBody P f)
    (h : ∀ r : Loop, r.state = .ready → r.pending = none → RndOk P G r ps a b → RndOkR P G r ps a b →
      @callC P G f (.yl st.T.length :: caps) (st.T ++ [some (.lp r (keepS d st.s))]) ⟨fun _ T2 => @rngE st.r st.s st.T.length T2 ⟨Q⟩⟩) : @codeC P G (.rng g ps d a b) st ⟨Q⟩ := by
  show codeW P G (.rng g ps d a b) Q st
  simp only [codeW]
  intro r h1 h2 h3 hy
  rw [hg]
  refine ⟨hb, ?_⟩
  have key : ∀ (R : Nat → Loop → List (Nat × AV) → Nat → (AV → Tab → Prop) → Ex → St → Prop), (∀ i s n K e st, R i r s n K e st → roundQ i r s n K e st) →
      ∀ (i : Nat) (s : List (Nat × AV)) (T : Tab) (args : List AV) (K : AV → Tab → Prop), getT T i = some (.lp r s) → args.length = ps.length →
    (@codeC P G a ⟨T.length, putAll s ps args, T.set i none⟩ ⟨@seqQ ⟨fun s1 => @codeC P G b s1 ⟨R i r s T.length K⟩⟩ ⟨fun _ _ => False⟩⟩) → @yldC P G i args T ⟨K⟩ := by
    intro R hR i s T args K hi hl hc
    refine hy i s T args K hi hl (codeW_mono (fun e s1 hq => ?_) hc)
    cases e with
    | normal => exact codeW_mono (fun e s2 h2 => hR _ _ _ _ _ _ h2) hq
    | exit i => exact hq
    | ret => exact hq
  refine h r h1 h2 (key (fun i r s n K => @rndQ i r s n ⟨K⟩) fun i s n K e st hq => ?_) (key (fun i r s n K => @rndR i r s ⟨K⟩) fun i s n K e st hq => ?_)
  · cases e <;> exact ⟨true, hq⟩
  · cases e <;> exact ⟨false, hq⟩
theorem cut_block {c : HC} {id : Nat} {K : St → Prop} {Q : Ex → St → Prop} (R : St → Prop) (h : @codeC P G c st ⟨@blockQ id ⟨@seqQ ⟨R⟩ ⟨Q⟩⟩⟩) (hr : ∀ s, R s → K s) : @codeC P G c st ⟨@blockQ id ⟨@seqQ ⟨K⟩ ⟨Q⟩⟩⟩ := by
  refine codeC_mono (fun e s hq => ?_) h
  cases e with
  | normal => exact hr s hq
  | exit i =>
    simp only [blockQ] at hq ⊢
    split
    · rename_i e; rw [if_pos e] at hq; exact hr s hq
    · rename_i e; rw [if_neg e] at hq; exact hq
  | ret => exact hq
theorem cut_seq {c : HC} {K : St → Prop} {Q : Ex → St → Prop} (R : St → Prop) (h : @codeC P G c st ⟨@seqQ ⟨R⟩ ⟨Q⟩⟩) (hr : ∀ s, R s → K s) : @codeC P G c st ⟨@seqQ ⟨K⟩ ⟨Q⟩⟩ := by
  refine codeC_mono (fun e s hq => ?_) h
  cases e with
  | normal => exact hr s hq
  | exit i => exact hq
  | ret => exact hq
end
attribute [go_sem] nilE rowsA mkRows okC keepS putAll rngE idsF rnF bkF bkS idsS rnS left hop evO getS putO putS delS dropS initS getT cellsA aggC cutA oneC closedA pbin pun eqC eqV wants bodyG retG bodyF retF resA resE resO elemsA natA byteE reach rounds addN idsA idsL idsM idsO rnA rnL rnT rnO idx gcs sortS insS
  ownSt shutSt shutN shutI slA slL slO slT slS lendA lendL flatA flatL flatO bkA bkL bkO bkT bk keyC exactL findK mapAt layA groups chkW
attribute [go_sem] ne_eq not_false_eq_true not_true_eq_false Option.bind_some Option.bind_none if_true if_false Bool.false_eq_true true_and and_true List.getElem?_cons_zero List.getElem?_cons_succ List.length_cons List.length_nil List.map_cons List.map_nil List.take_succ_cons List.drop_succ_cons List.take_zero List.drop_zero List.take_nil List.drop_nil
  List.cons_append List.nil_append List.append_nil List.all_cons List.all_nil Bool.and_true Bool.and_self Bool.not_true Bool.not_false List.set_cons_zero List.set_cons_succ List.contains_cons List.contains_nil List.map_map Option.map_some Option.map_none
  Int.toNat_natCast Int.natCast_nonneg decide_true decide_false Bool.not_eq_true
@[go_sem] theorem range_0 : List.range 0 = [] := Eq.trans rfl rfl
@[go_sem] theorem range_1 : List.range 1 = [0] := Eq.trans rfl rfl
@[go_sem] theorem range_2 : List.range 2 = [0, 1] := Eq.trans rfl rfl
@[go_sem] theorem range_3 : List.range 3 = [0, 1, 2] := Eq.trans rfl rfl
@[go_sem] theorem range_4 : List.range 4 = [0, 1, 2, 3] := Eq.trans rfl rfl
@[go_sem] theorem range_5 : List.range 5 = [0, 1, 2, 3, 4] := Eq.trans rfl rfl
@[go_sem] theorem range_6 : List.range 6 = [0, 1, 2, 3, 4, 5] := Eq.trans rfl rfl
@[go_sem] theorem range_7 : List.range 7 = [0, 1, 2, 3, 4, 5, 6] := Eq.trans rfl rfl
@[go_sem] theorem range_8 : List.range 8 = [0, 1, 2, 3, 4, 5, 6, 7] := Eq.trans rfl rfl
@[go_sem] theorem range_9 : List.range 9 = [0, 1, 2, 3, 4, 5, 6, 7, 8] := Eq.trans rfl rfl
@[go_sem] theorem range_10 : List.range 10 = [0, 1, 2, 3, 4, 5, 6, 7, 8, 9] := Eq.trans rfl rfl
@[go_sem] theorem range_11 : List.range 11 = [0, 1, 2, 3, 4, 5, 6, 7, 8, 9, 10] := Eq.trans rfl rfl
@[go_sem] theorem range_12 : List.range 12 = [0, 1, 2, 3, 4, 5, 6, 7, 8, 9, 10, 11] := Eq.trans rfl rfl
@[go_sem] theorem range_13 : List.range 13 = [0, 1, 2, 3, 4, 5, 6, 7, 8, 9, 10, 11, 12] := Eq.trans rfl rfl
@[go_sem] theorem range_14 : List.range 14 = [0, 1, 2, 3, 4, 5, 6, 7, 8, 9, 10, 11, 12, 13] := Eq.trans rfl rfl
@[go_sem] theorem range_15 : List.range 15 = [0, 1, 2, 3, 4, 5, 6, 7, 8, 9, 10, 11, 12, 13, 14] := Eq.trans rfl rfl
@[go_sem] theorem range_16 : List.range 16 = [0, 1, 2, 3, 4, 5, 6, 7, 8, 9, 10, 11, 12, 13, 14, 15] := Eq.trans rfl rfl
@[go_sem] theorem beqT (b : Bool) : (b == true) = b := by cases b <;> rfl
@[go_sem] theorem beqF (b : Bool) : (b == false) = !b := by cases b <;> rfl
attribute [go_sem] Bool.not_not bne_self_eq_false beq_self_eq_true
attribute [go_sem] Nat.min_self List.length_map List.length_append List.length_take List.length_drop Nat.zero_add Nat.add_zero Nat.sub_zero Nat.le_refl Nat.zero_le List.length_range List.length_set List.map_append
attribute [go_sem] List.getD_cons_zero List.getD_cons_succ List.getD_nil
attribute [go_sem] Bool.or_false Bool.or_true Bool.true_or Bool.false_or List.idxOf?_cons List.idxOf?_nil List.findIdx?_cons List.findIdx?_nil List.filter_cons List.filter_nil
@[go_sem] theorem cast_0 : ((0 : Nat) : Int) = 0 := Eq.trans rfl rfl
@[go_sem] theorem cast_1 : ((1 : Nat) : Int) = 1 := Eq.trans rfl rfl
@[go_sem] theorem cast_2 : ((2 : Nat) : Int) = 2 := Eq.trans rfl rfl
@[go_sem] theorem cast_3 : ((3 : Nat) : Int) = 3 := Eq.trans rfl rfl
@[go_sem] theorem cast_4 : ((4 : Nat) : Int) = 4 := Eq.trans rfl rfl
@[go_sem] theorem cast_5 : ((5 : Nat) : Int) = 5 := Eq.trans rfl rfl
@[go_sem] theorem cast_6 : ((6 : Nat) : Int) = 6 := Eq.trans rfl rfl
@[go_sem] theorem cast_7 : ((7 : Nat) : Int) = 7 := Eq.trans rfl rfl
@[go_sem] theorem cast_8 : ((8 : Nat) : Int) = 8 := Eq.trans rfl rfl
@[go_sem] theorem cast_9 : ((9 : Nat) : Int) = 9 := Eq.trans rfl rfl
@[go_sem] theorem cast_10 : ((10 : Nat) : Int) = 10 := Eq.trans rfl rfl
@[go_sem] theorem cast_11 : ((11 : Nat) : Int) = 11 := Eq.trans rfl rfl
@[go_sem] theorem cast_12 : ((12 : Nat) : Int) = 12 := Eq.trans rfl rfl
@[go_sem] theorem cast_13 : ((13 : Nat) : Int) = 13 := Eq.trans rfl rfl
@[go_sem] theorem cast_14 : ((14 : Nat) : Int) = 14 := Eq.trans rfl rfl
@[go_sem] theorem cast_15 : ((15 : Nat) : Int) = 15 := Eq.trans rfl rfl
@[go_sem] theorem cast_16 : ((16 : Nat) : Int) = 16 := Eq.trans rfl rfl
@[go_sem] theorem cast_17 : ((17 : Nat) : Int) = 17 := Eq.trans rfl rfl
@[go_sem] theorem cast_18 : ((18 : Nat) : Int) = 18 := Eq.trans rfl rfl
@[go_sem] theorem cast_19 : ((19 : Nat) : Int) = 19 := Eq.trans rfl rfl
@[go_sem] theorem cast_20 : ((20 : Nat) : Int) = 20 := Eq.trans rfl rfl
@[go_sem] theorem cast_21 : ((21 : Nat) : Int) = 21 := Eq.trans rfl rfl
@[go_sem] theorem cast_22 : ((22 : Nat) : Int) = 22 := Eq.trans rfl rfl
@[go_sem] theorem cast_23 : ((23 : Nat) : Int) = 23 := Eq.trans rfl rfl
@[go_sem] theorem cast_24 : ((24 : Nat) : Int) = 24 := Eq.trans rfl rfl
@[go_sem] theorem cast_25 : ((25 : Nat) : Int) = 25 := Eq.trans rfl rfl
@[go_sem] theorem cast_26 : ((26 : Nat) : Int) = 26 := Eq.trans rfl rfl
@[go_sem] theorem cast_27 : ((27 : Nat) : Int) = 27 := Eq.trans rfl rfl
@[go_sem] theorem cast_28 : ((28 : Nat) : Int) = 28 := Eq.trans rfl rfl
@[go_sem] theorem cast_29 : ((29 : Nat) : Int) = 29 := Eq.trans rfl rfl
@[go_sem] theorem cast_30 : ((30 : Nat) : Int) = 30 := Eq.trans rfl rfl
@[go_sem] theorem cast_31 : ((31 : Nat) : Int) = 31 := Eq.trans rfl rfl
@[go_sem] theorem cast_32 : ((32 : Nat) : Int) = 32 := Eq.trans rfl rfl
@[go_sem] theorem pick_and (t a : Bool) : (if t = true then AV.v (.bool a) else AV.v (.bool false)) = AV.v (.bool (t && a)) := by cases t <;> rfl
@[go_sem] theorem pick_or (t b : Bool) : (if t = true then AV.v (.bool true) else AV.v (.bool b)) = AV.v (.bool (t || b)) := by cases t <;> rfl
attribute [go_sem] Bool.and_true Bool.true_and Bool.false_and Bool.and_false
attribute [go_sem] reduceCtorEq Nat.reduceEqDiff Nat.reduceBEq Nat.reduceAdd Nat.reduceSub Nat.reduceMul Nat.reduceLT Nat.reduceLeDiff Int.reduceEq Int.reduceLT Int.reduceLE Int.reduceToNat Int.reduceNeg Int.reduceBEq Int.reduceMul Int.reduceAdd Int.reduceSub
end Hud
end
section
namespace Hud
open Go
abbrev n_l30_ReconOwn : Nat := 7
abbrev n_r30_Names : Nat := 8
abbrev n_recon_Diff : Nat := 10
abbrev n_r11_SameIDs : Nat := 11
abbrev n_l30_lives : Nat := 14
abbrev n_r11_HasID : Nat := 15
abbrev n_r01_Around : Nat := 17
abbrev n_op_Less : Nat := 18
abbrev n_recon_without : Nat := 19
abbrev n_recon_elems : Nat := 20
abbrev n_recon_tries : Nat := 21
abbrev n_sketch_Diff : Nat := 22
abbrev n_sketch_Of : Nat := 23
abbrev n_slices_Equal_Luint64_uint64 : Nat := 24
abbrev n_cmp_Or_int : Nat := 29
abbrev n_cmp_Compare_int : Nat := 30
abbrev n_cmp_Compare_uint64 : Nat := 31
abbrev n_recon_sorted : Nat := 32
abbrev n_slices_DeleteFunc_Lapi_Ident_api_Ident : Nat := 33
abbrev n_slices_Clone_Lapi_Ident_api_Ident : Nat := 34
abbrev n_recon_without_1 : Nat := 35
abbrev n_slices_Contains_Lapi_Ident_api_Ident : Nat := 36
abbrev n_sketch_Elem : Nat := 37
abbrev n_slices_Sort_Luint64_uint64 : Nat := 38
abbrev n_slices_Compact_Luint64_uint64 : Nat := 39
abbrev n_recon_tries_1 : Nat := 40
abbrev n_sketch_equation : Nat := 41
abbrev n_sketch_solve : Nat := 42
abbrev n_slices_Clone_Luint64_uint64 : Nat := 43
abbrev n_poly_Gcd : Nat := 44
abbrev n_poly_DivMod : Nat := 45
abbrev n_sketch_elements : Nat := 46
abbrev n_sketch_fit : Nat := 47
abbrev n_field_Mul : Nat := 48
abbrev n_field_Sub : Nat := 49
abbrev n_sketch_point : Nat := 50
abbrev n_cmp_isNaN_int : Nat := 58
abbrev n_cmp_isNaN_uint64 : Nat := 59
abbrev n_slices_SortFunc_Lapi_Ident_api_Ident : Nat := 60
abbrev n_recon_sorted_1 : Nat := 61
abbrev n_slices_IndexFunc_Lapi_Ident_api_Ident : Nat := 62
abbrev n_slices_Index_Lapi_Ident_api_Ident : Nat := 63
abbrev n_hash_Of : Nat := 64
abbrev n_slices_pdqsortOrdered_uint64 : Nat := 65
abbrev n_math_bits_Len : Nat := 66
abbrev n_field_Neg : Nat := 67
abbrev n_field_Add : Nat := 68
abbrev n_sketch_solve_1 : Nat := 69
abbrev n_field_Inv : Nat := 70
abbrev n_poly_Trim : Nat := 71
abbrev n_poly_monic : Nat := 72
abbrev n_poly_trim : Nat := 73
abbrev n_poly_Roots : Nat := 74
abbrev n_slices_ContainsFunc_Luint64_uint64 : Nat := 75
abbrev n_sketch_elements_1 : Nat := 76
abbrev n_math_bits_Mul64 : Nat := 77
abbrev n_field_Num : Nat := 78
abbrev n_hash_words : Nat := 82
abbrev n_hash_state_take : Nat := 83
abbrev n_slices_insertionSortOrdered_uint64 : Nat := 84
abbrev n_slices_heapSortOrdered_uint64 : Nat := 85
abbrev n_slices_breakPatternsOrdered_uint64 : Nat := 86
abbrev n_slices_choosePivotOrdered_uint64 : Nat := 87
abbrev n_slices_reverseRangeOrdered_uint64 : Nat := 88
abbrev n_slices_partialInsertionSortOrdered_uint64 : Nat := 89
abbrev n_cmp_Less_uint64 : Nat := 90
abbrev n_slices_partitionEqualOrdered_uint64 : Nat := 91
abbrev n_slices_partitionOrdered_uint64 : Nat := 92
abbrev n_math_bits_Len32 : Nat := 93
abbrev n_math_bits_Len64 : Nat := 94
abbrev n_field_Pow : Nat := 95
abbrev n_poly_each_uint64_uint64 : Nat := 96
abbrev n_poly_Trim_1 : Nat := 97
abbrev n_poly_monic_1 : Nat := 98
abbrev n_poly_Add : Nat := 99
abbrev n_poly_power : Nat := 100
abbrev n_poly_Roots_1 : Nat := 101
abbrev n_slices_IndexFunc_Luint64_uint64 : Nat := 102
abbrev n_hash_words_1 : Nat := 114
abbrev n_slices_Chunk_Lbyte_byte : Nat := 115
abbrev n_slices_siftDownOrdered_uint64 : Nat := 116
abbrev n_slices_nextPowerOfTwo : Nat := 117
abbrev n_slices_xorshift_Next : Nat := 118
abbrev n_slices_medianAdjacentOrdered_uint64 : Nat := 119
abbrev n_slices_medianOrdered_uint64 : Nat := 120
abbrev n_field_squares : Nat := 121
abbrev n_poly_Add_1 : Nat := 122
abbrev n_poly_Mul : Nat := 123
abbrev n_slices_Chunk_Lbyte_byte_1 : Nat := 127
abbrev n_slices_order2Ordered_uint64 : Nat := 128
abbrev n_field_squares_1 : Nat := 129
end Hud
end
section
namespace Hud
open Go
def h_r30_Names : HFun := ⟨46, [(4, none)],
  .seq (.seq (.reg [⟨some 4, .mov (.const (.slice none 0 0)), none⟩]) (.kill [4])) (.seq (.seq (.reg [⟨some 5, .mov (.const (.slice none 0 0)), none⟩]) (.own 5 none 3)) (.seq (.seq (.reg [⟨some 6, .mov (.const (.int .i64 0)), none⟩]) (.block 0 (.loop [] (.seq (.seq (.seq (.reg [⟨some 9, .mov (.tmp 6), none⟩, ⟨some 10, .mov (.tmp 0), none⟩, ⟨some 11, .lenL (.tmp 10), none⟩, ⟨some 12, .bin .lss (.tmp 9) (.tmp 11), none⟩, ⟨some 13, .mov (.tmp 12), none⟩, ⟨some 14, .mov (.tmp 6), some (13, true)⟩, ⟨some 15, .mov (.tmp 1), some (13, true)⟩, ⟨some 16, .bin .lss (.tmp 14) (.tmp 15), some (13, true)⟩, ⟨some 17, .pick (.tmp 13) (.tmp 16) (.const (.bool false)), none⟩]) (.kill [16, 15, 14, 13, 12, 11, 10, 9])) (.cond (.tmp 17) (.seq (.kill [17]) .skip) (.seq (.kill [0, 6, 1, 17]) (.exit 0)))) (.seq (.block 1 (.seq (.seq (.reg [⟨some 20, .mov (.tmp 0), none⟩, ⟨some 21, .mov (.tmp 6), none⟩, ⟨some 22, .iad (.tmp 20) (.tmp 21) 1, none⟩, ⟨some 23, .ld none (.tmp 22), none⟩, ⟨some 24, .call (.func n_r01_Around) [.tmp 23, .const (.int .i64 1000)], none⟩, ⟨some 7, .mov (.tmp 24), none⟩]) (.kill [24, 23, 22, 21, 20])) (.seq (.seq (.reg [⟨some 25, .mov (.tmp 7), none⟩, ⟨some 26, .bin .rem (.tmp 25) (.const (.int .i64 4)), none⟩, ⟨some 27, .bin .add (.const (.int .i64 1)) (.tmp 26), none⟩, ⟨some 28, .mov (.tmp 7), none⟩, ⟨some 29, .bin .quo (.tmp 28) (.const (.int .i64 4)), none⟩, ⟨some 30, .bin .rem (.tmp 29) (.const (.int .i64 9)), none⟩, ⟨some 31, .bin .add (.const (.int .i64 1)) (.tmp 30), none⟩, ⟨some 32, .mov (.tmp 7), none⟩, ⟨some 33, .bin .quo (.tmp 32) (.const (.int .i64 36)), none⟩, ⟨some 34, .bin .rem (.tmp 33) (.const (.int .i64 3)), none⟩, ⟨some 35, .conv .u64 (.tmp 34), none⟩, ⟨some 36, .bld [.int .i64 0, .int .i64 0, .int .u64 0] [(0, (1, .tmp 27)), (1, (1, .tmp 31)), (2, (1, .tmp 35))], none⟩, ⟨some 8, .alloc [.int .i64 0, .int .i64 0, .int .u64 0], none⟩, ⟨none, .st 3 (.tmp 8) (.tmp 36), none⟩]) (.kill [7, 36, 35, 34, 33, 32, 31, 30, 29, 28, 27, 26, 25])) (.seq (.seq (.reg [⟨some 37, .mov (.tmp 5), none⟩, ⟨some 38, .ld (some 3) (.tmp 8), none⟩, ⟨some 39, .call (.func n_r11_HasID) [.tmp 37, .tmp 38], none⟩, ⟨some 40, .un .not (.tmp 39), none⟩]) (.kill [39, 38, 37])) (.cond (.tmp 40) (.seq (.kill [40]) (.seq (.seq (.reg [⟨some 41, .mov (.tmp 5), none⟩, ⟨some 42, .ld (some 3) (.tmp 8), none⟩, ⟨some 43, .bsl 3 [.int .i64 0, .int .i64 0, .int .u64 0] [(0, (3, .tmp 42))] 1, none⟩, ⟨some 44, .app (.tmp 41) (.tmp 43) 3 24, none⟩, ⟨some 5, .mov (.tmp 44), none⟩]) (.kill [8, 44, 43, 42, 41])) (.own 5 none 3))) (.seq (.kill [8, 40]) .skip)))))) (.seq (.reg [⟨some 18, .mov (.tmp 6), none⟩, ⟨some 19, .bin .add (.tmp 18) (.const (.int .i64 1)), none⟩, ⟨some 6, .mov (.tmp 19), none⟩]) (.kill [19, 18]))))))) (.seq (.seq (.seq (.reg [⟨some 45, .mov (.tmp 5), none⟩, ⟨some 4, .mov (.tmp 45), none⟩]) (.kill [5, 45])) (.own 4 none 3)) .ret)))⟩
theorem h_r30_Names_ok : compFunH Go.Proofs.Tryz.prog n_r30_Names [(4, none, 3), (5, none, 3)] = some h_r30_Names := by kernel_rfl
def h_recon_Diff : HFun := ⟨56, [(4, some none), (5, some none), (6, some none)],
  .seq (.reg [⟨some 4, .alloc [.slice none 0 0], none⟩, ⟨some 5, .alloc [.slice none 0 0], none⟩, ⟨some 6, .alloc [.int .i64 0], none⟩]) (.seq (.seq (.reg [⟨some 13, .mov (.tmp 0), none⟩, ⟨some 14, .mov (.tmp 1), none⟩, ⟨some 15, .call (.func n_recon_without) [.tmp 13, .tmp 14], none⟩, ⟨some 16, .mov (.tmp 1), none⟩, ⟨some 17, .mov (.tmp 0), none⟩, ⟨some 18, .call (.func n_recon_without) [.tmp 16, .tmp 17], none⟩, ⟨none, .st 1 (.tmp 4) (.tmp 15), none⟩, ⟨none, .st 1 (.tmp 5) (.tmp 18), none⟩]) (.kill [18, 17, 16, 15, 14, 13])) (.seq (.seq (.reg [⟨some 19, .mov (.tmp 0), none⟩, ⟨some 20, .call (.func n_recon_elems) [.tmp 19], none⟩, ⟨some 21, .mov (.tmp 1), none⟩, ⟨some 22, .call (.func n_recon_elems) [.tmp 21], none⟩, ⟨some 7, .alloc [.slice none 0 0], none⟩, ⟨some 8, .alloc [.slice none 0 0], none⟩, ⟨none, .st 1 (.tmp 7) (.tmp 20), none⟩, ⟨none, .st 1 (.tmp 8) (.tmp 22), none⟩]) (.kill [0, 1, 22, 21, 20, 19])) (.seq (.seq (.reg [⟨some 23, .call (.func n_recon_tries) [], none⟩]) (.block 0 (.rng (.tmp 23) [24] [6, 4, 5, 8, 7] (.seq (.reg [⟨some 9, .mov (.tmp 24), none⟩]) (.kill [24])) (.block 1 (.seq (.seq (.reg [⟨some 25, .ld none (.tmp 6), none⟩, ⟨some 26, .mov (.tmp 9), none⟩, ⟨some 27, .bin .add (.tmp 25) (.tmp 26), none⟩, ⟨none, .st 1 (.tmp 6) (.tmp 27), none⟩]) (.kill [6, 27, 26, 25])) (.seq (.seq (.regd (.q ⟨some 29, .ld none (.tmp 7), none⟩ (.q ⟨some 30, .mov (.tmp 9), none⟩ (.q ⟨some 32, .ld none (.tmp 8), none⟩ (.q ⟨some 33, .mov (.tmp 9), none⟩ (.alt ⟨some 31, .call (.func n_sketch_Of) [.tmp 29, .tmp 30], none⟩ [⟨some 33, .mov (.tmp 9), none⟩, ⟨some 32, .ld none (.tmp 8), none⟩] (.alt ⟨some 34, .call (.func n_sketch_Of) [.tmp 32, .tmp 33], none⟩ [] (.alt ⟨some 35, .call (.func n_sketch_Diff) [.tmp 31, .tmp 34], none⟩ [] (.q ⟨some 28, .mov (.tmp 35), none⟩ (.q ⟨some 36, .ext (.tmp 28) 0, none⟩ (.q ⟨some 37, .ext (.tmp 28) 1, none⟩ (.q ⟨some 38, .ext (.tmp 28) 2, none⟩ (.q ⟨some 10, .mov (.tmp 36), none⟩ (.q ⟨some 11, .mov (.tmp 37), none⟩ (.q ⟨some 12, .mov (.tmp 38), none⟩ (.done false)))))))) .no) .no) .no)))))) (.kill [7, 9, 8, 38, 37, 36, 28, 35, 34, 33, 32, 31, 30, 29])) (.seq (.seq (.reg [⟨some 39, .mov (.tmp 12), none⟩, ⟨some 40, .bin .eql (.tmp 39) (.const (.int .i64 0)), none⟩, ⟨some 41, .mov (.tmp 40), none⟩, ⟨some 42, .mov (.tmp 10), some (41, true)⟩, ⟨some 43, .ld none (.tmp 4), some (41, true)⟩, ⟨some 44, .call (.func n_recon_elems) [.tmp 43], some (41, true)⟩, ⟨some 45, .call (.func n_slices_Equal_Luint64_uint64) [.tmp 42, .tmp 44], some (41, true)⟩, ⟨some 46, .pick (.tmp 41) (.tmp 45) (.const (.bool false)), none⟩, ⟨some 47, .mov (.tmp 46), none⟩, ⟨some 48, .mov (.tmp 11), some (47, true)⟩, ⟨some 49, .ld none (.tmp 5), some (47, true)⟩, ⟨some 50, .call (.func n_recon_elems) [.tmp 49], some (47, true)⟩, ⟨some 51, .call (.func n_slices_Equal_Luint64_uint64) [.tmp 48, .tmp 50], some (47, true)⟩, ⟨some 52, .pick (.tmp 47) (.tmp 51) (.const (.bool false)), none⟩]) (.kill [12, 10, 4, 11, 5, 51, 50, 49, 48, 47, 46, 45, 44, 43, 42, 41, 40, 39])) (.cond (.tmp 52) (.seq (.kill [52]) (.exit 0)) (.seq (.kill [52]) .skip))))))))) (.seq (.seq (.regd (.q ⟨some 53, .ld none (.tmp 4), none⟩ (.q ⟨some 54, .ld none (.tmp 5), none⟩ (.q ⟨some 55, .ld none (.tmp 6), none⟩ (.alt ⟨none, .st 1 (.tmp 4) (.tmp 53), none⟩ [⟨some 55, .ld none (.tmp 6), none⟩, ⟨some 54, .ld none (.tmp 5), none⟩] (.alt ⟨none, .st 1 (.tmp 5) (.tmp 54), none⟩ [⟨some 55, .ld none (.tmp 6), none⟩] (.alt ⟨none, .st 1 (.tmp 6) (.tmp 55), none⟩ [] (.done false) .no) .no) .no))))) (.kill [55, 54, 53])) .ret))))⟩
theorem h_recon_Diff_ok : compFunH Go.Proofs.Tryz.prog n_recon_Diff [] = some h_recon_Diff := by kernel_rfl
def h_r11_SameIDs : HFun := ⟨26, [(4, none)],
  .seq (.seq (.reg [⟨some 4, .mov (.const (.bool false)), none⟩]) (.kill [4])) (.seq (.seq (.seq (.reg [⟨some 6, .mov (.tmp 0), none⟩, ⟨some 7, .lenL (.tmp 6), none⟩, ⟨some 8, .mov (.tmp 1), none⟩, ⟨some 9, .lenL (.tmp 8), none⟩, ⟨some 10, .bin .neq (.tmp 7) (.tmp 9), none⟩]) (.kill [9, 8, 7, 6])) (.cond (.tmp 10) (.seq (.kill [1, 0, 10]) (.seq (.reg [⟨some 4, .mov (.const (.bool false)), none⟩]) .ret)) (.seq (.kill [10]) .skip))) (.seq (.seq (.reg [⟨some 5, .mov (.const (.int .i64 0)), none⟩]) (.block 0 (.loop [] (.seq (.seq (.seq (.reg [⟨some 11, .mov (.tmp 5), none⟩, ⟨some 12, .mov (.tmp 0), none⟩, ⟨some 13, .lenL (.tmp 12), none⟩, ⟨some 14, .bin .lss (.tmp 11) (.tmp 13), none⟩]) (.kill [13, 12, 11])) (.cond (.tmp 14) (.seq (.kill [14]) .skip) (.seq (.kill [0, 5, 1, 14]) (.exit 0)))) (.seq (.block 1 (.seq (.seq (.regd (.q ⟨some 17, .mov (.tmp 0), none⟩ (.q ⟨some 18, .mov (.tmp 5), none⟩ (.q ⟨some 19, .iad (.tmp 17) (.tmp 18) 3, none⟩ (.q ⟨some 20, .ld (some 3) (.tmp 19), none⟩ (.q ⟨some 21, .mov (.tmp 1), none⟩ (.q ⟨some 22, .mov (.tmp 5), none⟩ (.q ⟨some 23, .iad (.tmp 21) (.tmp 22) 3, none⟩ (.q ⟨some 24, .ld (some 3) (.tmp 23), none⟩ (.q ⟨some 25, .eqa true [.int .i64, .int .i64, .int .u64] (.tmp 20) (.tmp 24), none⟩ (.done false))))))))))) (.kill [24, 23, 22, 21, 20, 19, 18, 17])) (.cond (.tmp 25) (.seq (.kill [5, 1, 0, 25]) (.seq (.reg [⟨some 4, .mov (.const (.bool false)), none⟩]) .ret)) (.seq (.kill [25]) .skip)))) (.seq (.reg [⟨some 15, .mov (.tmp 5), none⟩, ⟨some 16, .bin .add (.tmp 15) (.const (.int .i64 1)), none⟩, ⟨some 5, .mov (.tmp 16), none⟩]) (.kill [16, 15]))))))) (.seq (.reg [⟨some 4, .mov (.const (.bool true)), none⟩]) .ret)))⟩
theorem h_r11_SameIDs_ok : compFunH Go.Proofs.Tryz.prog n_r11_SameIDs [] = some h_r11_SameIDs := by kernel_rfl
def h_l30_lives : HFun := ⟨59, [(0, none)],
  .seq (.seq (.reg [⟨some 0, .mov (.const (.bool false)), none⟩]) (.kill [0])) (.seq (.seq (.reg [⟨some 9, .bld [.int .i64 0, .int .i64 0, .int .u64 0] [(0, (1, .const (.int .i64 1))), (1, (1, .const (.int .i64 1))), (2, (1, .const (.int .u64 5)))], none⟩, ⟨some 1, .alloc [.int .i64 0, .int .i64 0, .int .u64 0], none⟩, ⟨none, .st 3 (.tmp 1) (.tmp 9), none⟩]) (.kill [9])) (.seq (.seq (.reg [⟨some 10, .bld [.int .i64 0, .int .i64 0, .int .u64 0] [(0, (1, .const (.int .i64 2))), (1, (1, .const (.int .i64 1))), (2, (1, .const (.int .u64 6)))], none⟩, ⟨some 2, .alloc [.int .i64 0, .int .i64 0, .int .u64 0], none⟩, ⟨none, .st 3 (.tmp 2) (.tmp 10), none⟩]) (.kill [10])) (.seq (.seq (.reg [⟨some 12, .ld (some 3) (.tmp 1), none⟩, ⟨some 13, .ld (some 3) (.tmp 2), none⟩, ⟨some 14, .bsl 3 [.int .i64 0, .int .i64 0, .int .u64 0, .int .i64 0, .int .i64 0, .int .u64 0] [(0, (3, .tmp 12)), (3, (3, .tmp 13))] 2, none⟩, ⟨some 15, .ld (some 3) (.tmp 2), none⟩, ⟨some 16, .ld (some 3) (.tmp 1), none⟩, ⟨some 17, .bsl 3 [.int .i64 0, .int .i64 0, .int .u64 0, .int .i64 0, .int .i64 0, .int .u64 0] [(0, (3, .tmp 15)), (3, (3, .tmp 16))] 2, none⟩, ⟨some 18, .call (.func n_recon_Diff) [.tmp 14, .tmp 17], none⟩, ⟨some 11, .mov (.tmp 18), none⟩, ⟨some 19, .ext (.tmp 11) 0, none⟩, ⟨some 20, .ext (.tmp 11) 1, none⟩, ⟨some 21, .ext (.tmp 11) 2, none⟩, ⟨some 3, .mov (.tmp 19), none⟩, ⟨some 4, .mov (.tmp 20), none⟩, ⟨some 5, .mov (.tmp 21), none⟩]) (.kill [21, 20, 19, 11, 18, 17, 16, 15, 14, 13, 12])) (.seq (.seq (.reg [⟨some 23, .ld (some 3) (.tmp 1), none⟩, ⟨some 24, .ld (some 3) (.tmp 2), none⟩, ⟨some 25, .bsl 3 [.int .i64 0, .int .i64 0, .int .u64 0, .int .i64 0, .int .i64 0, .int .u64 0] [(0, (3, .tmp 23)), (3, (3, .tmp 24))] 2, none⟩, ⟨some 26, .ld (some 3) (.tmp 2), none⟩, ⟨some 27, .bsl 3 [.int .i64 0, .int .i64 0, .int .u64 0] [(0, (3, .tmp 26))] 1, none⟩, ⟨some 28, .call (.func n_recon_Diff) [.tmp 25, .tmp 27], none⟩, ⟨some 22, .mov (.tmp 28), none⟩, ⟨some 29, .ext (.tmp 22) 0, none⟩, ⟨some 30, .ext (.tmp 22) 1, none⟩, ⟨some 31, .ext (.tmp 22) 2, none⟩, ⟨some 6, .mov (.tmp 29), none⟩, ⟨some 7, .mov (.tmp 30), none⟩, ⟨some 8, .mov (.tmp 31), none⟩]) (.kill [2, 31, 30, 29, 22, 28, 27, 26, 25, 24, 23])) (.seq (.seq (.reg [⟨some 32, .mov (.tmp 3), none⟩, ⟨some 33, .lenL (.tmp 32), none⟩, ⟨some 34, .bin .eql (.tmp 33) (.const (.int .i64 0)), none⟩, ⟨some 35, .mov (.tmp 34), none⟩, ⟨some 36, .mov (.tmp 4), some (35, true)⟩, ⟨some 37, .lenL (.tmp 36), some (35, true)⟩, ⟨some 38, .bin .eql (.tmp 37) (.const (.int .i64 0)), some (35, true)⟩, ⟨some 39, .pick (.tmp 35) (.tmp 38) (.const (.bool false)), none⟩, ⟨some 40, .mov (.tmp 39), none⟩, ⟨some 41, .mov (.tmp 5), some (40, true)⟩, ⟨some 42, .bin .eql (.tmp 41) (.const (.int .i64 4)), some (40, true)⟩, ⟨some 43, .pick (.tmp 40) (.tmp 42) (.const (.bool false)), none⟩, ⟨some 44, .mov (.tmp 43), none⟩, ⟨some 45, .mov (.tmp 6), some (44, true)⟩, ⟨some 46, .ld (some 3) (.tmp 1), some (44, true)⟩, ⟨some 47, .bsl 3 [.int .i64 0, .int .i64 0, .int .u64 0] [(0, (3, .tmp 46))] 1, some (44, true)⟩, ⟨some 48, .call (.func n_r11_SameIDs) [.tmp 45, .tmp 47], some (44, true)⟩, ⟨some 49, .pick (.tmp 44) (.tmp 48) (.const (.bool false)), none⟩, ⟨some 50, .mov (.tmp 49), none⟩, ⟨some 51, .mov (.tmp 7), some (50, true)⟩, ⟨some 52, .lenL (.tmp 51), some (50, true)⟩, ⟨some 53, .bin .eql (.tmp 52) (.const (.int .i64 0)), some (50, true)⟩, ⟨some 54, .pick (.tmp 50) (.tmp 53) (.const (.bool false)), none⟩, ⟨some 55, .mov (.tmp 54), none⟩, ⟨some 56, .mov (.tmp 8), some (55, true)⟩, ⟨some 57, .bin .eql (.tmp 56) (.const (.int .i64 4)), some (55, true)⟩, ⟨some 58, .pick (.tmp 55) (.tmp 57) (.const (.bool false)), none⟩, ⟨some 0, .mov (.tmp 58), none⟩]) (.kill [3, 4, 5, 6, 1, 7, 8, 58, 57, 56, 55, 54, 53, 52, 51, 50, 49, 48, 47, 46, 45, 44, 43, 42, 41, 40, 39, 38, 37, 36, 35, 34, 33, 32])) .ret)))))⟩
theorem h_l30_lives_ok : compFunH Go.Proofs.Tryz.prog n_l30_lives [] = some h_l30_lives := by kernel_rfl
def h_r11_HasID : HFun := ⟨18, [(4, none)],
  .seq (.seq (.reg [⟨some 3, .box (.tmp 1), none⟩, ⟨some 4, .mov (.const (.bool false)), none⟩]) (.kill [1, 4])) (.seq (.seq (.reg [⟨some 5, .mov (.const (.int .i64 0)), none⟩]) (.block 0 (.loop [] (.seq (.seq (.seq (.reg [⟨some 6, .mov (.tmp 5), none⟩, ⟨some 7, .mov (.tmp 0), none⟩, ⟨some 8, .lenL (.tmp 7), none⟩, ⟨some 9, .bin .lss (.tmp 6) (.tmp 8), none⟩]) (.kill [8, 7, 6])) (.cond (.tmp 9) (.seq (.kill [9]) .skip) (.seq (.kill [0, 5, 3, 9]) (.exit 0)))) (.seq (.block 1 (.seq (.seq (.regd (.q ⟨some 12, .mov (.tmp 0), none⟩ (.q ⟨some 13, .mov (.tmp 5), none⟩ (.q ⟨some 14, .iad (.tmp 12) (.tmp 13) 3, none⟩ (.q ⟨some 15, .ld (some 3) (.tmp 14), none⟩ (.q ⟨some 16, .ld (some 3) (.tmp 3), none⟩ (.q ⟨some 17, .eqa false [.int .i64, .int .i64, .int .u64] (.tmp 15) (.tmp 16), none⟩ (.done false)))))))) (.kill [16, 15, 14, 13, 12])) (.cond (.tmp 17) (.seq (.kill [5, 3, 0, 17]) (.seq (.reg [⟨some 4, .mov (.const (.bool true)), none⟩]) .ret)) (.seq (.kill [17]) .skip)))) (.seq (.reg [⟨some 10, .mov (.tmp 5), none⟩, ⟨some 11, .bin .add (.tmp 10) (.const (.int .i64 1)), none⟩, ⟨some 5, .mov (.tmp 11), none⟩]) (.kill [11, 10]))))))) (.seq (.reg [⟨some 4, .mov (.const (.bool false)), none⟩]) .ret))⟩
theorem h_r11_HasID_ok : compFunH Go.Proofs.Tryz.prog n_r11_HasID [] = some h_r11_HasID := by kernel_rfl
def h_op_Less : HFun := ⟨23, [(4, none)],
  .seq (.seq (.reg [⟨some 2, .box (.tmp 0), none⟩, ⟨some 3, .box (.tmp 1), none⟩, ⟨some 4, .mov (.const (.bool false)), none⟩]) (.kill [0, 1, 4])) (.seq (.seq (.regd (.q ⟨some 5, .fad (.tmp 2) 0, none⟩ (.q ⟨some 6, .ld none (.tmp 5), none⟩ (.q ⟨some 7, .fad (.tmp 3) 0, none⟩ (.q ⟨some 8, .ld none (.tmp 7), none⟩ (.q ⟨some 10, .fad (.tmp 2) 1, none⟩ (.q ⟨some 11, .ld none (.tmp 10), none⟩ (.q ⟨some 12, .fad (.tmp 3) 1, none⟩ (.q ⟨some 13, .ld none (.tmp 12), none⟩ (.q ⟨some 15, .fad (.tmp 2) 2, none⟩ (.q ⟨some 16, .ld none (.tmp 15), none⟩ (.q ⟨some 17, .fad (.tmp 3) 2, none⟩ (.q ⟨some 18, .ld none (.tmp 17), none⟩ (.alt ⟨some 9, .call (.func n_cmp_Compare_int) [.tmp 6, .tmp 8], none⟩ [⟨some 18, .ld none (.tmp 17), none⟩, ⟨some 17, .fad (.tmp 3) 2, none⟩, ⟨some 16, .ld none (.tmp 15), none⟩, ⟨some 15, .fad (.tmp 2) 2, none⟩, ⟨some 13, .ld none (.tmp 12), none⟩, ⟨some 12, .fad (.tmp 3) 1, none⟩, ⟨some 11, .ld none (.tmp 10), none⟩, ⟨some 10, .fad (.tmp 2) 1, none⟩] (.alt ⟨some 14, .call (.func n_cmp_Compare_int) [.tmp 11, .tmp 13], none⟩ [⟨some 18, .ld none (.tmp 17), none⟩, ⟨some 17, .fad (.tmp 3) 2, none⟩, ⟨some 16, .ld none (.tmp 15), none⟩, ⟨some 15, .fad (.tmp 2) 2, none⟩] (.alt ⟨some 19, .call (.func n_cmp_Compare_uint64) [.tmp 16, .tmp 18], none⟩ [] (.alt ⟨some 20, .bsl 1 [.int .i64 0, .int .i64 0, .int .i64 0] [(0, (1, .tmp 9)), (1, (1, .tmp 14)), (2, (1, .tmp 19))] 3, none⟩ [] (.alt ⟨some 21, .call (.func n_cmp_Or_int) [.tmp 20], none⟩ [] (.q ⟨some 22, .bin .lss (.tmp 21) (.const (.int .i64 0)), none⟩ (.q ⟨some 4, .mov (.tmp 22), none⟩ (.done false))) .no) .no) .no) .no) .no)))))))))))))) (.kill [2, 3, 22, 21, 20, 19, 18, 17, 16, 15, 14, 13, 12, 11, 10, 9, 8, 7, 6, 5])) .ret)⟩
theorem h_op_Less_ok : compFunH Go.Proofs.Tryz.prog n_op_Less [] = some h_op_Less := by kernel_rfl
def h_recon_without : HFun := ⟨10, [(4, none)],
  .seq (.seq (.reg [⟨some 3, .box (.tmp 1), none⟩, ⟨some 4, .mov (.const (.slice none 0 0)), none⟩]) (.kill [1, 4])) (.seq (.seq (.reg [⟨some 5, .mov (.tmp 0), none⟩, ⟨some 6, .call (.func n_slices_Clone_Lapi_Ident_api_Ident) [.tmp 5], none⟩, ⟨some 7, .clo n_recon_without_1 [.tmp 3], none⟩, ⟨some 8, .call (.func n_slices_DeleteFunc_Lapi_Ident_api_Ident) [.tmp 6, .tmp 7], none⟩, ⟨some 9, .call (.func n_recon_sorted) [.tmp 8], none⟩, ⟨some 4, .mov (.tmp 9), none⟩]) (.kill [0, 3, 9, 8, 7, 6, 5])) .ret)⟩
theorem h_recon_without_ok : compFunH Go.Proofs.Tryz.prog n_recon_without [] = some h_recon_without := by kernel_rfl
def h_recon_elems : HFun := ⟨22, [(2, none)],
  .seq (.seq (.reg [⟨some 2, .mov (.const (.slice none 0 0)), none⟩]) (.kill [2])) (.seq (.seq (.reg [⟨some 3, .mov (.const (.slice none 0 0)), none⟩]) (.own 3 none 1)) (.seq (.seq (.seq (.reg [⟨some 6, .mov (.tmp 0), none⟩, ⟨some 7, .lenL (.tmp 6), none⟩, ⟨some 8, .mov (.const (.int .i64 0)), none⟩]) (.kill [0])) (.block 0 (.loop [] (.seq (.reg [⟨some 9, .bin .lss (.tmp 8) (.tmp 7), none⟩]) (.seq (.cond (.tmp 9) (.seq (.kill [9]) .skip) (.seq (.kill [6, 8, 7, 9]) (.exit 0))) (.seq (.block 1 (.seq (.seq (.reg [⟨some 10, .iad (.tmp 6) (.tmp 8) 3, none⟩, ⟨some 11, .ld (some 3) (.tmp 10), none⟩, ⟨some 5, .alloc [.int .i64 0, .int .i64 0, .int .u64 0], none⟩, ⟨none, .st 3 (.tmp 5) (.tmp 11), none⟩]) (.kill [11, 10])) (.seq (.seq (.reg [⟨some 12, .mov (.tmp 3), none⟩, ⟨some 13, .ld (some 3) (.tmp 5), none⟩, ⟨some 14, .call (.func n_sketch_Elem) [.tmp 13], none⟩, ⟨some 15, .bsl 1 [.int .u64 0] [(0, (1, .tmp 14))] 1, none⟩, ⟨some 16, .app (.tmp 12) (.tmp 15) 1 8, none⟩, ⟨some 3, .mov (.tmp 16), none⟩]) (.kill [5, 16, 15, 14, 13, 12])) (.own 3 none 1)))) (.seq (.reg [⟨some 17, .bin .add (.tmp 8) (.const (.int .i64 1)), none⟩, ⟨some 8, .mov (.tmp 17), none⟩]) (.kill [17])))))))) (.seq (.seq (.reg [⟨some 18, .mov (.tmp 3), none⟩, ⟨some 19, .call (.func n_slices_Sort_Luint64_uint64) [.tmp 18], none⟩]) (.kill [19, 18])) (.seq (.seq (.reg [⟨some 20, .mov (.tmp 3), none⟩, ⟨some 21, .call (.func n_slices_Compact_Luint64_uint64) [.tmp 20], none⟩, ⟨some 2, .mov (.tmp 21), none⟩]) (.kill [3, 21, 20])) .ret))))⟩
theorem h_recon_elems_ok : compFunH Go.Proofs.Tryz.prog n_recon_elems [(3, none, 1)] = some h_recon_elems := by kernel_rfl
def h_recon_tries : HFun := ⟨1, [(0, none)],
  .seq (.seq (.reg [⟨some 0, .mov (.const .nilFunc), none⟩]) (.kill [0])) (.seq (.reg [⟨some 0, .mov (.func n_recon_tries_1), none⟩]) .ret)⟩
theorem h_recon_tries_ok : compFunH Go.Proofs.Tryz.prog n_recon_tries [] = some h_recon_tries := by kernel_rfl
def h_cmp_Or_int : HFun := ⟨18, [(2, none)],
  .seq (.seq (.reg [⟨some 2, .mov (.const (.int .i64 0)), none⟩]) (.kill [2])) (.seq (.reg [⟨some 3, .mov (.const (.int .i64 0)), none⟩]) (.seq (.seq (.seq (.reg [⟨some 6, .mov (.tmp 0), none⟩, ⟨some 7, .lenL (.tmp 6), none⟩, ⟨some 8, .mov (.const (.int .i64 0)), none⟩]) (.kill [0])) (.block 0 (.loop [] (.seq (.reg [⟨some 9, .bin .lss (.tmp 8) (.tmp 7), none⟩]) (.seq (.cond (.tmp 9) (.seq (.kill [9]) .skip) (.seq (.kill [6, 8, 7, 9]) (.exit 0))) (.seq (.block 1 (.seq (.seq (.reg [⟨some 10, .iad (.tmp 6) (.tmp 8) 1, none⟩, ⟨some 11, .ld none (.tmp 10), none⟩, ⟨some 5, .mov (.tmp 11), none⟩]) (.kill [11, 10])) (.seq (.seq (.reg [⟨some 12, .mov (.tmp 5), none⟩, ⟨some 13, .mov (.tmp 3), none⟩, ⟨some 14, .bin .neq (.tmp 12) (.tmp 13), none⟩]) (.kill [13, 12])) (.cond (.tmp 14) (.seq (.kill [8, 3, 6, 7, 14]) (.seq (.seq (.reg [⟨some 15, .mov (.tmp 5), none⟩, ⟨some 2, .mov (.tmp 15), none⟩]) (.kill [5, 15])) .ret)) (.seq (.kill [5, 14]) .skip))))) (.seq (.reg [⟨some 16, .bin .add (.tmp 8) (.const (.int .i64 1)), none⟩, ⟨some 8, .mov (.tmp 16), none⟩]) (.kill [16])))))))) (.seq (.seq (.reg [⟨some 17, .mov (.tmp 3), none⟩, ⟨some 2, .mov (.tmp 17), none⟩]) (.kill [3, 17])) .ret)))⟩
theorem h_cmp_Or_int_ok : compFunH Go.Proofs.Tryz.prog n_cmp_Or_int [] = some h_cmp_Or_int := by kernel_rfl
def h_cmp_Compare_int : HFun := ⟨20, [(4, none)],
  .seq (.seq (.reg [⟨some 4, .mov (.const (.int .i64 0)), none⟩]) (.kill [4])) (.seq (.seq (.reg [⟨some 7, .mov (.tmp 0), none⟩, ⟨some 8, .call (.func n_cmp_isNaN_int) [.tmp 7], none⟩, ⟨some 5, .mov (.tmp 8), none⟩]) (.kill [8, 7])) (.seq (.seq (.reg [⟨some 9, .mov (.tmp 1), none⟩, ⟨some 10, .call (.func n_cmp_isNaN_int) [.tmp 9], none⟩, ⟨some 6, .mov (.tmp 10), none⟩]) (.kill [10, 9])) (.seq (.seq (.seq (.reg [⟨some 11, .mov (.tmp 5), none⟩]) (.kill [5])) (.cond (.tmp 11) (.seq (.kill [0, 1, 11]) (.seq (.seq (.seq (.reg [⟨some 12, .mov (.tmp 6), none⟩]) (.kill [6])) (.cond (.tmp 12) (.seq (.kill [12]) (.seq (.reg [⟨some 4, .mov (.const (.int .i64 0)), none⟩]) .ret)) (.seq (.kill [12]) .skip))) (.seq (.reg [⟨some 4, .mov (.const (.int .i64 (-1))), none⟩]) .ret))) (.seq (.kill [11]) .skip))) (.seq (.seq (.seq (.reg [⟨some 13, .mov (.tmp 6), none⟩]) (.kill [6])) (.cond (.tmp 13) (.seq (.kill [0, 1, 13]) (.seq (.reg [⟨some 4, .mov (.const (.int .i64 1)), none⟩]) .ret)) (.seq (.kill [13]) .skip))) (.seq (.seq (.seq (.reg [⟨some 14, .mov (.tmp 0), none⟩, ⟨some 15, .mov (.tmp 1), none⟩, ⟨some 16, .bin .lss (.tmp 14) (.tmp 15), none⟩]) (.kill [15, 14])) (.cond (.tmp 16) (.seq (.kill [0, 1, 16]) (.seq (.reg [⟨some 4, .mov (.const (.int .i64 (-1))), none⟩]) .ret)) (.seq (.kill [16]) .skip))) (.seq (.seq (.seq (.reg [⟨some 17, .mov (.tmp 0), none⟩, ⟨some 18, .mov (.tmp 1), none⟩, ⟨some 19, .bin .gtr (.tmp 17) (.tmp 18), none⟩]) (.kill [0, 1, 18, 17])) (.cond (.tmp 19) (.seq (.kill [19]) (.seq (.reg [⟨some 4, .mov (.const (.int .i64 1)), none⟩]) .ret)) (.seq (.kill [19]) .skip))) (.seq (.reg [⟨some 4, .mov (.const (.int .i64 0)), none⟩]) .ret)))))))⟩
theorem h_cmp_Compare_int_ok : compFunH Go.Proofs.Tryz.prog n_cmp_Compare_int [] = some h_cmp_Compare_int := by kernel_rfl
def h_cmp_Compare_uint64 : HFun := ⟨20, [(4, none)],
  .seq (.seq (.reg [⟨some 4, .mov (.const (.int .i64 0)), none⟩]) (.kill [4])) (.seq (.seq (.reg [⟨some 7, .mov (.tmp 0), none⟩, ⟨some 8, .call (.func n_cmp_isNaN_uint64) [.tmp 7], none⟩, ⟨some 5, .mov (.tmp 8), none⟩]) (.kill [8, 7])) (.seq (.seq (.reg [⟨some 9, .mov (.tmp 1), none⟩, ⟨some 10, .call (.func n_cmp_isNaN_uint64) [.tmp 9], none⟩, ⟨some 6, .mov (.tmp 10), none⟩]) (.kill [10, 9])) (.seq (.seq (.seq (.reg [⟨some 11, .mov (.tmp 5), none⟩]) (.kill [5])) (.cond (.tmp 11) (.seq (.kill [0, 1, 11]) (.seq (.seq (.seq (.reg [⟨some 12, .mov (.tmp 6), none⟩]) (.kill [6])) (.cond (.tmp 12) (.seq (.kill [12]) (.seq (.reg [⟨some 4, .mov (.const (.int .i64 0)), none⟩]) .ret)) (.seq (.kill [12]) .skip))) (.seq (.reg [⟨some 4, .mov (.const (.int .i64 (-1))), none⟩]) .ret))) (.seq (.kill [11]) .skip))) (.seq (.seq (.seq (.reg [⟨some 13, .mov (.tmp 6), none⟩]) (.kill [6])) (.cond (.tmp 13) (.seq (.kill [0, 1, 13]) (.seq (.reg [⟨some 4, .mov (.const (.int .i64 1)), none⟩]) .ret)) (.seq (.kill [13]) .skip))) (.seq (.seq (.seq (.reg [⟨some 14, .mov (.tmp 0), none⟩, ⟨some 15, .mov (.tmp 1), none⟩, ⟨some 16, .bin .lss (.tmp 14) (.tmp 15), none⟩]) (.kill [15, 14])) (.cond (.tmp 16) (.seq (.kill [0, 1, 16]) (.seq (.reg [⟨some 4, .mov (.const (.int .i64 (-1))), none⟩]) .ret)) (.seq (.kill [16]) .skip))) (.seq (.seq (.seq (.reg [⟨some 17, .mov (.tmp 0), none⟩, ⟨some 18, .mov (.tmp 1), none⟩, ⟨some 19, .bin .gtr (.tmp 17) (.tmp 18), none⟩]) (.kill [0, 1, 18, 17])) (.cond (.tmp 19) (.seq (.kill [19]) (.seq (.reg [⟨some 4, .mov (.const (.int .i64 1)), none⟩]) .ret)) (.seq (.kill [19]) .skip))) (.seq (.reg [⟨some 4, .mov (.const (.int .i64 0)), none⟩]) .ret)))))))⟩
theorem h_cmp_Compare_uint64_ok : compFunH Go.Proofs.Tryz.prog n_cmp_Compare_uint64 [] = some h_cmp_Compare_uint64 := by kernel_rfl
def h_recon_sorted : HFun := ⟨6, [(2, none)],
  .seq (.seq (.reg [⟨some 2, .mov (.const (.slice none 0 0)), none⟩]) (.kill [2])) (.seq (.seq (.reg [⟨some 3, .mov (.tmp 0), none⟩, ⟨some 4, .call (.func n_slices_SortFunc_Lapi_Ident_api_Ident) [.tmp 3, .func n_recon_sorted_1], none⟩]) (.kill [4, 3])) (.seq (.seq (.reg [⟨some 5, .mov (.tmp 0), none⟩, ⟨some 2, .mov (.tmp 5), none⟩]) (.kill [0, 5])) .ret))⟩
theorem h_recon_sorted_ok : compFunH Go.Proofs.Tryz.prog n_recon_sorted [] = some h_recon_sorted := by kernel_rfl
def h_recon_without_1 : HFun := ⟨7, [(3, none)],
  .seq (.seq (.reg [⟨some 2, .box (.tmp 0), none⟩, ⟨some 3, .mov (.const (.bool false)), none⟩]) (.kill [0, 3])) (.seq (.seq (.reg [⟨some 4, .ld none (.tmp 1), none⟩, ⟨some 5, .ld (some 3) (.tmp 2), none⟩, ⟨some 6, .call (.func n_slices_Contains_Lapi_Ident_api_Ident) [.tmp 4, .tmp 5], none⟩, ⟨some 3, .mov (.tmp 6), none⟩]) (.kill [1, 2, 6, 5, 4])) .ret)⟩
theorem h_recon_without_1_ok : compFunH Go.Proofs.Tryz.prog n_recon_without_1 [] = some h_recon_without_1 := by kernel_rfl
def h_recon_tries_1 : HFun := ⟨12, [],
  .seq (.reg [⟨some 2, .mov (.const (.int .i64 4)), none⟩]) (.block 0 (.loop [] (.seq (.seq (.seq (.reg [⟨some 3, .mov (.tmp 2), none⟩, ⟨some 4, .bin .leq (.tmp 3) (.const (.int .i64 64)), none⟩, ⟨some 5, .mov (.tmp 4), none⟩, ⟨some 6, .mov (.tmp 0), some (5, true)⟩, ⟨some 7, .mov (.tmp 2), some (5, true)⟩, ⟨some 8, .call (.tmp 6) [.tmp 7], some (5, true)⟩, ⟨some 9, .pick (.tmp 5) (.tmp 8) (.const (.bool false)), none⟩]) (.kill [8, 7, 6, 5, 4, 3])) (.cond (.tmp 9) (.seq (.kill [9]) .skip) (.seq (.kill [2, 0, 9]) (.exit 0)))) (.seq (.block 1 .skip) (.seq (.reg [⟨some 10, .mov (.tmp 2), none⟩, ⟨some 11, .bin .mul (.tmp 10) (.const (.int .i64 2)), none⟩, ⟨some 2, .mov (.tmp 11), none⟩]) (.kill [11, 10]))))))⟩
theorem h_recon_tries_1_ok : compFunH Go.Proofs.Tryz.prog n_recon_tries_1 [] = some h_recon_tries_1 := by kernel_rfl
def h_recon_sorted_1 : HFun := ⟨13, [(4, none)],
  .seq (.seq (.reg [⟨some 2, .box (.tmp 0), none⟩, ⟨some 3, .box (.tmp 1), none⟩, ⟨some 4, .mov (.const (.int .i64 0)), none⟩]) (.kill [0, 1, 4])) (.seq (.block 0 (.seq (.seq (.reg [⟨some 6, .ld (some 3) (.tmp 2), none⟩, ⟨some 7, .ld (some 3) (.tmp 3), none⟩, ⟨some 8, .call (.func n_op_Less) [.tmp 6, .tmp 7], none⟩, ⟨some 5, .mov (.tmp 8), none⟩]) (.kill [8, 7, 6])) (.cond (.tmp 5) (.seq (.kill [3, 2, 5]) (.seq (.reg [⟨some 4, .mov (.const (.int .i64 (-1))), none⟩]) .ret)) (.seq (.kill [5]) (.seq (.seq (.reg [⟨some 10, .ld (some 3) (.tmp 3), none⟩, ⟨some 11, .ld (some 3) (.tmp 2), none⟩, ⟨some 12, .call (.func n_op_Less) [.tmp 10, .tmp 11], none⟩, ⟨some 9, .mov (.tmp 12), none⟩]) (.kill [3, 2, 12, 11, 10])) (.cond (.tmp 9) (.seq (.kill [9]) (.seq (.reg [⟨some 4, .mov (.const (.int .i64 1)), none⟩]) .ret)) (.seq (.kill [9]) .skip))))))) (.seq (.reg [⟨some 4, .mov (.const (.int .i64 0)), none⟩]) .ret))⟩
theorem h_recon_sorted_1_ok : compFunH Go.Proofs.Tryz.prog n_recon_sorted_1 [] = some h_recon_sorted_1 := by kernel_rfl
end Hud
end
section
namespace Hud
open Go
def h_slices_Sort_Luint64_uint64 : HFun := ⟨11, [],
  .seq (.seq (.reg [⟨some 3, .mov (.tmp 0), none⟩, ⟨some 4, .lenL (.tmp 3), none⟩, ⟨some 2, .mov (.tmp 4), none⟩]) (.kill [4, 3])) (.seq (.reg [⟨some 5, .mov (.tmp 0), none⟩, ⟨some 6, .mov (.tmp 2), none⟩, ⟨some 7, .mov (.tmp 2), none⟩, ⟨some 8, .conv .u64 (.tmp 7), none⟩, ⟨some 9, .call (.func n_math_bits_Len) [.tmp 8], none⟩, ⟨some 10, .call (.func n_slices_pdqsortOrdered_uint64) [.tmp 5, .const (.int .i64 0), .tmp 6, .tmp 9], none⟩]) (.kill [0, 2, 10, 9, 8, 7, 6, 5]))⟩
theorem h_slices_Sort_Luint64_uint64_ok : compFunH Go.Proofs.Tryz.prog n_slices_Sort_Luint64_uint64 [] = some h_slices_Sort_Luint64_uint64 := by kernel_rfl
def h_cmp_isNaN_uint64 : HFun := ⟨6, [(2, none)],
  .seq (.seq (.reg [⟨some 2, .mov (.const (.bool false)), none⟩]) (.kill [2])) (.seq (.seq (.reg [⟨some 3, .mov (.tmp 0), none⟩, ⟨some 4, .mov (.tmp 0), none⟩, ⟨some 5, .bin .neq (.tmp 3) (.tmp 4), none⟩, ⟨some 2, .mov (.tmp 5), none⟩]) (.kill [0, 5, 4, 3])) .ret)⟩
theorem h_cmp_isNaN_uint64_ok : compFunH Go.Proofs.Tryz.prog n_cmp_isNaN_uint64 [] = some h_cmp_isNaN_uint64 := by kernel_rfl
def h_slices_pdqsortOrdered_uint64 : HFun := ⟨134, [],
  .seq (.reg [⟨some 8, .mov (.const (.bool true)), none⟩]) (.seq (.reg [⟨some 9, .mov (.const (.bool true)), none⟩]) (.block 0 (.loop [] (.block 1 (.seq (.seq (.reg [⟨some 19, .mov (.tmp 2), none⟩, ⟨some 20, .mov (.tmp 1), none⟩, ⟨some 21, .bin .sub (.tmp 19) (.tmp 20), none⟩, ⟨some 10, .mov (.tmp 21), none⟩]) (.kill [21, 20, 19])) (.seq (.seq (.seq (.reg [⟨some 22, .mov (.tmp 10), none⟩, ⟨some 23, .bin .leq (.tmp 22) (.const (.int .i64 12)), none⟩]) (.kill [22])) (.cond (.tmp 23) (.seq (.kill [3, 8, 9, 10, 23]) (.seq (.seq (.reg [⟨some 24, .mov (.tmp 0), none⟩, ⟨some 25, .mov (.tmp 1), none⟩, ⟨some 26, .mov (.tmp 2), none⟩, ⟨some 27, .call (.func n_slices_insertionSortOrdered_uint64) [.tmp 24, .tmp 25, .tmp 26], none⟩]) (.kill [0, 1, 2, 27, 26, 25, 24])) .ret)) (.seq (.kill [23]) .skip))) (.seq (.seq (.seq (.reg [⟨some 28, .mov (.tmp 3), none⟩, ⟨some 29, .bin .eql (.tmp 28) (.const (.int .i64 0)), none⟩]) (.kill [28])) (.cond (.tmp 29) (.seq (.kill [8, 9, 10, 3, 29]) (.seq (.seq (.reg [⟨some 30, .mov (.tmp 0), none⟩, ⟨some 31, .mov (.tmp 1), none⟩, ⟨some 32, .mov (.tmp 2), none⟩, ⟨some 33, .call (.func n_slices_heapSortOrdered_uint64) [.tmp 30, .tmp 31, .tmp 32], none⟩]) (.kill [0, 1, 2, 33, 32, 31, 30])) .ret)) (.seq (.kill [29]) .skip))) (.seq (.seq (.seq (.reg [⟨some 34, .mov (.tmp 8), none⟩, ⟨some 35, .un .not (.tmp 34), none⟩]) (.kill [34])) (.cond (.tmp 35) (.seq (.kill [35]) (.seq (.seq (.reg [⟨some 36, .mov (.tmp 0), none⟩, ⟨some 37, .mov (.tmp 1), none⟩, ⟨some 38, .mov (.tmp 2), none⟩, ⟨some 39, .call (.func n_slices_breakPatternsOrdered_uint64) [.tmp 36, .tmp 37, .tmp 38], none⟩]) (.kill [39, 38, 37, 36])) (.seq (.reg [⟨some 40, .mov (.tmp 3), none⟩, ⟨some 41, .bin .sub (.tmp 40) (.const (.int .i64 1)), none⟩, ⟨some 3, .mov (.tmp 41), none⟩]) (.kill [41, 40])))) (.seq (.kill [35]) .skip))) (.seq (.seq (.reg [⟨some 43, .mov (.tmp 0), none⟩, ⟨some 44, .mov (.tmp 1), none⟩, ⟨some 45, .mov (.tmp 2), none⟩, ⟨some 46, .call (.func n_slices_choosePivotOrdered_uint64) [.tmp 43, .tmp 44, .tmp 45], none⟩, ⟨some 42, .mov (.tmp 46), none⟩, ⟨some 47, .ext (.tmp 42) 0, none⟩, ⟨some 48, .ext (.tmp 42) 1, none⟩, ⟨some 11, .mov (.tmp 47), none⟩, ⟨some 12, .mov (.tmp 48), none⟩]) (.kill [48, 47, 42, 46, 45, 44, 43])) (.seq (.seq (.seq (.reg [⟨some 49, .mov (.tmp 12), none⟩, ⟨some 50, .bin .eql (.tmp 49) (.const (.int .i64 2)), none⟩]) (.kill [49])) (.cond (.tmp 50) (.seq (.kill [12, 50]) (.seq (.seq (.reg [⟨some 51, .mov (.tmp 0), none⟩, ⟨some 52, .mov (.tmp 1), none⟩, ⟨some 53, .mov (.tmp 2), none⟩, ⟨some 54, .call (.func n_slices_reverseRangeOrdered_uint64) [.tmp 51, .tmp 52, .tmp 53], none⟩]) (.kill [54, 53, 52, 51])) (.seq (.seq (.reg [⟨some 55, .mov (.tmp 2), none⟩, ⟨some 56, .bin .sub (.tmp 55) (.const (.int .i64 1)), none⟩, ⟨some 57, .mov (.tmp 11), none⟩, ⟨some 58, .mov (.tmp 1), none⟩, ⟨some 59, .bin .sub (.tmp 57) (.tmp 58), none⟩, ⟨some 60, .bin .sub (.tmp 56) (.tmp 59), none⟩, ⟨some 11, .mov (.tmp 60), none⟩]) (.kill [60, 59, 58, 57, 56, 55])) (.reg [⟨some 12, .mov (.const (.int .i64 1)), none⟩])))) (.seq (.kill [50]) .skip))) (.seq (.seq (.seq (.reg [⟨some 61, .mov (.tmp 8), none⟩, ⟨some 62, .mov (.tmp 61), none⟩, ⟨some 63, .mov (.tmp 9), some (62, true)⟩, ⟨some 64, .pick (.tmp 62) (.tmp 63) (.const (.bool false)), none⟩, ⟨some 65, .mov (.tmp 64), none⟩, ⟨some 66, .mov (.tmp 12), some (65, true)⟩, ⟨some 67, .bin .eql (.tmp 66) (.const (.int .i64 1)), some (65, true)⟩, ⟨some 68, .pick (.tmp 65) (.tmp 67) (.const (.bool false)), none⟩]) (.kill [12, 67, 66, 65, 64, 63, 62, 61])) (.cond (.tmp 68) (.seq (.kill [68]) (.seq (.seq (.reg [⟨some 69, .mov (.tmp 0), none⟩, ⟨some 70, .mov (.tmp 1), none⟩, ⟨some 71, .mov (.tmp 2), none⟩, ⟨some 72, .call (.func n_slices_partialInsertionSortOrdered_uint64) [.tmp 69, .tmp 70, .tmp 71], none⟩]) (.kill [71, 70, 69])) (.cond (.tmp 72) (.seq (.kill [1, 0, 11, 10, 2, 9, 8, 3, 72]) .ret) (.seq (.kill [72]) .skip)))) (.seq (.kill [68]) .skip))) (.seq (.seq (.seq (.regd (.q ⟨some 73, .mov (.tmp 1), none⟩ (.q ⟨some 74, .bin .gtr (.tmp 73) (.const (.int .i64 0)), none⟩ (.q ⟨some 75, .mov (.tmp 74), none⟩ (.q ⟨some 76, .mov (.tmp 0), some (75, true)⟩ (.q ⟨some 77, .mov (.tmp 1), some (75, true)⟩ (.q ⟨some 78, .bin .sub (.tmp 77) (.const (.int .i64 1)), some (75, true)⟩ (.q ⟨some 79, .iad (.tmp 76) (.tmp 78) 1, some (75, true)⟩ (.q ⟨some 80, .ld none (.tmp 79), some (75, true)⟩ (.q ⟨some 81, .mov (.tmp 0), some (75, true)⟩ (.q ⟨some 82, .mov (.tmp 11), some (75, true)⟩ (.q ⟨some 83, .iad (.tmp 81) (.tmp 82) 1, some (75, true)⟩ (.q ⟨some 84, .ld none (.tmp 83), some (75, true)⟩ (.alt ⟨some 85, .call (.func n_cmp_Less_uint64) [.tmp 80, .tmp 84], some (75, true)⟩ [] (.q ⟨some 86, .un .not (.tmp 85), some (75, true)⟩ (.q ⟨some 87, .pick (.tmp 75) (.tmp 86) (.const (.bool false)), none⟩ (.done false))) .no)))))))))))))) (.kill [86, 85, 84, 83, 82, 81, 80, 79, 78, 77, 76, 75, 74, 73])) (.cond (.tmp 87) (.seq (.kill [10, 87]) (.seq (.seq (.reg [⟨some 88, .mov (.tmp 0), none⟩, ⟨some 89, .mov (.tmp 1), none⟩, ⟨some 90, .mov (.tmp 2), none⟩, ⟨some 91, .mov (.tmp 11), none⟩, ⟨some 92, .call (.func n_slices_partitionEqualOrdered_uint64) [.tmp 88, .tmp 89, .tmp 90, .tmp 91], none⟩, ⟨some 13, .mov (.tmp 92), none⟩]) (.kill [1, 11, 92, 91, 90, 89, 88])) (.seq (.seq (.reg [⟨some 93, .mov (.tmp 13), none⟩, ⟨some 1, .mov (.tmp 93), none⟩]) (.kill [13, 93])) (.exit 1)))) (.seq (.kill [9, 8, 87]) .skip))) (.seq (.seq (.reg [⟨some 95, .mov (.tmp 0), none⟩, ⟨some 96, .mov (.tmp 1), none⟩, ⟨some 97, .mov (.tmp 2), none⟩, ⟨some 98, .mov (.tmp 11), none⟩, ⟨some 99, .call (.func n_slices_partitionOrdered_uint64) [.tmp 95, .tmp 96, .tmp 97, .tmp 98], none⟩, ⟨some 94, .mov (.tmp 99), none⟩, ⟨some 100, .ext (.tmp 94) 0, none⟩, ⟨some 101, .ext (.tmp 94) 1, none⟩, ⟨some 14, .mov (.tmp 100), none⟩, ⟨some 15, .mov (.tmp 101), none⟩]) (.kill [11, 101, 100, 94, 99, 98, 97, 96, 95])) (.seq (.seq (.reg [⟨some 102, .mov (.tmp 15), none⟩, ⟨some 9, .mov (.tmp 102), none⟩]) (.kill [15, 102])) (.seq (.seq (.reg [⟨some 103, .mov (.tmp 14), none⟩, ⟨some 104, .mov (.tmp 1), none⟩, ⟨some 105, .bin .sub (.tmp 103) (.tmp 104), none⟩, ⟨some 106, .mov (.tmp 2), none⟩, ⟨some 107, .mov (.tmp 14), none⟩, ⟨some 108, .bin .sub (.tmp 106) (.tmp 107), none⟩, ⟨some 16, .mov (.tmp 105), none⟩, ⟨some 17, .mov (.tmp 108), none⟩]) (.kill [108, 107, 106, 105, 104, 103])) (.seq (.seq (.reg [⟨some 109, .mov (.tmp 10), none⟩, ⟨some 110, .bin .quo (.tmp 109) (.const (.int .i64 8)), none⟩, ⟨some 18, .mov (.tmp 110), none⟩]) (.kill [10, 110, 109])) (.seq (.seq (.reg [⟨some 111, .mov (.tmp 16), none⟩, ⟨some 112, .mov (.tmp 17), none⟩, ⟨some 113, .bin .lss (.tmp 111) (.tmp 112), none⟩]) (.kill [112, 111])) (.cond (.tmp 113) (.seq (.kill [17, 113]) (.seq (.seq (.reg [⟨some 114, .mov (.tmp 16), none⟩, ⟨some 115, .mov (.tmp 18), none⟩, ⟨some 116, .bin .geq (.tmp 114) (.tmp 115), none⟩, ⟨some 8, .mov (.tmp 116), none⟩]) (.kill [16, 18, 116, 115, 114])) (.seq (.seq (.reg [⟨some 117, .mov (.tmp 0), none⟩, ⟨some 118, .mov (.tmp 1), none⟩, ⟨some 119, .mov (.tmp 14), none⟩, ⟨some 120, .mov (.tmp 3), none⟩, ⟨some 121, .call (.func n_slices_pdqsortOrdered_uint64) [.tmp 117, .tmp 118, .tmp 119, .tmp 120], none⟩]) (.kill [1, 121, 120, 119, 118, 117])) (.seq (.reg [⟨some 122, .mov (.tmp 14), none⟩, ⟨some 123, .bin .add (.tmp 122) (.const (.int .i64 1)), none⟩, ⟨some 1, .mov (.tmp 123), none⟩]) (.kill [14, 123, 122]))))) (.seq (.kill [16, 113]) (.seq (.seq (.reg [⟨some 124, .mov (.tmp 17), none⟩, ⟨some 125, .mov (.tmp 18), none⟩, ⟨some 126, .bin .geq (.tmp 124) (.tmp 125), none⟩, ⟨some 8, .mov (.tmp 126), none⟩]) (.kill [17, 18, 126, 125, 124])) (.seq (.seq (.reg [⟨some 127, .mov (.tmp 0), none⟩, ⟨some 128, .mov (.tmp 14), none⟩, ⟨some 129, .bin .add (.tmp 128) (.const (.int .i64 1)), none⟩, ⟨some 130, .mov (.tmp 2), none⟩, ⟨some 131, .mov (.tmp 3), none⟩, ⟨some 132, .call (.func n_slices_pdqsortOrdered_uint64) [.tmp 127, .tmp 129, .tmp 130, .tmp 131], none⟩]) (.kill [2, 132, 131, 130, 129, 128, 127])) (.seq (.reg [⟨some 133, .mov (.tmp 14), none⟩, ⟨some 2, .mov (.tmp 133), none⟩]) (.kill [14, 133])))))))))))))))))))))))⟩
theorem h_slices_pdqsortOrdered_uint64_ok : compFunH Go.Proofs.Tryz.prog n_slices_pdqsortOrdered_uint64 [] = some h_slices_pdqsortOrdered_uint64 := by kernel_rfl
def h_slices_insertionSortOrdered_uint64 : HFun := ⟨49, [],
  .seq (.seq (.reg [⟨some 8, .mov (.tmp 1), none⟩, ⟨some 9, .bin .add (.tmp 8) (.const (.int .i64 1)), none⟩, ⟨some 6, .mov (.tmp 9), none⟩]) (.kill [9, 8])) (.block 0 (.loop [] (.seq (.seq (.seq (.reg [⟨some 10, .mov (.tmp 6), none⟩, ⟨some 11, .mov (.tmp 2), none⟩, ⟨some 12, .bin .lss (.tmp 10) (.tmp 11), none⟩]) (.kill [11, 10])) (.cond (.tmp 12) (.seq (.kill [12]) .skip) (.seq (.kill [6, 2, 0, 1, 12]) (.exit 0)))) (.seq (.block 1 (.seq (.seq (.reg [⟨some 15, .mov (.tmp 6), none⟩, ⟨some 7, .mov (.tmp 15), none⟩]) (.kill [15])) (.block 2 (.loop [] (.seq (.seq (.seq (.regd (.q ⟨some 16, .mov (.tmp 7), none⟩ (.q ⟨some 17, .mov (.tmp 1), none⟩ (.q ⟨some 18, .bin .gtr (.tmp 16) (.tmp 17), none⟩ (.q ⟨some 19, .mov (.tmp 18), none⟩ (.q ⟨some 20, .mov (.tmp 0), some (19, true)⟩ (.q ⟨some 21, .mov (.tmp 7), some (19, true)⟩ (.q ⟨some 22, .iad (.tmp 20) (.tmp 21) 1, some (19, true)⟩ (.q ⟨some 23, .ld none (.tmp 22), some (19, true)⟩ (.q ⟨some 24, .mov (.tmp 0), some (19, true)⟩ (.q ⟨some 25, .mov (.tmp 7), some (19, true)⟩ (.q ⟨some 26, .bin .sub (.tmp 25) (.const (.int .i64 1)), some (19, true)⟩ (.q ⟨some 27, .iad (.tmp 24) (.tmp 26) 1, some (19, true)⟩ (.q ⟨some 28, .ld none (.tmp 27), some (19, true)⟩ (.alt ⟨some 29, .call (.func n_cmp_Less_uint64) [.tmp 23, .tmp 28], some (19, true)⟩ [] (.q ⟨some 30, .pick (.tmp 19) (.tmp 29) (.const (.bool false)), none⟩ (.done false)) .no))))))))))))))) (.kill [29, 28, 27, 26, 25, 24, 23, 22, 21, 20, 19, 18, 17, 16])) (.cond (.tmp 30) (.seq (.kill [30]) .skip) (.seq (.kill [7, 30]) (.exit 2)))) (.seq (.block 3 (.seq (.regd (.q ⟨some 33, .mov (.tmp 0), none⟩ (.q ⟨some 34, .mov (.tmp 7), none⟩ (.q ⟨some 35, .mov (.tmp 0), none⟩ (.q ⟨some 36, .mov (.tmp 7), none⟩ (.q ⟨some 37, .bin .sub (.tmp 36) (.const (.int .i64 1)), none⟩ (.q ⟨some 38, .mov (.tmp 0), none⟩ (.q ⟨some 39, .mov (.tmp 7), none⟩ (.q ⟨some 40, .bin .sub (.tmp 39) (.const (.int .i64 1)), none⟩ (.q ⟨some 41, .iad (.tmp 38) (.tmp 40) 1, none⟩ (.q ⟨some 42, .ld none (.tmp 41), none⟩ (.q ⟨some 43, .mov (.tmp 0), none⟩ (.q ⟨some 44, .mov (.tmp 7), none⟩ (.q ⟨some 45, .iad (.tmp 43) (.tmp 44) 1, none⟩ (.q ⟨some 46, .ld none (.tmp 45), none⟩ (.q ⟨some 47, .iad (.tmp 33) (.tmp 34) 1, none⟩ (.alt ⟨none, .st 1 (.tmp 47) (.tmp 42), none⟩ [⟨some 37, .bin .sub (.tmp 36) (.const (.int .i64 1)), none⟩, ⟨some 36, .mov (.tmp 7), none⟩, ⟨some 35, .mov (.tmp 0), none⟩] (.q ⟨some 48, .iad (.tmp 35) (.tmp 37) 1, none⟩ (.alt ⟨none, .st 1 (.tmp 48) (.tmp 46), none⟩ [] (.done false) .no)) .no))))))))))))))))) (.kill [48, 47, 46, 45, 44, 43, 42, 41, 40, 39, 38, 37, 36, 35, 34, 33]))) (.seq (.reg [⟨some 31, .mov (.tmp 7), none⟩, ⟨some 32, .bin .sub (.tmp 31) (.const (.int .i64 1)), none⟩, ⟨some 7, .mov (.tmp 32), none⟩]) (.kill [32, 31])))))))) (.seq (.reg [⟨some 13, .mov (.tmp 6), none⟩, ⟨some 14, .bin .add (.tmp 13) (.const (.int .i64 1)), none⟩, ⟨some 6, .mov (.tmp 14), none⟩]) (.kill [14, 13]))))))⟩
theorem h_slices_insertionSortOrdered_uint64_ok : compFunH Go.Proofs.Tryz.prog n_slices_insertionSortOrdered_uint64 [] = some h_slices_insertionSortOrdered_uint64 := by kernel_rfl
def h_slices_heapSortOrdered_uint64 : HFun := ⟨56, [],
  .seq (.seq (.reg [⟨some 11, .mov (.tmp 1), none⟩, ⟨some 6, .mov (.tmp 11), none⟩]) (.kill [11])) (.seq (.reg [⟨some 7, .mov (.const (.int .i64 0)), none⟩]) (.seq (.seq (.reg [⟨some 12, .mov (.tmp 2), none⟩, ⟨some 13, .mov (.tmp 1), none⟩, ⟨some 14, .bin .sub (.tmp 12) (.tmp 13), none⟩, ⟨some 8, .mov (.tmp 14), none⟩]) (.kill [2, 1, 14, 13, 12])) (.seq (.seq (.seq (.reg [⟨some 15, .mov (.tmp 8), none⟩, ⟨some 16, .bin .sub (.tmp 15) (.const (.int .i64 1)), none⟩, ⟨some 17, .bin .quo (.tmp 16) (.const (.int .i64 2)), none⟩, ⟨some 9, .mov (.tmp 17), none⟩]) (.kill [17, 16, 15])) (.block 0 (.loop [] (.seq (.seq (.seq (.reg [⟨some 18, .mov (.tmp 9), none⟩, ⟨some 19, .bin .geq (.tmp 18) (.const (.int .i64 0)), none⟩]) (.kill [18])) (.cond (.tmp 19) (.seq (.kill [19]) .skip) (.seq (.kill [9, 19]) (.exit 0)))) (.seq (.block 1 (.seq (.reg [⟨some 22, .mov (.tmp 0), none⟩, ⟨some 23, .mov (.tmp 9), none⟩, ⟨some 24, .mov (.tmp 8), none⟩, ⟨some 25, .mov (.tmp 6), none⟩, ⟨some 26, .call (.func n_slices_siftDownOrdered_uint64) [.tmp 22, .tmp 23, .tmp 24, .tmp 25], none⟩]) (.kill [26, 25, 24, 23, 22]))) (.seq (.reg [⟨some 20, .mov (.tmp 9), none⟩, ⟨some 21, .bin .sub (.tmp 20) (.const (.int .i64 1)), none⟩, ⟨some 9, .mov (.tmp 21), none⟩]) (.kill [21, 20]))))))) (.seq (.seq (.reg [⟨some 27, .mov (.tmp 8), none⟩, ⟨some 28, .bin .sub (.tmp 27) (.const (.int .i64 1)), none⟩, ⟨some 10, .mov (.tmp 28), none⟩]) (.kill [8, 28, 27])) (.block 2 (.loop [] (.seq (.seq (.seq (.reg [⟨some 29, .mov (.tmp 10), none⟩, ⟨some 30, .bin .geq (.tmp 29) (.const (.int .i64 0)), none⟩]) (.kill [29])) (.cond (.tmp 30) (.seq (.kill [30]) .skip) (.seq (.kill [0, 6, 10, 7, 30]) (.exit 2)))) (.seq (.block 3 (.seq (.seq (.regd (.q ⟨some 33, .mov (.tmp 0), none⟩ (.q ⟨some 34, .mov (.tmp 6), none⟩ (.q ⟨some 35, .mov (.tmp 0), none⟩ (.q ⟨some 36, .mov (.tmp 6), none⟩ (.q ⟨some 37, .mov (.tmp 10), none⟩ (.q ⟨some 38, .bin .add (.tmp 36) (.tmp 37), none⟩ (.q ⟨some 39, .mov (.tmp 0), none⟩ (.q ⟨some 40, .mov (.tmp 6), none⟩ (.q ⟨some 41, .mov (.tmp 10), none⟩ (.q ⟨some 42, .bin .add (.tmp 40) (.tmp 41), none⟩ (.q ⟨some 43, .iad (.tmp 39) (.tmp 42) 1, none⟩ (.q ⟨some 44, .ld none (.tmp 43), none⟩ (.q ⟨some 45, .mov (.tmp 0), none⟩ (.q ⟨some 46, .mov (.tmp 6), none⟩ (.q ⟨some 47, .iad (.tmp 45) (.tmp 46) 1, none⟩ (.q ⟨some 48, .ld none (.tmp 47), none⟩ (.q ⟨some 49, .iad (.tmp 33) (.tmp 34) 1, none⟩ (.alt ⟨none, .st 1 (.tmp 49) (.tmp 44), none⟩ [⟨some 38, .bin .add (.tmp 36) (.tmp 37), none⟩, ⟨some 37, .mov (.tmp 10), none⟩, ⟨some 36, .mov (.tmp 6), none⟩, ⟨some 35, .mov (.tmp 0), none⟩] (.q ⟨some 50, .iad (.tmp 35) (.tmp 38) 1, none⟩ (.alt ⟨none, .st 1 (.tmp 50) (.tmp 48), none⟩ [] (.done false) .no)) .no))))))))))))))))))) (.kill [50, 49, 48, 47, 46, 45, 44, 43, 42, 41, 40, 39, 38, 37, 36, 35, 34, 33])) (.seq (.reg [⟨some 51, .mov (.tmp 0), none⟩, ⟨some 52, .mov (.tmp 7), none⟩, ⟨some 53, .mov (.tmp 10), none⟩, ⟨some 54, .mov (.tmp 6), none⟩, ⟨some 55, .call (.func n_slices_siftDownOrdered_uint64) [.tmp 51, .tmp 52, .tmp 53, .tmp 54], none⟩]) (.kill [55, 54, 53, 52, 51])))) (.seq (.reg [⟨some 31, .mov (.tmp 10), none⟩, ⟨some 32, .bin .sub (.tmp 31) (.const (.int .i64 1)), none⟩, ⟨some 10, .mov (.tmp 32), none⟩]) (.kill [32, 31]))))))))))⟩
theorem h_slices_heapSortOrdered_uint64_ok : compFunH Go.Proofs.Tryz.prog n_slices_heapSortOrdered_uint64 [] = some h_slices_heapSortOrdered_uint64 := by kernel_rfl
def h_slices_breakPatternsOrdered_uint64 : HFun := ⟨65, [],
  .seq (.seq (.reg [⟨some 11, .mov (.tmp 2), none⟩, ⟨some 12, .mov (.tmp 1), none⟩, ⟨some 13, .bin .sub (.tmp 11) (.tmp 12), none⟩, ⟨some 6, .mov (.tmp 13), none⟩]) (.kill [2, 13, 12, 11])) (.seq (.seq (.reg [⟨some 14, .mov (.tmp 6), none⟩, ⟨some 15, .bin .geq (.tmp 14) (.const (.int .i64 8)), none⟩]) (.kill [14])) (.cond (.tmp 15) (.seq (.kill [15]) (.seq (.seq (.reg [⟨some 16, .mov (.tmp 6), none⟩, ⟨some 17, .conv .u64 (.tmp 16), none⟩, ⟨some 7, .alloc [.int .u64 0], none⟩, ⟨none, .st 1 (.tmp 7) (.tmp 17), none⟩]) (.kill [17, 16])) (.seq (.seq (.reg [⟨some 18, .mov (.tmp 6), none⟩, ⟨some 19, .call (.func n_slices_nextPowerOfTwo) [.tmp 18], none⟩, ⟨some 8, .mov (.tmp 19), none⟩]) (.kill [19, 18])) (.seq (.seq (.reg [⟨some 20, .mov (.tmp 1), none⟩, ⟨some 21, .mov (.tmp 6), none⟩, ⟨some 22, .bin .quo (.tmp 21) (.const (.int .i64 4)), none⟩, ⟨some 23, .bin .mul (.tmp 22) (.const (.int .i64 2)), none⟩, ⟨some 24, .bin .add (.tmp 20) (.tmp 23), none⟩, ⟨some 25, .bin .sub (.tmp 24) (.const (.int .i64 1)), none⟩, ⟨some 9, .mov (.tmp 25), none⟩]) (.kill [25, 24, 23, 22, 21, 20])) (.block 0 (.loop [] (.seq (.seq (.seq (.reg [⟨some 26, .mov (.tmp 9), none⟩, ⟨some 27, .mov (.tmp 1), none⟩, ⟨some 28, .mov (.tmp 6), none⟩, ⟨some 29, .bin .quo (.tmp 28) (.const (.int .i64 4)), none⟩, ⟨some 30, .bin .mul (.tmp 29) (.const (.int .i64 2)), none⟩, ⟨some 31, .bin .add (.tmp 27) (.tmp 30), none⟩, ⟨some 32, .bin .add (.tmp 31) (.const (.int .i64 1)), none⟩, ⟨some 33, .bin .leq (.tmp 26) (.tmp 32), none⟩]) (.kill [32, 31, 30, 29, 28, 27, 26])) (.cond (.tmp 33) (.seq (.kill [33]) .skip) (.seq (.kill [7, 8, 0, 9, 1, 6, 33]) (.exit 0)))) (.seq (.block 1 (.seq (.seq (.reg [⟨some 36, .call (.func n_slices_xorshift_Next) [.tmp 7], none⟩, ⟨some 37, .mov (.tmp 8), none⟩, ⟨some 38, .bin .sub (.tmp 37) (.const (.int .u64 1)), none⟩, ⟨some 39, .bin .and (.tmp 36) (.tmp 38), none⟩, ⟨some 40, .conv .i64 (.tmp 39), none⟩, ⟨some 10, .mov (.tmp 40), none⟩]) (.kill [40, 39, 38, 37, 36])) (.seq (.seq (.seq (.reg [⟨some 41, .mov (.tmp 10), none⟩, ⟨some 42, .mov (.tmp 6), none⟩, ⟨some 43, .bin .geq (.tmp 41) (.tmp 42), none⟩]) (.kill [42, 41])) (.cond (.tmp 43) (.seq (.kill [43]) (.seq (.reg [⟨some 44, .mov (.tmp 10), none⟩, ⟨some 45, .mov (.tmp 6), none⟩, ⟨some 46, .bin .sub (.tmp 44) (.tmp 45), none⟩, ⟨some 10, .mov (.tmp 46), none⟩]) (.kill [46, 45, 44]))) (.seq (.kill [43]) .skip))) (.seq (.regd (.q ⟨some 47, .mov (.tmp 0), none⟩ (.q ⟨some 48, .mov (.tmp 9), none⟩ (.q ⟨some 49, .mov (.tmp 0), none⟩ (.q ⟨some 50, .mov (.tmp 1), none⟩ (.q ⟨some 51, .mov (.tmp 10), none⟩ (.q ⟨some 52, .bin .add (.tmp 50) (.tmp 51), none⟩ (.q ⟨some 53, .mov (.tmp 0), none⟩ (.q ⟨some 54, .mov (.tmp 1), none⟩ (.q ⟨some 55, .mov (.tmp 10), none⟩ (.q ⟨some 56, .bin .add (.tmp 54) (.tmp 55), none⟩ (.q ⟨some 57, .iad (.tmp 53) (.tmp 56) 1, none⟩ (.q ⟨some 58, .ld none (.tmp 57), none⟩ (.q ⟨some 59, .mov (.tmp 0), none⟩ (.q ⟨some 60, .mov (.tmp 9), none⟩ (.q ⟨some 61, .iad (.tmp 59) (.tmp 60) 1, none⟩ (.q ⟨some 62, .ld none (.tmp 61), none⟩ (.q ⟨some 63, .iad (.tmp 47) (.tmp 48) 1, none⟩ (.alt ⟨none, .st 1 (.tmp 63) (.tmp 58), none⟩ [⟨some 52, .bin .add (.tmp 50) (.tmp 51), none⟩, ⟨some 51, .mov (.tmp 10), none⟩, ⟨some 50, .mov (.tmp 1), none⟩, ⟨some 49, .mov (.tmp 0), none⟩] (.q ⟨some 64, .iad (.tmp 49) (.tmp 52) 1, none⟩ (.alt ⟨none, .st 1 (.tmp 64) (.tmp 62), none⟩ [] (.done false) .no)) .no))))))))))))))))))) (.kill [10, 64, 63, 62, 61, 60, 59, 58, 57, 56, 55, 54, 53, 52, 51, 50, 49, 48, 47]))))) (.seq (.reg [⟨some 34, .mov (.tmp 9), none⟩, ⟨some 35, .bin .add (.tmp 34) (.const (.int .i64 1)), none⟩, ⟨some 9, .mov (.tmp 35), none⟩]) (.kill [35, 34])))))))))) (.seq (.kill [6, 1, 0, 15]) .skip)))⟩
theorem h_slices_breakPatternsOrdered_uint64_ok : compFunH Go.Proofs.Tryz.prog n_slices_breakPatternsOrdered_uint64 [] = some h_slices_breakPatternsOrdered_uint64 := by kernel_rfl
def h_slices_choosePivotOrdered_uint64 : HFun := ⟨57, [(6, none), (7, none)],
  .seq (.seq (.reg [⟨some 6, .mov (.const (.int .i64 0)), none⟩, ⟨some 7, .mov (.const (.int .i64 0)), none⟩]) (.kill [7, 6])) (.seq (.seq (.reg [⟨some 13, .mov (.tmp 2), none⟩, ⟨some 14, .mov (.tmp 1), none⟩, ⟨some 15, .bin .sub (.tmp 13) (.tmp 14), none⟩, ⟨some 8, .mov (.tmp 15), none⟩]) (.kill [2, 15, 14, 13])) (.seq (.reg [⟨some 9, .alloc [.int .i64 0], none⟩]) (.seq (.seq (.reg [⟨some 16, .mov (.tmp 1), none⟩, ⟨some 17, .mov (.tmp 8), none⟩, ⟨some 18, .bin .quo (.tmp 17) (.const (.int .i64 4)), none⟩, ⟨some 19, .bin .mul (.tmp 18) (.const (.int .i64 1)), none⟩, ⟨some 20, .bin .add (.tmp 16) (.tmp 19), none⟩, ⟨some 10, .mov (.tmp 20), none⟩]) (.kill [20, 19, 18, 17, 16])) (.seq (.seq (.reg [⟨some 21, .mov (.tmp 1), none⟩, ⟨some 22, .mov (.tmp 8), none⟩, ⟨some 23, .bin .quo (.tmp 22) (.const (.int .i64 4)), none⟩, ⟨some 24, .bin .mul (.tmp 23) (.const (.int .i64 2)), none⟩, ⟨some 25, .bin .add (.tmp 21) (.tmp 24), none⟩, ⟨some 11, .mov (.tmp 25), none⟩]) (.kill [25, 24, 23, 22, 21])) (.seq (.seq (.reg [⟨some 26, .mov (.tmp 1), none⟩, ⟨some 27, .mov (.tmp 8), none⟩, ⟨some 28, .bin .quo (.tmp 27) (.const (.int .i64 4)), none⟩, ⟨some 29, .bin .mul (.tmp 28) (.const (.int .i64 3)), none⟩, ⟨some 30, .bin .add (.tmp 26) (.tmp 29), none⟩, ⟨some 12, .mov (.tmp 30), none⟩]) (.kill [1, 30, 29, 28, 27, 26])) (.seq (.seq (.seq (.reg [⟨some 31, .mov (.tmp 8), none⟩, ⟨some 32, .bin .geq (.tmp 31) (.const (.int .i64 8)), none⟩]) (.kill [31])) (.cond (.tmp 32) (.seq (.kill [32]) (.seq (.seq (.seq (.reg [⟨some 33, .mov (.tmp 8), none⟩, ⟨some 34, .bin .geq (.tmp 33) (.const (.int .i64 50)), none⟩]) (.kill [8, 33])) (.cond (.tmp 34) (.seq (.kill [34]) (.seq (.seq (.reg [⟨some 35, .mov (.tmp 0), none⟩, ⟨some 36, .mov (.tmp 10), none⟩, ⟨some 37, .call (.func n_slices_medianAdjacentOrdered_uint64) [.tmp 35, .tmp 36, .tmp 9], none⟩, ⟨some 10, .mov (.tmp 37), none⟩]) (.kill [37, 36, 35])) (.seq (.seq (.reg [⟨some 38, .mov (.tmp 0), none⟩, ⟨some 39, .mov (.tmp 11), none⟩, ⟨some 40, .call (.func n_slices_medianAdjacentOrdered_uint64) [.tmp 38, .tmp 39, .tmp 9], none⟩, ⟨some 11, .mov (.tmp 40), none⟩]) (.kill [40, 39, 38])) (.seq (.reg [⟨some 41, .mov (.tmp 0), none⟩, ⟨some 42, .mov (.tmp 12), none⟩, ⟨some 43, .call (.func n_slices_medianAdjacentOrdered_uint64) [.tmp 41, .tmp 42, .tmp 9], none⟩, ⟨some 12, .mov (.tmp 43), none⟩]) (.kill [43, 42, 41]))))) (.seq (.kill [34]) .skip))) (.seq (.reg [⟨some 44, .mov (.tmp 0), none⟩, ⟨some 45, .mov (.tmp 10), none⟩, ⟨some 46, .mov (.tmp 11), none⟩, ⟨some 47, .mov (.tmp 12), none⟩, ⟨some 48, .call (.func n_slices_medianOrdered_uint64) [.tmp 44, .tmp 45, .tmp 46, .tmp 47, .tmp 9], none⟩, ⟨some 11, .mov (.tmp 48), none⟩]) (.kill [0, 10, 12, 48, 47, 46, 45, 44])))) (.seq (.kill [8, 0, 10, 12, 32]) .skip))) (.seq (.seq (.reg [⟨some 49, .ld none (.tmp 9), none⟩]) (.kill [9])) (.block 0 (.seq (.seq (.reg [⟨some 52, .bin .eql (.tmp 49) (.const (.int .i64 0)), none⟩, ⟨some 51, .mov (.tmp 52), none⟩]) (.kill [52])) (.cond (.tmp 51) (.seq (.kill [49, 51]) (.seq (.seq (.reg [⟨some 53, .mov (.tmp 11), none⟩, ⟨some 6, .mov (.tmp 53), none⟩, ⟨some 7, .mov (.const (.int .i64 1)), none⟩]) (.kill [11, 53])) .ret)) (.seq (.kill [51]) (.seq (.seq (.reg [⟨some 55, .bin .eql (.tmp 49) (.const (.int .i64 12)), none⟩, ⟨some 54, .mov (.tmp 55), none⟩]) (.kill [49, 55])) (.cond (.tmp 54) (.seq (.kill [54]) (.seq (.seq (.reg [⟨some 56, .mov (.tmp 11), none⟩, ⟨some 6, .mov (.tmp 56), none⟩, ⟨some 7, .mov (.const (.int .i64 2)), none⟩]) (.kill [11, 56])) .ret)) (.seq (.kill [54]) (.seq (.seq (.reg [⟨some 50, .mov (.tmp 11), none⟩, ⟨some 6, .mov (.tmp 50), none⟩, ⟨some 7, .mov (.const (.int .i64 0)), none⟩]) (.kill [11, 50])) .ret)))))))))))))))⟩
theorem h_slices_choosePivotOrdered_uint64_ok : compFunH Go.Proofs.Tryz.prog n_slices_choosePivotOrdered_uint64 [] = some h_slices_choosePivotOrdered_uint64 := by kernel_rfl
def h_slices_reverseRangeOrdered_uint64 : HFun := ⟨32, [],
  .seq (.seq (.reg [⟨some 8, .mov (.tmp 1), none⟩, ⟨some 6, .mov (.tmp 8), none⟩]) (.kill [1, 8])) (.seq (.seq (.reg [⟨some 9, .mov (.tmp 2), none⟩, ⟨some 10, .bin .sub (.tmp 9) (.const (.int .i64 1)), none⟩, ⟨some 7, .mov (.tmp 10), none⟩]) (.kill [2, 10, 9])) (.block 0 (.loop [] (.seq (.seq (.seq (.reg [⟨some 11, .mov (.tmp 6), none⟩, ⟨some 12, .mov (.tmp 7), none⟩, ⟨some 13, .bin .lss (.tmp 11) (.tmp 12), none⟩]) (.kill [12, 11])) (.cond (.tmp 13) (.seq (.kill [13]) .skip) (.seq (.kill [0, 6, 7, 13]) (.exit 0)))) (.block 1 (.seq (.seq (.regd (.q ⟨some 14, .mov (.tmp 0), none⟩ (.q ⟨some 15, .mov (.tmp 6), none⟩ (.q ⟨some 16, .mov (.tmp 0), none⟩ (.q ⟨some 17, .mov (.tmp 7), none⟩ (.q ⟨some 18, .mov (.tmp 0), none⟩ (.q ⟨some 19, .mov (.tmp 7), none⟩ (.q ⟨some 20, .iad (.tmp 18) (.tmp 19) 1, none⟩ (.q ⟨some 21, .ld none (.tmp 20), none⟩ (.q ⟨some 22, .mov (.tmp 0), none⟩ (.q ⟨some 23, .mov (.tmp 6), none⟩ (.q ⟨some 24, .iad (.tmp 22) (.tmp 23) 1, none⟩ (.q ⟨some 25, .ld none (.tmp 24), none⟩ (.q ⟨some 26, .iad (.tmp 14) (.tmp 15) 1, none⟩ (.alt ⟨none, .st 1 (.tmp 26) (.tmp 21), none⟩ [⟨some 17, .mov (.tmp 7), none⟩, ⟨some 16, .mov (.tmp 0), none⟩] (.q ⟨some 27, .iad (.tmp 16) (.tmp 17) 1, none⟩ (.alt ⟨none, .st 1 (.tmp 27) (.tmp 25), none⟩ [] (.done false) .no)) .no))))))))))))))) (.kill [27, 26, 25, 24, 23, 22, 21, 20, 19, 18, 17, 16, 15, 14])) (.seq (.seq (.reg [⟨some 28, .mov (.tmp 6), none⟩, ⟨some 29, .bin .add (.tmp 28) (.const (.int .i64 1)), none⟩, ⟨some 6, .mov (.tmp 29), none⟩]) (.kill [29, 28])) (.seq (.reg [⟨some 30, .mov (.tmp 7), none⟩, ⟨some 31, .bin .sub (.tmp 30) (.const (.int .i64 1)), none⟩, ⟨some 7, .mov (.tmp 31), none⟩]) (.kill [31, 30])))))))))⟩
theorem h_slices_reverseRangeOrdered_uint64_ok : compFunH Go.Proofs.Tryz.prog n_slices_reverseRangeOrdered_uint64 [] = some h_slices_reverseRangeOrdered_uint64 := by kernel_rfl
def h_slices_partialInsertionSortOrdered_uint64 : HFun := ⟨133, [(6, none)],
  .seq (.seq (.reg [⟨some 6, .mov (.const (.bool false)), none⟩]) (.kill [6])) (.seq (.seq (.reg [⟨some 11, .mov (.tmp 1), none⟩, ⟨some 12, .bin .add (.tmp 11) (.const (.int .i64 1)), none⟩, ⟨some 7, .mov (.tmp 12), none⟩]) (.kill [12, 11])) (.seq (.seq (.reg [⟨some 8, .mov (.const (.int .i64 0)), none⟩]) (.block 0 (.loop [] (.seq (.seq (.seq (.reg [⟨some 13, .mov (.tmp 8), none⟩, ⟨some 14, .bin .lss (.tmp 13) (.const (.int .i64 5)), none⟩]) (.kill [13])) (.cond (.tmp 14) (.seq (.kill [14]) .skip) (.seq (.kill [7, 2, 0, 1, 8, 14]) (.exit 0)))) (.seq (.block 1 (.seq (.block 2 (.loop [] (.seq (.seq (.seq (.regd (.q ⟨some 17, .mov (.tmp 7), none⟩ (.q ⟨some 18, .mov (.tmp 2), none⟩ (.q ⟨some 19, .bin .lss (.tmp 17) (.tmp 18), none⟩ (.q ⟨some 20, .mov (.tmp 19), none⟩ (.q ⟨some 21, .mov (.tmp 0), some (20, true)⟩ (.q ⟨some 22, .mov (.tmp 7), some (20, true)⟩ (.q ⟨some 23, .iad (.tmp 21) (.tmp 22) 1, some (20, true)⟩ (.q ⟨some 24, .ld none (.tmp 23), some (20, true)⟩ (.q ⟨some 25, .mov (.tmp 0), some (20, true)⟩ (.q ⟨some 26, .mov (.tmp 7), some (20, true)⟩ (.q ⟨some 27, .bin .sub (.tmp 26) (.const (.int .i64 1)), some (20, true)⟩ (.q ⟨some 28, .iad (.tmp 25) (.tmp 27) 1, some (20, true)⟩ (.q ⟨some 29, .ld none (.tmp 28), some (20, true)⟩ (.alt ⟨some 30, .call (.func n_cmp_Less_uint64) [.tmp 24, .tmp 29], some (20, true)⟩ [] (.q ⟨some 31, .un .not (.tmp 30), some (20, true)⟩ (.q ⟨some 32, .pick (.tmp 20) (.tmp 31) (.const (.bool false)), none⟩ (.done false))) .no))))))))))))))) (.kill [31, 30, 29, 28, 27, 26, 25, 24, 23, 22, 21, 20, 19, 18, 17])) (.cond (.tmp 32) (.seq (.kill [32]) .skip) (.seq (.kill [32]) (.exit 2)))) (.block 3 (.seq (.reg [⟨some 33, .mov (.tmp 7), none⟩, ⟨some 34, .bin .add (.tmp 33) (.const (.int .i64 1)), none⟩, ⟨some 7, .mov (.tmp 34), none⟩]) (.kill [34, 33])))))) (.seq (.seq (.seq (.reg [⟨some 35, .mov (.tmp 7), none⟩, ⟨some 36, .mov (.tmp 2), none⟩, ⟨some 37, .bin .eql (.tmp 35) (.tmp 36), none⟩]) (.kill [36, 35])) (.cond (.tmp 37) (.seq (.kill [2, 1, 0, 7, 8, 37]) (.seq (.reg [⟨some 6, .mov (.const (.bool true)), none⟩]) .ret)) (.seq (.kill [37]) .skip))) (.seq (.seq (.seq (.reg [⟨some 38, .mov (.tmp 2), none⟩, ⟨some 39, .mov (.tmp 1), none⟩, ⟨some 40, .bin .sub (.tmp 38) (.tmp 39), none⟩, ⟨some 41, .bin .lss (.tmp 40) (.const (.int .i64 50)), none⟩]) (.kill [40, 39, 38])) (.cond (.tmp 41) (.seq (.kill [0, 7, 2, 8, 1, 41]) (.seq (.reg [⟨some 6, .mov (.const (.bool false)), none⟩]) .ret)) (.seq (.kill [41]) .skip))) (.seq (.seq (.regd (.q ⟨some 42, .mov (.tmp 0), none⟩ (.q ⟨some 43, .mov (.tmp 7), none⟩ (.q ⟨some 44, .mov (.tmp 0), none⟩ (.q ⟨some 45, .mov (.tmp 7), none⟩ (.q ⟨some 46, .bin .sub (.tmp 45) (.const (.int .i64 1)), none⟩ (.q ⟨some 47, .mov (.tmp 0), none⟩ (.q ⟨some 48, .mov (.tmp 7), none⟩ (.q ⟨some 49, .bin .sub (.tmp 48) (.const (.int .i64 1)), none⟩ (.q ⟨some 50, .iad (.tmp 47) (.tmp 49) 1, none⟩ (.q ⟨some 51, .ld none (.tmp 50), none⟩ (.q ⟨some 52, .mov (.tmp 0), none⟩ (.q ⟨some 53, .mov (.tmp 7), none⟩ (.q ⟨some 54, .iad (.tmp 52) (.tmp 53) 1, none⟩ (.q ⟨some 55, .ld none (.tmp 54), none⟩ (.q ⟨some 56, .iad (.tmp 42) (.tmp 43) 1, none⟩ (.alt ⟨none, .st 1 (.tmp 56) (.tmp 51), none⟩ [⟨some 46, .bin .sub (.tmp 45) (.const (.int .i64 1)), none⟩, ⟨some 45, .mov (.tmp 7), none⟩, ⟨some 44, .mov (.tmp 0), none⟩] (.q ⟨some 57, .iad (.tmp 44) (.tmp 46) 1, none⟩ (.alt ⟨none, .st 1 (.tmp 57) (.tmp 55), none⟩ [] (.done false) .no)) .no))))))))))))))))) (.kill [57, 56, 55, 54, 53, 52, 51, 50, 49, 48, 47, 46, 45, 44, 43, 42])) (.seq (.seq (.seq (.reg [⟨some 58, .mov (.tmp 7), none⟩, ⟨some 59, .mov (.tmp 1), none⟩, ⟨some 60, .bin .sub (.tmp 58) (.tmp 59), none⟩, ⟨some 61, .bin .geq (.tmp 60) (.const (.int .i64 2)), none⟩]) (.kill [60, 59, 58])) (.cond (.tmp 61) (.seq (.kill [61]) (.seq (.seq (.reg [⟨some 62, .mov (.tmp 7), none⟩, ⟨some 63, .bin .sub (.tmp 62) (.const (.int .i64 1)), none⟩, ⟨some 9, .mov (.tmp 63), none⟩]) (.kill [63, 62])) (.block 4 (.loop [] (.seq (.seq (.seq (.reg [⟨some 64, .mov (.tmp 9), none⟩, ⟨some 65, .bin .geq (.tmp 64) (.const (.int .i64 1)), none⟩]) (.kill [64])) (.cond (.tmp 65) (.seq (.kill [65]) .skip) (.seq (.kill [9, 65]) (.exit 4)))) (.seq (.block 5 (.seq (.seq (.seq (.regd (.q ⟨some 68, .mov (.tmp 0), none⟩ (.q ⟨some 69, .mov (.tmp 9), none⟩ (.q ⟨some 70, .iad (.tmp 68) (.tmp 69) 1, none⟩ (.q ⟨some 71, .ld none (.tmp 70), none⟩ (.q ⟨some 72, .mov (.tmp 0), none⟩ (.q ⟨some 73, .mov (.tmp 9), none⟩ (.q ⟨some 74, .bin .sub (.tmp 73) (.const (.int .i64 1)), none⟩ (.q ⟨some 75, .iad (.tmp 72) (.tmp 74) 1, none⟩ (.q ⟨some 76, .ld none (.tmp 75), none⟩ (.alt ⟨some 77, .call (.func n_cmp_Less_uint64) [.tmp 71, .tmp 76], none⟩ [] (.q ⟨some 78, .un .not (.tmp 77), none⟩ (.done false)) .no))))))))))) (.kill [77, 76, 75, 74, 73, 72, 71, 70, 69, 68])) (.cond (.tmp 78) (.seq (.kill [9, 78]) (.exit 4)) (.seq (.kill [78]) .skip))) (.seq (.regd (.q ⟨some 79, .mov (.tmp 0), none⟩ (.q ⟨some 80, .mov (.tmp 9), none⟩ (.q ⟨some 81, .mov (.tmp 0), none⟩ (.q ⟨some 82, .mov (.tmp 9), none⟩ (.q ⟨some 83, .bin .sub (.tmp 82) (.const (.int .i64 1)), none⟩ (.q ⟨some 84, .mov (.tmp 0), none⟩ (.q ⟨some 85, .mov (.tmp 9), none⟩ (.q ⟨some 86, .bin .sub (.tmp 85) (.const (.int .i64 1)), none⟩ (.q ⟨some 87, .iad (.tmp 84) (.tmp 86) 1, none⟩ (.q ⟨some 88, .ld none (.tmp 87), none⟩ (.q ⟨some 89, .mov (.tmp 0), none⟩ (.q ⟨some 90, .mov (.tmp 9), none⟩ (.q ⟨some 91, .iad (.tmp 89) (.tmp 90) 1, none⟩ (.q ⟨some 92, .ld none (.tmp 91), none⟩ (.q ⟨some 93, .iad (.tmp 79) (.tmp 80) 1, none⟩ (.alt ⟨none, .st 1 (.tmp 93) (.tmp 88), none⟩ [⟨some 83, .bin .sub (.tmp 82) (.const (.int .i64 1)), none⟩, ⟨some 82, .mov (.tmp 9), none⟩, ⟨some 81, .mov (.tmp 0), none⟩] (.q ⟨some 94, .iad (.tmp 81) (.tmp 83) 1, none⟩ (.alt ⟨none, .st 1 (.tmp 94) (.tmp 92), none⟩ [] (.done false) .no)) .no))))))))))))))))) (.kill [94, 93, 92, 91, 90, 89, 88, 87, 86, 85, 84, 83, 82, 81, 80, 79])))) (.seq (.reg [⟨some 66, .mov (.tmp 9), none⟩, ⟨some 67, .bin .sub (.tmp 66) (.const (.int .i64 1)), none⟩, ⟨some 9, .mov (.tmp 67), none⟩]) (.kill [67, 66])))))))) (.seq (.kill [61]) .skip))) (.seq (.seq (.reg [⟨some 95, .mov (.tmp 2), none⟩, ⟨some 96, .mov (.tmp 7), none⟩, ⟨some 97, .bin .sub (.tmp 95) (.tmp 96), none⟩, ⟨some 98, .bin .geq (.tmp 97) (.const (.int .i64 2)), none⟩]) (.kill [97, 96, 95])) (.cond (.tmp 98) (.seq (.kill [98]) (.seq (.seq (.reg [⟨some 99, .mov (.tmp 7), none⟩, ⟨some 100, .bin .add (.tmp 99) (.const (.int .i64 1)), none⟩, ⟨some 10, .mov (.tmp 100), none⟩]) (.kill [100, 99])) (.block 6 (.loop [] (.seq (.seq (.seq (.reg [⟨some 101, .mov (.tmp 10), none⟩, ⟨some 102, .mov (.tmp 2), none⟩, ⟨some 103, .bin .lss (.tmp 101) (.tmp 102), none⟩]) (.kill [102, 101])) (.cond (.tmp 103) (.seq (.kill [103]) .skip) (.seq (.kill [10, 103]) (.exit 6)))) (.seq (.block 7 (.seq (.seq (.seq (.regd (.q ⟨some 106, .mov (.tmp 0), none⟩ (.q ⟨some 107, .mov (.tmp 10), none⟩ (.q ⟨some 108, .iad (.tmp 106) (.tmp 107) 1, none⟩ (.q ⟨some 109, .ld none (.tmp 108), none⟩ (.q ⟨some 110, .mov (.tmp 0), none⟩ (.q ⟨some 111, .mov (.tmp 10), none⟩ (.q ⟨some 112, .bin .sub (.tmp 111) (.const (.int .i64 1)), none⟩ (.q ⟨some 113, .iad (.tmp 110) (.tmp 112) 1, none⟩ (.q ⟨some 114, .ld none (.tmp 113), none⟩ (.alt ⟨some 115, .call (.func n_cmp_Less_uint64) [.tmp 109, .tmp 114], none⟩ [] (.q ⟨some 116, .un .not (.tmp 115), none⟩ (.done false)) .no))))))))))) (.kill [115, 114, 113, 112, 111, 110, 109, 108, 107, 106])) (.cond (.tmp 116) (.seq (.kill [10, 116]) (.exit 6)) (.seq (.kill [116]) .skip))) (.seq (.regd (.q ⟨some 117, .mov (.tmp 0), none⟩ (.q ⟨some 118, .mov (.tmp 10), none⟩ (.q ⟨some 119, .mov (.tmp 0), none⟩ (.q ⟨some 120, .mov (.tmp 10), none⟩ (.q ⟨some 121, .bin .sub (.tmp 120) (.const (.int .i64 1)), none⟩ (.q ⟨some 122, .mov (.tmp 0), none⟩ (.q ⟨some 123, .mov (.tmp 10), none⟩ (.q ⟨some 124, .bin .sub (.tmp 123) (.const (.int .i64 1)), none⟩ (.q ⟨some 125, .iad (.tmp 122) (.tmp 124) 1, none⟩ (.q ⟨some 126, .ld none (.tmp 125), none⟩ (.q ⟨some 127, .mov (.tmp 0), none⟩ (.q ⟨some 128, .mov (.tmp 10), none⟩ (.q ⟨some 129, .iad (.tmp 127) (.tmp 128) 1, none⟩ (.q ⟨some 130, .ld none (.tmp 129), none⟩ (.q ⟨some 131, .iad (.tmp 117) (.tmp 118) 1, none⟩ (.alt ⟨none, .st 1 (.tmp 131) (.tmp 126), none⟩ [⟨some 121, .bin .sub (.tmp 120) (.const (.int .i64 1)), none⟩, ⟨some 120, .mov (.tmp 10), none⟩, ⟨some 119, .mov (.tmp 0), none⟩] (.q ⟨some 132, .iad (.tmp 119) (.tmp 121) 1, none⟩ (.alt ⟨none, .st 1 (.tmp 132) (.tmp 130), none⟩ [] (.done false) .no)) .no))))))))))))))))) (.kill [132, 131, 130, 129, 128, 127, 126, 125, 124, 123, 122, 121, 120, 119, 118, 117])))) (.seq (.reg [⟨some 104, .mov (.tmp 10), none⟩, ⟨some 105, .bin .add (.tmp 104) (.const (.int .i64 1)), none⟩, ⟨some 10, .mov (.tmp 105), none⟩]) (.kill [105, 104])))))))) (.seq (.kill [98]) .skip))))))))) (.seq (.reg [⟨some 15, .mov (.tmp 8), none⟩, ⟨some 16, .bin .add (.tmp 15) (.const (.int .i64 1)), none⟩, ⟨some 8, .mov (.tmp 16), none⟩]) (.kill [16, 15]))))))) (.seq (.reg [⟨some 6, .mov (.const (.bool false)), none⟩]) .ret)))⟩
theorem h_slices_partialInsertionSortOrdered_uint64_ok : compFunH Go.Proofs.Tryz.prog n_slices_partialInsertionSortOrdered_uint64 [] = some h_slices_partialInsertionSortOrdered_uint64 := by kernel_rfl
def h_cmp_Less_uint64 : HFun := ⟨17, [(4, none)],
  .seq (.seq (.reg [⟨some 4, .mov (.const (.bool false)), none⟩]) (.kill [4])) (.seq (.seq (.reg [⟨some 5, .mov (.tmp 0), none⟩, ⟨some 6, .call (.func n_cmp_isNaN_uint64) [.tmp 5], none⟩, ⟨some 7, .mov (.tmp 6), none⟩, ⟨some 8, .mov (.tmp 1), some (7, true)⟩, ⟨some 9, .call (.func n_cmp_isNaN_uint64) [.tmp 8], some (7, true)⟩, ⟨some 10, .un .not (.tmp 9), some (7, true)⟩, ⟨some 11, .pick (.tmp 7) (.tmp 10) (.const (.bool false)), none⟩, ⟨some 12, .mov (.tmp 11), none⟩, ⟨some 13, .mov (.tmp 0), some (12, false)⟩, ⟨some 14, .mov (.tmp 1), some (12, false)⟩, ⟨some 15, .bin .lss (.tmp 13) (.tmp 14), some (12, false)⟩, ⟨some 16, .pick (.tmp 12) (.const (.bool true)) (.tmp 15), none⟩, ⟨some 4, .mov (.tmp 16), none⟩]) (.kill [0, 1, 16, 15, 14, 13, 12, 11, 10, 9, 8, 7, 6, 5])) .ret)⟩
theorem h_cmp_Less_uint64_ok : compFunH Go.Proofs.Tryz.prog n_cmp_Less_uint64 [] = some h_cmp_Less_uint64 := by kernel_rfl
def h_slices_partitionEqualOrdered_uint64 : HFun := ⟨84, [(8, none)],
  .seq (.seq (.reg [⟨some 8, .mov (.const (.int .i64 0)), none⟩]) (.kill [8])) (.seq (.seq (.regd (.q ⟨some 11, .mov (.tmp 0), none⟩ (.q ⟨some 12, .mov (.tmp 1), none⟩ (.q ⟨some 13, .mov (.tmp 0), none⟩ (.q ⟨some 14, .mov (.tmp 3), none⟩ (.q ⟨some 15, .mov (.tmp 0), none⟩ (.q ⟨some 16, .mov (.tmp 3), none⟩ (.q ⟨some 17, .iad (.tmp 15) (.tmp 16) 1, none⟩ (.q ⟨some 18, .ld none (.tmp 17), none⟩ (.q ⟨some 19, .mov (.tmp 0), none⟩ (.q ⟨some 20, .mov (.tmp 1), none⟩ (.q ⟨some 21, .iad (.tmp 19) (.tmp 20) 1, none⟩ (.q ⟨some 22, .ld none (.tmp 21), none⟩ (.q ⟨some 23, .iad (.tmp 11) (.tmp 12) 1, none⟩ (.alt ⟨none, .st 1 (.tmp 23) (.tmp 18), none⟩ [⟨some 14, .mov (.tmp 3), none⟩, ⟨some 13, .mov (.tmp 0), none⟩] (.q ⟨some 24, .iad (.tmp 13) (.tmp 14) 1, none⟩ (.alt ⟨none, .st 1 (.tmp 24) (.tmp 22), none⟩ [] (.done false) .no)) .no))))))))))))))) (.kill [3, 24, 23, 22, 21, 20, 19, 18, 17, 16, 15, 14, 13, 12, 11])) (.seq (.seq (.reg [⟨some 25, .mov (.tmp 1), none⟩, ⟨some 26, .bin .add (.tmp 25) (.const (.int .i64 1)), none⟩, ⟨some 27, .mov (.tmp 2), none⟩, ⟨some 28, .bin .sub (.tmp 27) (.const (.int .i64 1)), none⟩, ⟨some 9, .mov (.tmp 26), none⟩, ⟨some 10, .mov (.tmp 28), none⟩]) (.kill [2, 28, 27, 26, 25])) (.seq (.block 0 (.loop [] (.block 1 (.seq (.block 2 (.loop [] (.seq (.seq (.seq (.regd (.q ⟨some 29, .mov (.tmp 9), none⟩ (.q ⟨some 30, .mov (.tmp 10), none⟩ (.q ⟨some 31, .bin .leq (.tmp 29) (.tmp 30), none⟩ (.q ⟨some 32, .mov (.tmp 31), none⟩ (.q ⟨some 33, .mov (.tmp 0), some (32, true)⟩ (.q ⟨some 34, .mov (.tmp 1), some (32, true)⟩ (.q ⟨some 35, .iad (.tmp 33) (.tmp 34) 1, some (32, true)⟩ (.q ⟨some 36, .ld none (.tmp 35), some (32, true)⟩ (.q ⟨some 37, .mov (.tmp 0), some (32, true)⟩ (.q ⟨some 38, .mov (.tmp 9), some (32, true)⟩ (.q ⟨some 39, .iad (.tmp 37) (.tmp 38) 1, some (32, true)⟩ (.q ⟨some 40, .ld none (.tmp 39), some (32, true)⟩ (.alt ⟨some 41, .call (.func n_cmp_Less_uint64) [.tmp 36, .tmp 40], some (32, true)⟩ [] (.q ⟨some 42, .un .not (.tmp 41), some (32, true)⟩ (.q ⟨some 43, .pick (.tmp 32) (.tmp 42) (.const (.bool false)), none⟩ (.done false))) .no)))))))))))))) (.kill [42, 41, 40, 39, 38, 37, 36, 35, 34, 33, 32, 31, 30, 29])) (.cond (.tmp 43) (.seq (.kill [43]) .skip) (.seq (.kill [43]) (.exit 2)))) (.block 3 (.seq (.reg [⟨some 44, .mov (.tmp 9), none⟩, ⟨some 45, .bin .add (.tmp 44) (.const (.int .i64 1)), none⟩, ⟨some 9, .mov (.tmp 45), none⟩]) (.kill [45, 44])))))) (.seq (.block 4 (.loop [] (.seq (.seq (.seq (.regd (.q ⟨some 46, .mov (.tmp 9), none⟩ (.q ⟨some 47, .mov (.tmp 10), none⟩ (.q ⟨some 48, .bin .leq (.tmp 46) (.tmp 47), none⟩ (.q ⟨some 49, .mov (.tmp 48), none⟩ (.q ⟨some 50, .mov (.tmp 0), some (49, true)⟩ (.q ⟨some 51, .mov (.tmp 1), some (49, true)⟩ (.q ⟨some 52, .iad (.tmp 50) (.tmp 51) 1, some (49, true)⟩ (.q ⟨some 53, .ld none (.tmp 52), some (49, true)⟩ (.q ⟨some 54, .mov (.tmp 0), some (49, true)⟩ (.q ⟨some 55, .mov (.tmp 10), some (49, true)⟩ (.q ⟨some 56, .iad (.tmp 54) (.tmp 55) 1, some (49, true)⟩ (.q ⟨some 57, .ld none (.tmp 56), some (49, true)⟩ (.alt ⟨some 58, .call (.func n_cmp_Less_uint64) [.tmp 53, .tmp 57], some (49, true)⟩ [] (.q ⟨some 59, .pick (.tmp 49) (.tmp 58) (.const (.bool false)), none⟩ (.done false)) .no)))))))))))))) (.kill [58, 57, 56, 55, 54, 53, 52, 51, 50, 49, 48, 47, 46])) (.cond (.tmp 59) (.seq (.kill [59]) .skip) (.seq (.kill [59]) (.exit 4)))) (.block 5 (.seq (.reg [⟨some 60, .mov (.tmp 10), none⟩, ⟨some 61, .bin .sub (.tmp 60) (.const (.int .i64 1)), none⟩, ⟨some 10, .mov (.tmp 61), none⟩]) (.kill [61, 60])))))) (.seq (.seq (.seq (.reg [⟨some 62, .mov (.tmp 9), none⟩, ⟨some 63, .mov (.tmp 10), none⟩, ⟨some 64, .bin .gtr (.tmp 62) (.tmp 63), none⟩]) (.kill [63, 62])) (.cond (.tmp 64) (.seq (.kill [0, 10, 1, 64]) (.exit 0)) (.seq (.kill [64]) .skip))) (.seq (.seq (.regd (.q ⟨some 65, .mov (.tmp 0), none⟩ (.q ⟨some 66, .mov (.tmp 9), none⟩ (.q ⟨some 67, .mov (.tmp 0), none⟩ (.q ⟨some 68, .mov (.tmp 10), none⟩ (.q ⟨some 69, .mov (.tmp 0), none⟩ (.q ⟨some 70, .mov (.tmp 10), none⟩ (.q ⟨some 71, .iad (.tmp 69) (.tmp 70) 1, none⟩ (.q ⟨some 72, .ld none (.tmp 71), none⟩ (.q ⟨some 73, .mov (.tmp 0), none⟩ (.q ⟨some 74, .mov (.tmp 9), none⟩ (.q ⟨some 75, .iad (.tmp 73) (.tmp 74) 1, none⟩ (.q ⟨some 76, .ld none (.tmp 75), none⟩ (.q ⟨some 77, .iad (.tmp 65) (.tmp 66) 1, none⟩ (.alt ⟨none, .st 1 (.tmp 77) (.tmp 72), none⟩ [⟨some 68, .mov (.tmp 10), none⟩, ⟨some 67, .mov (.tmp 0), none⟩] (.q ⟨some 78, .iad (.tmp 67) (.tmp 68) 1, none⟩ (.alt ⟨none, .st 1 (.tmp 78) (.tmp 76), none⟩ [] (.done false) .no)) .no))))))))))))))) (.kill [78, 77, 76, 75, 74, 73, 72, 71, 70, 69, 68, 67, 66, 65])) (.seq (.seq (.reg [⟨some 79, .mov (.tmp 9), none⟩, ⟨some 80, .bin .add (.tmp 79) (.const (.int .i64 1)), none⟩, ⟨some 9, .mov (.tmp 80), none⟩]) (.kill [80, 79])) (.seq (.reg [⟨some 81, .mov (.tmp 10), none⟩, ⟨some 82, .bin .sub (.tmp 81) (.const (.int .i64 1)), none⟩, ⟨some 10, .mov (.tmp 82), none⟩]) (.kill [82, 81])))))))))) (.seq (.seq (.reg [⟨some 83, .mov (.tmp 9), none⟩, ⟨some 8, .mov (.tmp 83), none⟩]) (.kill [9, 83])) .ret))))⟩
theorem h_slices_partitionEqualOrdered_uint64_ok : compFunH Go.Proofs.Tryz.prog n_slices_partitionEqualOrdered_uint64 [] = some h_slices_partitionEqualOrdered_uint64 := by kernel_rfl
def h_slices_partitionOrdered_uint64 : HFun := ⟨168, [(8, none), (9, none)],
  .seq (.seq (.reg [⟨some 8, .mov (.const (.int .i64 0)), none⟩, ⟨some 9, .mov (.const (.bool false)), none⟩]) (.kill [9, 8])) (.seq (.seq (.regd (.q ⟨some 12, .mov (.tmp 0), none⟩ (.q ⟨some 13, .mov (.tmp 1), none⟩ (.q ⟨some 14, .mov (.tmp 0), none⟩ (.q ⟨some 15, .mov (.tmp 3), none⟩ (.q ⟨some 16, .mov (.tmp 0), none⟩ (.q ⟨some 17, .mov (.tmp 3), none⟩ (.q ⟨some 18, .iad (.tmp 16) (.tmp 17) 1, none⟩ (.q ⟨some 19, .ld none (.tmp 18), none⟩ (.q ⟨some 20, .mov (.tmp 0), none⟩ (.q ⟨some 21, .mov (.tmp 1), none⟩ (.q ⟨some 22, .iad (.tmp 20) (.tmp 21) 1, none⟩ (.q ⟨some 23, .ld none (.tmp 22), none⟩ (.q ⟨some 24, .iad (.tmp 12) (.tmp 13) 1, none⟩ (.alt ⟨none, .st 1 (.tmp 24) (.tmp 19), none⟩ [⟨some 15, .mov (.tmp 3), none⟩, ⟨some 14, .mov (.tmp 0), none⟩] (.q ⟨some 25, .iad (.tmp 14) (.tmp 15) 1, none⟩ (.alt ⟨none, .st 1 (.tmp 25) (.tmp 23), none⟩ [] (.done false) .no)) .no))))))))))))))) (.kill [3, 25, 24, 23, 22, 21, 20, 19, 18, 17, 16, 15, 14, 13, 12])) (.seq (.seq (.reg [⟨some 26, .mov (.tmp 1), none⟩, ⟨some 27, .bin .add (.tmp 26) (.const (.int .i64 1)), none⟩, ⟨some 28, .mov (.tmp 2), none⟩, ⟨some 29, .bin .sub (.tmp 28) (.const (.int .i64 1)), none⟩, ⟨some 10, .mov (.tmp 27), none⟩, ⟨some 11, .mov (.tmp 29), none⟩]) (.kill [2, 29, 28, 27, 26])) (.seq (.block 0 (.loop [] (.seq (.seq (.seq (.regd (.q ⟨some 30, .mov (.tmp 10), none⟩ (.q ⟨some 31, .mov (.tmp 11), none⟩ (.q ⟨some 32, .bin .leq (.tmp 30) (.tmp 31), none⟩ (.q ⟨some 33, .mov (.tmp 32), none⟩ (.q ⟨some 34, .mov (.tmp 0), some (33, true)⟩ (.q ⟨some 35, .mov (.tmp 10), some (33, true)⟩ (.q ⟨some 36, .iad (.tmp 34) (.tmp 35) 1, some (33, true)⟩ (.q ⟨some 37, .ld none (.tmp 36), some (33, true)⟩ (.q ⟨some 38, .mov (.tmp 0), some (33, true)⟩ (.q ⟨some 39, .mov (.tmp 1), some (33, true)⟩ (.q ⟨some 40, .iad (.tmp 38) (.tmp 39) 1, some (33, true)⟩ (.q ⟨some 41, .ld none (.tmp 40), some (33, true)⟩ (.alt ⟨some 42, .call (.func n_cmp_Less_uint64) [.tmp 37, .tmp 41], some (33, true)⟩ [] (.q ⟨some 43, .pick (.tmp 33) (.tmp 42) (.const (.bool false)), none⟩ (.done false)) .no)))))))))))))) (.kill [42, 41, 40, 39, 38, 37, 36, 35, 34, 33, 32, 31, 30])) (.cond (.tmp 43) (.seq (.kill [43]) .skip) (.seq (.kill [43]) (.exit 0)))) (.block 1 (.seq (.reg [⟨some 44, .mov (.tmp 10), none⟩, ⟨some 45, .bin .add (.tmp 44) (.const (.int .i64 1)), none⟩, ⟨some 10, .mov (.tmp 45), none⟩]) (.kill [45, 44])))))) (.seq (.block 2 (.loop [] (.seq (.seq (.seq (.regd (.q ⟨some 46, .mov (.tmp 10), none⟩ (.q ⟨some 47, .mov (.tmp 11), none⟩ (.q ⟨some 48, .bin .leq (.tmp 46) (.tmp 47), none⟩ (.q ⟨some 49, .mov (.tmp 48), none⟩ (.q ⟨some 50, .mov (.tmp 0), some (49, true)⟩ (.q ⟨some 51, .mov (.tmp 11), some (49, true)⟩ (.q ⟨some 52, .iad (.tmp 50) (.tmp 51) 1, some (49, true)⟩ (.q ⟨some 53, .ld none (.tmp 52), some (49, true)⟩ (.q ⟨some 54, .mov (.tmp 0), some (49, true)⟩ (.q ⟨some 55, .mov (.tmp 1), some (49, true)⟩ (.q ⟨some 56, .iad (.tmp 54) (.tmp 55) 1, some (49, true)⟩ (.q ⟨some 57, .ld none (.tmp 56), some (49, true)⟩ (.alt ⟨some 58, .call (.func n_cmp_Less_uint64) [.tmp 53, .tmp 57], some (49, true)⟩ [] (.q ⟨some 59, .un .not (.tmp 58), some (49, true)⟩ (.q ⟨some 60, .pick (.tmp 49) (.tmp 59) (.const (.bool false)), none⟩ (.done false))) .no)))))))))))))) (.kill [59, 58, 57, 56, 55, 54, 53, 52, 51, 50, 49, 48, 47, 46])) (.cond (.tmp 60) (.seq (.kill [60]) .skip) (.seq (.kill [60]) (.exit 2)))) (.block 3 (.seq (.reg [⟨some 61, .mov (.tmp 11), none⟩, ⟨some 62, .bin .sub (.tmp 61) (.const (.int .i64 1)), none⟩, ⟨some 11, .mov (.tmp 62), none⟩]) (.kill [62, 61])))))) (.seq (.seq (.seq (.reg [⟨some 63, .mov (.tmp 10), none⟩, ⟨some 64, .mov (.tmp 11), none⟩, ⟨some 65, .bin .gtr (.tmp 63) (.tmp 64), none⟩]) (.kill [64, 63])) (.cond (.tmp 65) (.seq (.kill [10, 65]) (.seq (.seq (.regd (.q ⟨some 66, .mov (.tmp 0), none⟩ (.q ⟨some 67, .mov (.tmp 11), none⟩ (.q ⟨some 68, .mov (.tmp 0), none⟩ (.q ⟨some 69, .mov (.tmp 1), none⟩ (.q ⟨some 70, .mov (.tmp 0), none⟩ (.q ⟨some 71, .mov (.tmp 1), none⟩ (.q ⟨some 72, .iad (.tmp 70) (.tmp 71) 1, none⟩ (.q ⟨some 73, .ld none (.tmp 72), none⟩ (.q ⟨some 74, .mov (.tmp 0), none⟩ (.q ⟨some 75, .mov (.tmp 11), none⟩ (.q ⟨some 76, .iad (.tmp 74) (.tmp 75) 1, none⟩ (.q ⟨some 77, .ld none (.tmp 76), none⟩ (.q ⟨some 78, .iad (.tmp 66) (.tmp 67) 1, none⟩ (.alt ⟨none, .st 1 (.tmp 78) (.tmp 73), none⟩ [⟨some 69, .mov (.tmp 1), none⟩, ⟨some 68, .mov (.tmp 0), none⟩] (.q ⟨some 79, .iad (.tmp 68) (.tmp 69) 1, none⟩ (.alt ⟨none, .st 1 (.tmp 79) (.tmp 77), none⟩ [] (.done false) .no)) .no))))))))))))))) (.kill [0, 1, 79, 78, 77, 76, 75, 74, 73, 72, 71, 70, 69, 68, 67, 66])) (.seq (.seq (.reg [⟨some 80, .mov (.tmp 11), none⟩, ⟨some 8, .mov (.tmp 80), none⟩, ⟨some 9, .mov (.const (.bool true)), none⟩]) (.kill [11, 80])) .ret))) (.seq (.kill [65]) .skip))) (.seq (.seq (.regd (.q ⟨some 81, .mov (.tmp 0), none⟩ (.q ⟨some 82, .mov (.tmp 10), none⟩ (.q ⟨some 83, .mov (.tmp 0), none⟩ (.q ⟨some 84, .mov (.tmp 11), none⟩ (.q ⟨some 85, .mov (.tmp 0), none⟩ (.q ⟨some 86, .mov (.tmp 11), none⟩ (.q ⟨some 87, .iad (.tmp 85) (.tmp 86) 1, none⟩ (.q ⟨some 88, .ld none (.tmp 87), none⟩ (.q ⟨some 89, .mov (.tmp 0), none⟩ (.q ⟨some 90, .mov (.tmp 10), none⟩ (.q ⟨some 91, .iad (.tmp 89) (.tmp 90) 1, none⟩ (.q ⟨some 92, .ld none (.tmp 91), none⟩ (.q ⟨some 93, .iad (.tmp 81) (.tmp 82) 1, none⟩ (.alt ⟨none, .st 1 (.tmp 93) (.tmp 88), none⟩ [⟨some 84, .mov (.tmp 11), none⟩, ⟨some 83, .mov (.tmp 0), none⟩] (.q ⟨some 94, .iad (.tmp 83) (.tmp 84) 1, none⟩ (.alt ⟨none, .st 1 (.tmp 94) (.tmp 92), none⟩ [] (.done false) .no)) .no))))))))))))))) (.kill [94, 93, 92, 91, 90, 89, 88, 87, 86, 85, 84, 83, 82, 81])) (.seq (.seq (.reg [⟨some 95, .mov (.tmp 10), none⟩, ⟨some 96, .bin .add (.tmp 95) (.const (.int .i64 1)), none⟩, ⟨some 10, .mov (.tmp 96), none⟩]) (.kill [96, 95])) (.seq (.seq (.reg [⟨some 97, .mov (.tmp 11), none⟩, ⟨some 98, .bin .sub (.tmp 97) (.const (.int .i64 1)), none⟩, ⟨some 11, .mov (.tmp 98), none⟩]) (.kill [98, 97])) (.seq (.block 4 (.loop [] (.block 5 (.seq (.block 6 (.loop [] (.seq (.seq (.seq (.regd (.q ⟨some 99, .mov (.tmp 10), none⟩ (.q ⟨some 100, .mov (.tmp 11), none⟩ (.q ⟨some 101, .bin .leq (.tmp 99) (.tmp 100), none⟩ (.q ⟨some 102, .mov (.tmp 101), none⟩ (.q ⟨some 103, .mov (.tmp 0), some (102, true)⟩ (.q ⟨some 104, .mov (.tmp 10), some (102, true)⟩ (.q ⟨some 105, .iad (.tmp 103) (.tmp 104) 1, some (102, true)⟩ (.q ⟨some 106, .ld none (.tmp 105), some (102, true)⟩ (.q ⟨some 107, .mov (.tmp 0), some (102, true)⟩ (.q ⟨some 108, .mov (.tmp 1), some (102, true)⟩ (.q ⟨some 109, .iad (.tmp 107) (.tmp 108) 1, some (102, true)⟩ (.q ⟨some 110, .ld none (.tmp 109), some (102, true)⟩ (.alt ⟨some 111, .call (.func n_cmp_Less_uint64) [.tmp 106, .tmp 110], some (102, true)⟩ [] (.q ⟨some 112, .pick (.tmp 102) (.tmp 111) (.const (.bool false)), none⟩ (.done false)) .no)))))))))))))) (.kill [111, 110, 109, 108, 107, 106, 105, 104, 103, 102, 101, 100, 99])) (.cond (.tmp 112) (.seq (.kill [112]) .skip) (.seq (.kill [112]) (.exit 6)))) (.block 7 (.seq (.reg [⟨some 113, .mov (.tmp 10), none⟩, ⟨some 114, .bin .add (.tmp 113) (.const (.int .i64 1)), none⟩, ⟨some 10, .mov (.tmp 114), none⟩]) (.kill [114, 113])))))) (.seq (.block 8 (.loop [] (.seq (.seq (.seq (.regd (.q ⟨some 115, .mov (.tmp 10), none⟩ (.q ⟨some 116, .mov (.tmp 11), none⟩ (.q ⟨some 117, .bin .leq (.tmp 115) (.tmp 116), none⟩ (.q ⟨some 118, .mov (.tmp 117), none⟩ (.q ⟨some 119, .mov (.tmp 0), some (118, true)⟩ (.q ⟨some 120, .mov (.tmp 11), some (118, true)⟩ (.q ⟨some 121, .iad (.tmp 119) (.tmp 120) 1, some (118, true)⟩ (.q ⟨some 122, .ld none (.tmp 121), some (118, true)⟩ (.q ⟨some 123, .mov (.tmp 0), some (118, true)⟩ (.q ⟨some 124, .mov (.tmp 1), some (118, true)⟩ (.q ⟨some 125, .iad (.tmp 123) (.tmp 124) 1, some (118, true)⟩ (.q ⟨some 126, .ld none (.tmp 125), some (118, true)⟩ (.alt ⟨some 127, .call (.func n_cmp_Less_uint64) [.tmp 122, .tmp 126], some (118, true)⟩ [] (.q ⟨some 128, .un .not (.tmp 127), some (118, true)⟩ (.q ⟨some 129, .pick (.tmp 118) (.tmp 128) (.const (.bool false)), none⟩ (.done false))) .no)))))))))))))) (.kill [128, 127, 126, 125, 124, 123, 122, 121, 120, 119, 118, 117, 116, 115])) (.cond (.tmp 129) (.seq (.kill [129]) .skip) (.seq (.kill [129]) (.exit 8)))) (.block 9 (.seq (.reg [⟨some 130, .mov (.tmp 11), none⟩, ⟨some 131, .bin .sub (.tmp 130) (.const (.int .i64 1)), none⟩, ⟨some 11, .mov (.tmp 131), none⟩]) (.kill [131, 130])))))) (.seq (.seq (.seq (.reg [⟨some 132, .mov (.tmp 10), none⟩, ⟨some 133, .mov (.tmp 11), none⟩, ⟨some 134, .bin .gtr (.tmp 132) (.tmp 133), none⟩]) (.kill [133, 132])) (.cond (.tmp 134) (.seq (.kill [10, 134]) (.exit 4)) (.seq (.kill [134]) .skip))) (.seq (.seq (.regd (.q ⟨some 135, .mov (.tmp 0), none⟩ (.q ⟨some 136, .mov (.tmp 10), none⟩ (.q ⟨some 137, .mov (.tmp 0), none⟩ (.q ⟨some 138, .mov (.tmp 11), none⟩ (.q ⟨some 139, .mov (.tmp 0), none⟩ (.q ⟨some 140, .mov (.tmp 11), none⟩ (.q ⟨some 141, .iad (.tmp 139) (.tmp 140) 1, none⟩ (.q ⟨some 142, .ld none (.tmp 141), none⟩ (.q ⟨some 143, .mov (.tmp 0), none⟩ (.q ⟨some 144, .mov (.tmp 10), none⟩ (.q ⟨some 145, .iad (.tmp 143) (.tmp 144) 1, none⟩ (.q ⟨some 146, .ld none (.tmp 145), none⟩ (.q ⟨some 147, .iad (.tmp 135) (.tmp 136) 1, none⟩ (.alt ⟨none, .st 1 (.tmp 147) (.tmp 142), none⟩ [⟨some 138, .mov (.tmp 11), none⟩, ⟨some 137, .mov (.tmp 0), none⟩] (.q ⟨some 148, .iad (.tmp 137) (.tmp 138) 1, none⟩ (.alt ⟨none, .st 1 (.tmp 148) (.tmp 146), none⟩ [] (.done false) .no)) .no))))))))))))))) (.kill [148, 147, 146, 145, 144, 143, 142, 141, 140, 139, 138, 137, 136, 135])) (.seq (.seq (.reg [⟨some 149, .mov (.tmp 10), none⟩, ⟨some 150, .bin .add (.tmp 149) (.const (.int .i64 1)), none⟩, ⟨some 10, .mov (.tmp 150), none⟩]) (.kill [150, 149])) (.seq (.reg [⟨some 151, .mov (.tmp 11), none⟩, ⟨some 152, .bin .sub (.tmp 151) (.const (.int .i64 1)), none⟩, ⟨some 11, .mov (.tmp 152), none⟩]) (.kill [152, 151])))))))))) (.seq (.seq (.regd (.q ⟨some 153, .mov (.tmp 0), none⟩ (.q ⟨some 154, .mov (.tmp 11), none⟩ (.q ⟨some 155, .mov (.tmp 0), none⟩ (.q ⟨some 156, .mov (.tmp 1), none⟩ (.q ⟨some 157, .mov (.tmp 0), none⟩ (.q ⟨some 158, .mov (.tmp 1), none⟩ (.q ⟨some 159, .iad (.tmp 157) (.tmp 158) 1, none⟩ (.q ⟨some 160, .ld none (.tmp 159), none⟩ (.q ⟨some 161, .mov (.tmp 0), none⟩ (.q ⟨some 162, .mov (.tmp 11), none⟩ (.q ⟨some 163, .iad (.tmp 161) (.tmp 162) 1, none⟩ (.q ⟨some 164, .ld none (.tmp 163), none⟩ (.q ⟨some 165, .iad (.tmp 153) (.tmp 154) 1, none⟩ (.alt ⟨none, .st 1 (.tmp 165) (.tmp 160), none⟩ [⟨some 156, .mov (.tmp 1), none⟩, ⟨some 155, .mov (.tmp 0), none⟩] (.q ⟨some 166, .iad (.tmp 155) (.tmp 156) 1, none⟩ (.alt ⟨none, .st 1 (.tmp 166) (.tmp 164), none⟩ [] (.done false) .no)) .no))))))))))))))) (.kill [0, 1, 166, 165, 164, 163, 162, 161, 160, 159, 158, 157, 156, 155, 154, 153])) (.seq (.seq (.reg [⟨some 167, .mov (.tmp 11), none⟩, ⟨some 8, .mov (.tmp 167), none⟩, ⟨some 9, .mov (.const (.bool false)), none⟩]) (.kill [11, 167])) .ret)))))))))))⟩
theorem h_slices_partitionOrdered_uint64_ok : compFunH Go.Proofs.Tryz.prog n_slices_partitionOrdered_uint64 [] = some h_slices_partitionOrdered_uint64 := by kernel_rfl
def h_slices_siftDownOrdered_uint64 : HFun := ⟨76, [],
  .seq (.seq (.reg [⟨some 10, .mov (.tmp 1), none⟩, ⟨some 8, .mov (.tmp 10), none⟩]) (.kill [1, 10])) (.block 0 (.loop [] (.block 1 (.seq (.seq (.reg [⟨some 11, .mov (.tmp 8), none⟩, ⟨some 12, .bin .mul (.const (.int .i64 2)) (.tmp 11), none⟩, ⟨some 13, .bin .add (.tmp 12) (.const (.int .i64 1)), none⟩, ⟨some 9, .mov (.tmp 13), none⟩]) (.kill [13, 12, 11])) (.seq (.seq (.seq (.reg [⟨some 14, .mov (.tmp 9), none⟩, ⟨some 15, .mov (.tmp 2), none⟩, ⟨some 16, .bin .geq (.tmp 14) (.tmp 15), none⟩]) (.kill [15, 14])) (.cond (.tmp 16) (.seq (.kill [9, 2, 0, 3, 8, 16]) (.exit 0)) (.seq (.kill [16]) .skip))) (.seq (.seq (.seq (.regd (.q ⟨some 17, .mov (.tmp 9), none⟩ (.q ⟨some 18, .bin .add (.tmp 17) (.const (.int .i64 1)), none⟩ (.q ⟨some 19, .mov (.tmp 2), none⟩ (.q ⟨some 20, .bin .lss (.tmp 18) (.tmp 19), none⟩ (.q ⟨some 21, .mov (.tmp 20), none⟩ (.q ⟨some 22, .mov (.tmp 0), some (21, true)⟩ (.q ⟨some 23, .mov (.tmp 3), some (21, true)⟩ (.q ⟨some 24, .mov (.tmp 9), some (21, true)⟩ (.q ⟨some 25, .bin .add (.tmp 23) (.tmp 24), some (21, true)⟩ (.q ⟨some 26, .iad (.tmp 22) (.tmp 25) 1, some (21, true)⟩ (.q ⟨some 27, .ld none (.tmp 26), some (21, true)⟩ (.q ⟨some 28, .mov (.tmp 0), some (21, true)⟩ (.q ⟨some 29, .mov (.tmp 3), some (21, true)⟩ (.q ⟨some 30, .mov (.tmp 9), some (21, true)⟩ (.q ⟨some 31, .bin .add (.tmp 29) (.tmp 30), some (21, true)⟩ (.q ⟨some 32, .bin .add (.tmp 31) (.const (.int .i64 1)), some (21, true)⟩ (.q ⟨some 33, .iad (.tmp 28) (.tmp 32) 1, some (21, true)⟩ (.q ⟨some 34, .ld none (.tmp 33), some (21, true)⟩ (.alt ⟨some 35, .call (.func n_cmp_Less_uint64) [.tmp 27, .tmp 34], some (21, true)⟩ [] (.q ⟨some 36, .pick (.tmp 21) (.tmp 35) (.const (.bool false)), none⟩ (.done false)) .no)))))))))))))))))))) (.kill [35, 34, 33, 32, 31, 30, 29, 28, 27, 26, 25, 24, 23, 22, 21, 20, 19, 18, 17])) (.cond (.tmp 36) (.seq (.kill [36]) (.seq (.reg [⟨some 37, .mov (.tmp 9), none⟩, ⟨some 38, .bin .add (.tmp 37) (.const (.int .i64 1)), none⟩, ⟨some 9, .mov (.tmp 38), none⟩]) (.kill [38, 37]))) (.seq (.kill [36]) .skip))) (.seq (.seq (.seq (.regd (.q ⟨some 39, .mov (.tmp 0), none⟩ (.q ⟨some 40, .mov (.tmp 3), none⟩ (.q ⟨some 41, .mov (.tmp 8), none⟩ (.q ⟨some 42, .bin .add (.tmp 40) (.tmp 41), none⟩ (.q ⟨some 43, .iad (.tmp 39) (.tmp 42) 1, none⟩ (.q ⟨some 44, .ld none (.tmp 43), none⟩ (.q ⟨some 45, .mov (.tmp 0), none⟩ (.q ⟨some 46, .mov (.tmp 3), none⟩ (.q ⟨some 47, .mov (.tmp 9), none⟩ (.q ⟨some 48, .bin .add (.tmp 46) (.tmp 47), none⟩ (.q ⟨some 49, .iad (.tmp 45) (.tmp 48) 1, none⟩ (.q ⟨some 50, .ld none (.tmp 49), none⟩ (.alt ⟨some 51, .call (.func n_cmp_Less_uint64) [.tmp 44, .tmp 50], none⟩ [] (.q ⟨some 52, .un .not (.tmp 51), none⟩ (.done false)) .no)))))))))))))) (.kill [51, 50, 49, 48, 47, 46, 45, 44, 43, 42, 41, 40, 39])) (.cond (.tmp 52) (.seq (.kill [0, 3, 8, 9, 2, 52]) .ret) (.seq (.kill [52]) .skip))) (.seq (.seq (.regd (.q ⟨some 53, .mov (.tmp 0), none⟩ (.q ⟨some 54, .mov (.tmp 3), none⟩ (.q ⟨some 55, .mov (.tmp 8), none⟩ (.q ⟨some 56, .bin .add (.tmp 54) (.tmp 55), none⟩ (.q ⟨some 57, .mov (.tmp 0), none⟩ (.q ⟨some 58, .mov (.tmp 3), none⟩ (.q ⟨some 59, .mov (.tmp 9), none⟩ (.q ⟨some 60, .bin .add (.tmp 58) (.tmp 59), none⟩ (.q ⟨some 61, .mov (.tmp 0), none⟩ (.q ⟨some 62, .mov (.tmp 3), none⟩ (.q ⟨some 63, .mov (.tmp 9), none⟩ (.q ⟨some 64, .bin .add (.tmp 62) (.tmp 63), none⟩ (.q ⟨some 65, .iad (.tmp 61) (.tmp 64) 1, none⟩ (.q ⟨some 66, .ld none (.tmp 65), none⟩ (.q ⟨some 67, .mov (.tmp 0), none⟩ (.q ⟨some 68, .mov (.tmp 3), none⟩ (.q ⟨some 69, .mov (.tmp 8), none⟩ (.q ⟨some 70, .bin .add (.tmp 68) (.tmp 69), none⟩ (.q ⟨some 71, .iad (.tmp 67) (.tmp 70) 1, none⟩ (.q ⟨some 72, .ld none (.tmp 71), none⟩ (.q ⟨some 73, .iad (.tmp 53) (.tmp 56) 1, none⟩ (.alt ⟨none, .st 1 (.tmp 73) (.tmp 66), none⟩ [⟨some 60, .bin .add (.tmp 58) (.tmp 59), none⟩, ⟨some 59, .mov (.tmp 9), none⟩, ⟨some 58, .mov (.tmp 3), none⟩, ⟨some 57, .mov (.tmp 0), none⟩] (.q ⟨some 74, .iad (.tmp 57) (.tmp 60) 1, none⟩ (.alt ⟨none, .st 1 (.tmp 74) (.tmp 72), none⟩ [] (.done false) .no)) .no))))))))))))))))))))))) (.kill [8, 74, 73, 72, 71, 70, 69, 68, 67, 66, 65, 64, 63, 62, 61, 60, 59, 58, 57, 56, 55, 54, 53])) (.seq (.reg [⟨some 75, .mov (.tmp 9), none⟩, ⟨some 8, .mov (.tmp 75), none⟩]) (.kill [9, 75]))))))))))⟩
theorem h_slices_siftDownOrdered_uint64_ok : compFunH Go.Proofs.Tryz.prog n_slices_siftDownOrdered_uint64 [] = some h_slices_siftDownOrdered_uint64 := by kernel_rfl
def h_slices_nextPowerOfTwo : HFun := ⟨7, [(2, none)],
  .seq (.seq (.reg [⟨some 2, .mov (.const (.int .u64 0)), none⟩]) (.kill [2])) (.seq (.seq (.reg [⟨some 3, .mov (.tmp 0), none⟩, ⟨some 4, .conv .u64 (.tmp 3), none⟩, ⟨some 5, .call (.func n_math_bits_Len) [.tmp 4], none⟩, ⟨some 6, .bin .shl (.const (.int .u64 1)) (.tmp 5), none⟩, ⟨some 2, .mov (.tmp 6), none⟩]) (.kill [0, 6, 5, 4, 3])) .ret)⟩
theorem h_slices_nextPowerOfTwo_ok : compFunH Go.Proofs.Tryz.prog n_slices_nextPowerOfTwo [] = some h_slices_nextPowerOfTwo := by kernel_rfl
def h_slices_xorshift_Next : HFun := ⟨33, [(2, none)],
  .seq (.seq (.reg [⟨some 2, .mov (.const (.int .u64 0)), none⟩]) (.kill [2])) (.seq (.seq (.regd (.q ⟨some 3, .mov (.tmp 0), none⟩ (.q ⟨some 4, .nilc (.tmp 3), none⟩ (.q ⟨some 5, .ld none (.tmp 4), none⟩ (.q ⟨some 6, .mov (.tmp 0), none⟩ (.q ⟨some 7, .nilc (.tmp 6), none⟩ (.q ⟨some 8, .ld none (.tmp 7), none⟩ (.q ⟨some 9, .bin .shl (.tmp 8) (.const (.int .u64 13)), none⟩ (.q ⟨some 10, .bin .xor (.tmp 5) (.tmp 9), none⟩ (.q ⟨some 11, .nilc (.tmp 3), none⟩ (.alt ⟨none, .st 1 (.tmp 11) (.tmp 10), none⟩ [] (.done false) .no))))))))))) (.kill [11, 10, 9, 8, 7, 6, 5, 4, 3])) (.seq (.seq (.regd (.q ⟨some 12, .mov (.tmp 0), none⟩ (.q ⟨some 13, .nilc (.tmp 12), none⟩ (.q ⟨some 14, .ld none (.tmp 13), none⟩ (.q ⟨some 15, .mov (.tmp 0), none⟩ (.q ⟨some 16, .nilc (.tmp 15), none⟩ (.q ⟨some 17, .ld none (.tmp 16), none⟩ (.q ⟨some 18, .bin .shr (.tmp 17) (.const (.int .u64 7)), none⟩ (.q ⟨some 19, .bin .xor (.tmp 14) (.tmp 18), none⟩ (.q ⟨some 20, .nilc (.tmp 12), none⟩ (.alt ⟨none, .st 1 (.tmp 20) (.tmp 19), none⟩ [] (.done false) .no))))))))))) (.kill [20, 19, 18, 17, 16, 15, 14, 13, 12])) (.seq (.seq (.regd (.q ⟨some 21, .mov (.tmp 0), none⟩ (.q ⟨some 22, .nilc (.tmp 21), none⟩ (.q ⟨some 23, .ld none (.tmp 22), none⟩ (.q ⟨some 24, .mov (.tmp 0), none⟩ (.q ⟨some 25, .nilc (.tmp 24), none⟩ (.q ⟨some 26, .ld none (.tmp 25), none⟩ (.q ⟨some 27, .bin .shl (.tmp 26) (.const (.int .u64 17)), none⟩ (.q ⟨some 28, .bin .xor (.tmp 23) (.tmp 27), none⟩ (.q ⟨some 29, .nilc (.tmp 21), none⟩ (.alt ⟨none, .st 1 (.tmp 29) (.tmp 28), none⟩ [] (.done false) .no))))))))))) (.kill [29, 28, 27, 26, 25, 24, 23, 22, 21])) (.seq (.seq (.reg [⟨some 30, .mov (.tmp 0), none⟩, ⟨some 31, .nilc (.tmp 30), none⟩, ⟨some 32, .ld none (.tmp 31), none⟩, ⟨some 2, .mov (.tmp 32), none⟩]) (.kill [0, 32, 31, 30])) .ret))))⟩
theorem h_slices_xorshift_Next_ok : compFunH Go.Proofs.Tryz.prog n_slices_xorshift_Next [] = some h_slices_xorshift_Next := by kernel_rfl
def h_slices_medianAdjacentOrdered_uint64 : HFun := ⟨15, [(6, none)],
  .seq (.seq (.reg [⟨some 6, .mov (.const (.int .i64 0)), none⟩]) (.kill [6])) (.seq (.seq (.reg [⟨some 7, .mov (.tmp 0), none⟩, ⟨some 8, .mov (.tmp 1), none⟩, ⟨some 9, .bin .sub (.tmp 8) (.const (.int .i64 1)), none⟩, ⟨some 10, .mov (.tmp 1), none⟩, ⟨some 11, .mov (.tmp 1), none⟩, ⟨some 12, .bin .add (.tmp 11) (.const (.int .i64 1)), none⟩, ⟨some 13, .mov (.tmp 2), none⟩, ⟨some 14, .call (.func n_slices_medianOrdered_uint64) [.tmp 7, .tmp 9, .tmp 10, .tmp 12, .tmp 13], none⟩, ⟨some 6, .mov (.tmp 14), none⟩]) (.kill [0, 1, 2, 14, 13, 12, 11, 10, 9, 8, 7])) .ret)⟩
theorem h_slices_medianAdjacentOrdered_uint64_ok : compFunH Go.Proofs.Tryz.prog n_slices_medianAdjacentOrdered_uint64 [] = some h_slices_medianAdjacentOrdered_uint64 := by kernel_rfl
def h_slices_medianOrdered_uint64 : HFun := ⟨36, [(10, none)],
  .seq (.seq (.reg [⟨some 10, .mov (.const (.int .i64 0)), none⟩]) (.kill [10])) (.seq (.seq (.reg [⟨some 12, .mov (.tmp 0), none⟩, ⟨some 13, .mov (.tmp 1), none⟩, ⟨some 14, .mov (.tmp 2), none⟩, ⟨some 15, .mov (.tmp 4), none⟩, ⟨some 16, .call (.func n_slices_order2Ordered_uint64) [.tmp 12, .tmp 13, .tmp 14, .tmp 15], none⟩, ⟨some 11, .mov (.tmp 16), none⟩, ⟨some 17, .ext (.tmp 11) 0, none⟩, ⟨some 18, .ext (.tmp 11) 1, none⟩, ⟨some 1, .mov (.tmp 17), none⟩, ⟨some 2, .mov (.tmp 18), none⟩]) (.kill [18, 17, 11, 16, 15, 14, 13, 12])) (.seq (.seq (.reg [⟨some 20, .mov (.tmp 0), none⟩, ⟨some 21, .mov (.tmp 2), none⟩, ⟨some 22, .mov (.tmp 3), none⟩, ⟨some 23, .mov (.tmp 4), none⟩, ⟨some 24, .call (.func n_slices_order2Ordered_uint64) [.tmp 20, .tmp 21, .tmp 22, .tmp 23], none⟩, ⟨some 19, .mov (.tmp 24), none⟩, ⟨some 25, .ext (.tmp 19) 0, none⟩, ⟨some 26, .ext (.tmp 19) 1, none⟩, ⟨some 2, .mov (.tmp 25), none⟩, ⟨some 3, .mov (.tmp 26), none⟩]) (.kill [3, 26, 25, 19, 24, 23, 22, 21, 20])) (.seq (.seq (.reg [⟨some 28, .mov (.tmp 0), none⟩, ⟨some 29, .mov (.tmp 1), none⟩, ⟨some 30, .mov (.tmp 2), none⟩, ⟨some 31, .mov (.tmp 4), none⟩, ⟨some 32, .call (.func n_slices_order2Ordered_uint64) [.tmp 28, .tmp 29, .tmp 30, .tmp 31], none⟩, ⟨some 27, .mov (.tmp 32), none⟩, ⟨some 33, .ext (.tmp 27) 0, none⟩, ⟨some 34, .ext (.tmp 27) 1, none⟩, ⟨some 1, .mov (.tmp 33), none⟩, ⟨some 2, .mov (.tmp 34), none⟩]) (.kill [0, 4, 1, 34, 33, 27, 32, 31, 30, 29, 28])) (.seq (.seq (.reg [⟨some 35, .mov (.tmp 2), none⟩, ⟨some 10, .mov (.tmp 35), none⟩]) (.kill [2, 35])) .ret))))⟩
theorem h_slices_medianOrdered_uint64_ok : compFunH Go.Proofs.Tryz.prog n_slices_medianOrdered_uint64 [] = some h_slices_medianOrdered_uint64 := by kernel_rfl
def h_slices_order2Ordered_uint64 : HFun := ⟨28, [(8, none), (9, none)],
  .seq (.seq (.reg [⟨some 8, .mov (.const (.int .i64 0)), none⟩, ⟨some 9, .mov (.const (.int .i64 0)), none⟩]) (.kill [9, 8])) (.seq (.seq (.seq (.regd (.q ⟨some 10, .mov (.tmp 0), none⟩ (.q ⟨some 11, .mov (.tmp 2), none⟩ (.q ⟨some 12, .iad (.tmp 10) (.tmp 11) 1, none⟩ (.q ⟨some 13, .ld none (.tmp 12), none⟩ (.q ⟨some 14, .mov (.tmp 0), none⟩ (.q ⟨some 15, .mov (.tmp 1), none⟩ (.q ⟨some 16, .iad (.tmp 14) (.tmp 15) 1, none⟩ (.q ⟨some 17, .ld none (.tmp 16), none⟩ (.alt ⟨some 18, .call (.func n_cmp_Less_uint64) [.tmp 13, .tmp 17], none⟩ [] (.done false) .no)))))))))) (.kill [0, 17, 16, 15, 14, 13, 12, 11, 10])) (.cond (.tmp 18) (.seq (.kill [18]) (.seq (.seq (.reg [⟨some 19, .mov (.tmp 3), none⟩, ⟨some 20, .nilc (.tmp 19), none⟩, ⟨some 21, .ld none (.tmp 20), none⟩, ⟨some 22, .bin .add (.tmp 21) (.const (.int .i64 1)), none⟩, ⟨some 23, .nilc (.tmp 19), none⟩, ⟨none, .st 1 (.tmp 23) (.tmp 22), none⟩]) (.kill [3, 23, 22, 21, 20, 19])) (.seq (.seq (.reg [⟨some 24, .mov (.tmp 2), none⟩, ⟨some 25, .mov (.tmp 1), none⟩, ⟨some 8, .mov (.tmp 24), none⟩, ⟨some 9, .mov (.tmp 25), none⟩]) (.kill [2, 1, 25, 24])) .ret))) (.seq (.kill [3, 18]) .skip))) (.seq (.seq (.reg [⟨some 26, .mov (.tmp 1), none⟩, ⟨some 27, .mov (.tmp 2), none⟩, ⟨some 8, .mov (.tmp 26), none⟩, ⟨some 9, .mov (.tmp 27), none⟩]) (.kill [1, 2, 27, 26])) .ret))⟩
theorem h_slices_order2Ordered_uint64_ok : compFunH Go.Proofs.Tryz.prog n_slices_order2Ordered_uint64 [] = some h_slices_order2Ordered_uint64 := by kernel_rfl
end Hud
end
