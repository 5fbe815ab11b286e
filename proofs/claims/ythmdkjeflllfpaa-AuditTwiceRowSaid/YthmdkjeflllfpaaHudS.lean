/- A function: what its code does to an abstract state is its contract. -/
import Derived.Test.YthmdkjeflllfpaaHudV
set_option linter.all false
namespace Hud
open Go

def initS : Nat → List AV → List (Nat × AV)
  | _, [] => []
  | i, x :: r => (i, x) :: initS (i + 1) r

def resA (s : List (Nat × AV)) : List Nat → AV
  | [t] => getS s t
  | l => .tup (l.map (getS s))

/-- What the caller sees of a state. -/
def retW (rs : List Nat) (post : AV → Tab → Prop) (st : St) : Prop :=
  let r := resA st.s rs
  let L := reach st.T (List.range st.r ++ idsA r)
  post (rnA L r) (rnT L st.T)

def bodyW (rs : List Nat) (post : AV → Tab → Prop) : Ex → St → Prop
  | .normal, st => retW rs post st
  | .ret, st => retW rs post st
  | _, _ => False

/-- THE VERIFICATION CONDITION OF A FUNCTION. -/
def funW (P : Program) (G : Nat → Option (List AV)) (hf : HFun) (args : List AV) (T : Tab) (post : AV → Tab → Prop) : Prop :=
  codeW P G hf.code (bodyW hf.res post) ⟨T.length, initS 0 args, T⟩

theorem once_init : ∀ (i : Nat) (l : List AV), Once (initS i l) ∧ ∀ j x, (j, x) ∈ initS i l → i ≤ j
  | i, [] => ⟨fun _ _ _ h => by simp [initS] at h, fun _ _ h => by simp [initS] at h⟩
  | i, x :: l => by
    obtain ⟨h1, h2⟩ := once_init (i + 1) l
    refine ⟨fun j a b ha hb => ?_, fun j a ha => ?_⟩
    · simp only [initS, List.mem_cons, Prod.mk.injEq] at ha hb
      rcases ha with ⟨rfl, rfl⟩ | ha <;> rcases hb with ⟨hb1, rfl⟩ | hb
      · rfl
      · have := h2 _ _ hb; omega
      · subst hb1; have := h2 _ _ ha; omega
      · exact h1 j a b ha hb
    · simp only [initS, List.mem_cons, Prod.mk.injEq] at ha
      rcases ha with ⟨rfl, _⟩ | ha
      · exact Nat.le_refl _
      · have := h2 _ _ ha; omega

section
variable {P : Program} {G : Nat → Option (List AV)} {h : GH} {φ : Nat → Value} {n : Nat}

theorem init_ok : ∀ (i : Nat) (l : List AV) (pre us post : List Value), pre.length = i → RpL h φ n l us → SOk h φ n (initS i l) ⟨(pre ++ us ++ post).toArray, []⟩
  | i, [], pre, us, post, _, _ => fun j => by simp [initS, getS, Rp]
  | i, x :: l, pre, us, post, hp, hr => by
    simp only [RpL] at hr
    obtain ⟨u, us', rfl, h1, h2⟩ := hr
    have := init_ok (i + 1) l (pre ++ [u]) us' post (by simp [hp]) h2
    intro j
    simp only [initS, getS]
    split
    · rename_i hij
      subst hij
      have hg : (pre ++ u :: us' ++ post).toArray.getD i undef = u := by
        subst hp
        simp [Array.getD_eq_getD_getElem?]
      rw [hg]
      exact h1
    · have h3 := this j
      simp only [List.append_assoc, List.singleton_append] at h3 ⊢
      exact h3

def resV (tmps : Array Value) : List Nat → Value
  | [t] => tmps.getD t undef
  | l => .tuple (l.map fun t => tmps.getD t undef).toArray

theorem results_run {fn : Func} {rs : List Nat} (hr : resT fn.results.toList = some rs) (tmps : Array Value) (w : World) :
    (results fn tmps).run P w = .ok (resV tmps rs) w := by
  have key : ∀ (g : ResultVar → Sem Value), (∀ t, g (.tmp t) = pure (tmps.getD t undef)) → ∀ (l : List ResultVar) (rs : List Nat), resT l = some rs → (l.mapM g).run P w = .ok (rs.map fun t => tmps.getD t undef) w := by
    intro g hg l
    induction l with
    | nil => intro rs e; simp only [resT, Option.some.injEq] at e; subst e; simp
    | cons x l ih =>
      intro rs e
      cases x with
      | tmp t =>
        simp only [resT] at e
        cases hl : resT l with
        | none => simp [hl] at e
        | some rs' =>
          simp only [hl, Option.map_some, Option.some.injEq] at e
          subst e
          rw [List.mapM_cons, hg]
          simp [ih rs' hl]
      | cell a t => simp [resT] at e
  unfold results
  rw [Sem.run_bind, Array.mapM_eq_mapM_toList, Sem.run_map, key _ (fun t => rfl) _ _ hr]
  simp only [Result.andThen_ok, Sem.run_pure]
  match rs with
  | [] => rfl
  | [t] => rfl
  | t :: t' :: l => rfl

theorem resA_ok {s : List (Nat × AV)} {a : Act} (hs : SOk h φ n s a) (rs : List Nat) : Rp h φ n (resA s rs) (resV a.tmps rs) := by
  have key : ∀ l : List Nat, RpL h φ n (l.map (getS s)) (l.map fun t => a.tmps.getD t undef) := by
    intro l
    induction l with
    | nil => simp [RpL]
    | cons t l ih => simp only [List.map_cons, RpL]; exact ⟨_, _, rfl, hs t, ih⟩
  match rs with
  | [] => simp only [resA, resV, Rp]; exact ⟨_, rfl, by simpa using key []⟩
  | [t] => exact hs t
  | t :: t' :: l => simp only [resA, resV, Rp]; exact ⟨_, rfl, by simpa using key (t :: t' :: l)⟩

/-- A FUNCTION KEEPS ITS CONTRACT, if its verification condition holds. -/
theorem fun_okH {f : FuncId} {hf : HFun} {H : List (Nat × Option Nat × Nat)} (hc : compFunH P f H = some hf) {args : List AV} {T : Tab} {post : AV → Tab → Prop} (hT : T.length ≤ 200) (hw : funW P G hf args T post) : CallOk P G f args T post := by
  unfold compFunH at hc
  split at hc
  · simp at hc
  · rename_i fn hfn
    split at hc
    · simp at hc
    · rename_i hname
      split at hc
      · rename_i c rs hb hrs
        cases hcc : compCode P fn.ntmps H c [] rs rs with
        | none => simp [hcc] at hc
        | some hcode =>
          simp only [hcc, Option.map_some, Option.some.injEq] at hc
          subst hc
          intro h φ w vals hG hI hA
          refine .inl ⟨?_, ?_⟩
          · have hn : ¬ fn.name = "runtime.NumGoroutine" := by simpa using hname
            simp [callFunc, hfn, hn, hb]
          · have hS0 : SInv P G fn.ntmps h φ T w ⟨T.length, initS 0 args, T⟩ ⟨vals ++ Array.replicate (fn.ntmps - vals.size) undef, []⟩ w := by
              refine ⟨rfl, (once_init 0 args).1, ⟨h, φ, hG, Evo.refl, hI, ?_⟩, by simp; omega, rfl⟩
              have := init_ok (h := h) (φ := φ) (n := T.length) 0 args [] vals.toList (List.replicate (fn.ntmps - vals.size) undef) rfl hA
              have e : vals ++ Array.replicate (fn.ntmps - vals.size) undef = (vals.toList ++ List.replicate (fn.ntmps - vals.size) undef).toArray := by
                apply Array.toList_inj.1; simp
              rw [e]
              simpa only [List.nil_append] using this
            have hwp : c.wp P (fun e a' w' => ∃ st', exQ (bodyW rs post) e st' ∧ SInv P G fn.ntmps h φ T w st' a' w') ⟨vals ++ Array.replicate (fn.ntmps - vals.size) undef, []⟩ w := by
              rcases killB_w hw with hw | hw
              · exact code_sound (N := fn.ntmps) (h0 := h) (φ0 := φ) (T0 := T) (w0 := w) hT hcc hw hS0
              · exact code_sound (N := fn.ntmps) (h0 := h) (φ0 := φ) (T0 := T) (w0 := w) hT hcc hw (hS0.kill _)
            refine calls_of_wp hfn hb (wp_mono hwp ?_)
            · rintro e a' w' ⟨st, hq, hS⟩
              have fin : retW rs post st → bodyPost P fn (fun e w' => ∃ v, e = .returned v ∧ Ret h φ T w post v w') .ret a' w' := by
                intro hq
                obtain ⟨hr, honce, ⟨h2, φ2, hG2, hE2, hI2, hSl⟩, hsz, hdf⟩ := hS
                refine ⟨hdf, _, results_run hrs a'.tmps w', _, rfl, ?_⟩
                have hres := resA_ok hSl rs
                revert hres
                generalize resV a'.tmps rs = v
                intro hres
                have hS3 : SInv P G 0 h φ T w ⟨st.r, [(0, resA st.s rs)], st.T⟩ ⟨#[v], []⟩ w' := by
                  refine ⟨hr, fun i x y hx hy => ?_, ⟨h2, φ2, hG2, hE2, hI2, fun i => ?_⟩, by simp, rfl⟩
                  · simp only [List.mem_singleton, Prod.mk.injEq] at hx hy; rw [hx.2, hy.2]
                  · simp only [getS]
                    split
                    · rename_i hi; subst hi; exact hres
                    · simp [Rp]
                obtain ⟨_, _, ⟨h4, φ4, _, hE4, hI4, hS4⟩, _, _⟩ := gcs_ok (st := ⟨st.r, [(0, resA st.s rs)], st.T⟩) (show st.r ≤ 200 by rw [show st.r = T.length from hr]; exact hT) [] hS3
                have h5 := hS4 0
                have hg : gcs [] ⟨st.r, [(0, resA st.s rs)], st.T⟩ = ⟨st.r, [(0, rnA (reach st.T (List.range st.r ++ idsA (resA st.s rs))) (resA st.s rs))], rnT (reach st.T (List.range st.r ++ idsA (resA st.s rs))) st.T⟩ := by
                  simp [gcs, dropS, sortS, insS, idsS, rnS]
                rw [hg] at hE4 hI4 h5
                exact ⟨_, _, h4, φ4, hq, hE4, hI4, h5⟩
              cases e with
              | normal => exact fin hq
              | ret => exact fin hq
              | _ => exact hq.elim
      · simp at hc
theorem fun_ok {f : FuncId} {hf : HFun} (hc : compFun P f = some hf) {args : List AV} {T : Tab} {post : AV → Tab → Prop} (hT : T.length ≤ 200) (hw : funW P G hf args T post) : CallOk P G f args T post := fun_okH hc hT hw
end
end Hud
