/- Small facts that all contracts share: whole numbers, lists, slots. No program in sight. -/
import Derived.Test.YthmdkjeflllfpaaHudX
set_option linter.all false
namespace Hud
open Go

theorem wrap_i64 {n : Int} (h1 : -9223372036854775808 ≤ n) (h2 : n ≤ 9223372036854775807) : IntKind.i64.wrap n = n := by
  simp [IntKind.wrap, IntKind.bits, IntKind.signed]; omega
theorem wrap_u64 {n : Int} (h1 : 0 ≤ n) (h2 : n ≤ 18446744073709551615) : IntKind.u64.wrap n = n := by
  simp [IntKind.wrap, IntKind.bits, IntKind.signed]; omega
theorem wrap_nat {n : Nat} (h : n ≤ 9223372036854775807) : IntKind.i64.wrap (n : Int) = n := wrap_i64 (by omega) (by omega)
theorem wrap_suc {n : Nat} (h : n < 9223372036854775807) : IntKind.i64.wrap ((n : Int) + 1) = ((n + 1 : Nat) : Int) := by rw [wrap_i64 (by omega) (by omega)]; rfl
theorem wrap_pred {n : Nat} (h : n < 9223372036854775807) : IntKind.i64.wrap (((n + 1 : Nat) : Int) - 1) = n := by rw [wrap_i64 (by omega) (by omega)]; omega
@[go_sem] theorem dgt_suc (n : Nat) : decide (((n + 1 : Nat) : Int) > 0) = true := decide_eq_true (by omega)
@[go_sem] theorem dgt00 : decide ((0 : Int) > 0) = false := rfl
@[go_sem] theorem dgt_zero : decide (((0 : Nat) : Int) > 0) = false := rfl
@[go_sem] theorem take_drop_map {α β : Type} (f : α → β) (l : List α) (p : Nat) : ((l.map f).drop p).take (l.length - p) = (l.map f).drop p := List.take_of_length_le (by simp)
@[go_sem] theorem take_drop_self {α : Type} (l : List α) (p : Nat) : (l.drop p).take (l.length - p) = l.drop p := List.take_of_length_le (by simp)
@[go_sem] theorem take_len_map {α β : Type} (f : α → β) (l : List α) : (l.map f).take l.length = l.map f := List.take_of_length_le (by simp)
theorem dlt_t {a b : Nat} (h : a < b) : decide ((a : Int) < (b : Int)) = true := by simpa using h
theorem dlt_f {a b : Nat} (h : ¬ a < b) : decide ((a : Int) < (b : Int)) = false := by simpa using h
theorem len_ne {a b : Nat} (h : ((a : Int) != (b : Int)) = true) : a ≠ b := by simp at h; omega
theorem len_eq {a b : Nat} (h : ((a : Int) != (b : Int)) = false) : a = b := by simp at h; omega
theorem nth_map {α β : Type} (f : α → β) (l : List α) (i : Nat) (h : i < l.length) : (l.map f)[i]? = some (f l[i]) := by simp [h]
mutual
theorem rn_no {L : List Nat} : ∀ {x : AV}, idsA x = [] → rnA L x = x
  | .own _, h => by simp [idsA] at h
  | .ptr _ _, h => by simp [idsA] at h
  | .elt _ _ _ _, h => by simp [idsA] at h
  | .vw _ _ _ _, h => by simp [idsA] at h
  | .mp _, h => by simp [idsA] at h
  | .ag cs, h => by simp only [idsA] at h; simp only [rnA]; rw [rnL_no h]
  | .cl f cs, h => by simp only [idsA] at h; simp only [rnA]; rw [rnL_no h]
  | .tup cs, h => by simp only [idsA] at h; simp only [rnA]; rw [rnL_no h]
  | .v _, _ => rfl
  | .ls _ _, _ => rfl
  | .rp _, _ => rfl
  | .any, _ => rfl
theorem rnL_no {L : List Nat} : ∀ {x : List AV}, idsL x = [] → rnL L x = x
  | [], _ => rfl
  | c :: cs, h => by simp only [idsL, List.append_eq_nil_iff] at h; simp only [rnL]; rw [rn_no h.1, rnL_no h.2]
end
mutual
theorem bk_no {L : List Nat} {n : Nat} : ∀ {x : AV}, idsA x = [] → bkA L n x = x
  | .own _, h => by simp [idsA] at h
  | .ptr _ _, h => by simp [idsA] at h
  | .elt _ _ _ _, h => by simp [idsA] at h
  | .vw _ _ _ _, h => by simp [idsA] at h
  | .mp _, h => by simp [idsA] at h
  | .ag cs, h => by simp only [idsA] at h; simp only [bkA]; rw [bkL_no h]
  | .cl f cs, h => by simp only [idsA] at h; simp only [bkA]; rw [bkL_no h]
  | .tup cs, h => by simp only [idsA] at h; simp only [bkA]; rw [bkL_no h]
  | .v _, _ => rfl
  | .ls _ _, _ => rfl
  | .rp _, _ => rfl
  | .any, _ => rfl
theorem bkL_no {L : List Nat} {n : Nat} : ∀ {x : List AV}, idsL x = [] → bkL L n x = x
  | [], _ => rfl
  | c :: cs, h => by simp only [idsL, List.append_eq_nil_iff] at h; simp only [bkL]; rw [bk_no h.1, bkL_no h.2]
end
mutual
theorem subA_refl : ∀ x : AV, subA x x
  | .ag cs => by simp only [subA]; exact .inl trivial
  | .v _ => by simp only [subA]; exact .inl trivial
  | .own _ => by simp only [subA]
  | .ptr _ _ => by simp only [subA]
  | .elt _ _ _ _ => by simp only [subA]
  | .vw _ _ _ _ => by simp only [subA]
  | .mp _ => by simp only [subA]
  | .cl _ _ => by simp only [subA]
  | .tup _ => by simp only [subA]
  | .ls _ _ => by simp only [subA]
  | .rp _ => by simp only [subA]
  | .any => by simp only [subA]
theorem subL_refl : ∀ x : List AV, subL x x
  | [] => by simp only [subL]
  | c :: cs => by simp only [subL]; exact ⟨c, cs, rfl, subA_refl c, subL_refl cs⟩
end
theorem rounds_nil {T : Tab} : ∀ R : Tab, rounds T R [] = []
  | [] => rfl
  | _ :: R => by simp only [rounds, idsM, addN]; exact rounds_nil R
section
variable {P : Program} {G : Nat → Option (List AV)} {f : FuncId} {args args' : List AV} {T : Tab} {K : AV → Tab → Prop}
/-- A call of arguments without objects. -/
theorem call_post (hs : subL args args') (hi : idsL args' = []) {post : AV → Tab → Prop} (hc : CallOk P G f args' [] post) (hk : ∀ r T', post r T' → K (bkA [] T.length r) (T ++ T'.map (bkO [] T.length))) : @callC P G f args T ⟨K⟩ := by
  refine ⟨args', hs, .inl ?_⟩
  have e : (reach T (idsL args')).filter (· < T.length) = [] := by rw [hi]; simp only [reach, addN, rounds_nil]; rfl
  rw [e]
  show CallOk P G f (rnL [] args') (rnT [] T) _
  rw [rnL_no hi]
  refine hc.mono fun r T' hp => ?_
  have : bkT [] T.length T [] T' = T ++ T'.map (bkO [] T.length) := by cases T' <;> simp [bkT]
  rw [this]
  exact hk r T' hp
/-- A call that leaves the objects as they are and hands back what has none: of arguments without objects. -/
theorem call_pure {R : AV} (hs : subL args args') (hi : idsL args' = []) (hc : CallOk P G f args' [] fun r T' => r = R ∧ T' = []) (hR : idsA R = []) (hk : K R T) : @callC P G f args T ⟨K⟩ :=
  call_post hs hi hc fun r T' ⟨h1, h2⟩ => by subst h1; subst h2; rw [bk_no hR]; simpa using hk
/-- A call that makes objects: of arguments without objects. -/
theorem call_new {R : AV} {T2 : Tab} (hs : subL args args') (hi : idsL args' = []) (hc : CallOk P G f args' [] fun r T' => r = R ∧ T' = T2) (hk : K (bkA [] T.length R) (T ++ T2.map (bkO [] T.length))) : @callC P G f args T ⟨K⟩ :=
  call_post hs hi hc fun r T' ⟨h1, h2⟩ => by subst h1; subst h2; exact hk
/-- A call of arrays that are lent. -/
theorem call_lend {args2 : List AV} (hs : subL args args') (hl : lendL T args' = args2) (hi : idsL args2 = []) {post : AV → Tab → Prop} (hc : CallOk P G f args2 [] post)
    (hk : ∀ r T', post r T' → flatA r ∧ (∀ o ∈ T', flatO o) ∧ K (bkA [] T.length r) (T ++ T'.map (bkO [] T.length))) : @callC P G f args T ⟨K⟩ :=
  ⟨args', hs, .inr ⟨by rw [hl]; exact hi, by rw [hl]; exact hc.mono hk⟩⟩
theorem call_lend_pure {args2 : List AV} {x : Value} (hs : subL args args') (hl : lendL T args' = args2) (hi : idsL args2 = []) (hc : CallOk P G f args2 [] fun r T' => r = .v x ∧ T' = []) (hk : K (.v x) T) : @callC P G f args T ⟨K⟩ :=
  call_lend hs hl hi hc fun r T' ⟨h1, h2⟩ => by subst h1; subst h2; exact ⟨by simp [flatA], by simp, by simpa [bkA] using hk⟩
/-- A call that is handed objects on. -/
theorem call_on {L : List Nat} {args2 : List AV} {T2 : Tab} {post : AV → Tab → Prop} (hs : subL args args') (hL : (reach T (idsL args')).filter (· < T.length) = L) (ha : rnL L args' = args2) (hT : rnT L T = T2) (hc : CallOk P G f args2 T2 post)
    (hk : ∀ r T', post r T' → K (bkA L T.length r) (bkT L T.length T L T')) : @callC P G f args T ⟨K⟩ :=
  ⟨args', hs, .inl (by subst hL; subst ha; subst hT; exact hc.mono hk)⟩
end
theorem idsL_map {α : Type} {f : α → AV} {l : List α} (h : ∀ x, idsA (f x) = []) : idsL (l.map f) = [] := by
  induction l with
  | nil => rfl
  | cons x l ih => simp [idsL, h, ih]
@[go_sem] theorem idsL_app (a b : List AV) : idsL (a ++ b) = idsL a ++ idsL b := by
  induction a with
  | nil => rfl
  | cons c a ih => simp [idsL, ih]
@[go_sem] theorem idsL_mapv {α : Type} (f : α → Value) (l : List α) : idsL (l.map fun x => .v (f x)) = [] := idsL_map fun _ => rfl
@[go_sem] theorem rnL_app (L : List Nat) (a b : List AV) : rnL L (a ++ b) = rnL L a ++ rnL L b := by
  induction a with
  | nil => rfl
  | cons c a ih => simp [rnL, ih]
@[go_sem] theorem rnL_mapv {α : Type} (L : List Nat) (f : α → Value) (l : List α) : rnL L (l.map fun x => .v (f x)) = l.map fun x => .v (f x) := rnL_no (idsL_map fun _ => rfl)
@[go_sem] theorem bkL_app (L : List Nat) (n : Nat) (a b : List AV) : bkL L n (a ++ b) = bkL L n a ++ bkL L n b := by
  induction a with
  | nil => rfl
  | cons c a ih => simp [bkL, ih]
@[go_sem] theorem bkL_mapv {α : Type} (L : List Nat) (n : Nat) (f : α → Value) (l : List α) : bkL L n (l.map fun x => .v (f x)) = l.map fun x => .v (f x) := bkL_no (idsL_map fun _ => rfl)
@[go_sem] theorem flatL_mapv {α : Type} (f : α → Value) (l : List α) : flatL (l.map fun x => .v (f x)) = True := by
  induction l with
  | nil => rfl
  | cons c a ih => simp [flatL, flatA, ih]
end Hud
