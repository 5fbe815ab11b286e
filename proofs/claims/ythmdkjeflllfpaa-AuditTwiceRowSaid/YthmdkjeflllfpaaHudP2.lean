/- AuditTwiceRow holds: whatever the input, the law returns true, and each argument reads behind the call as it read before. -/
import Derived.Test.YthmdkjeflllfpaaHudT9
import Derived.Test.YthmdkjeflllfpaaHudBr
import Derived.Test.YthmdkjeflllfpaaRows
set_option linter.all false
namespace Go.Proofs.Ythmdkjeflllfpaa
open Go Go.RowKit Go.WideShapes Go.ChangeShapes Go.ChangeAt Hud

theorem Try.own : ownKnob Try.prog.godebug = none := by kernel_rfl
theorem Try.laidOut : laidOutB Try.prog = true := by kernel_rfl

set_option maxRecDepth 100000 in
theorem row_lifted (os : Os) (started : os.Started) (H : Type) (enc : TypeId × Value → H) :
    ReturnsInHanded {} Try.checked os 4 .any (Rows.auditTwiceRowSpec.pre6 enc Try.prog Try.f4 Rows.auditTwiceRowRow.domain false) (Rows.auditTwiceRowSpec.post enc Try.prog Try.f4 false true false false) := by
  refine returnsInHanded_of_change (C := Try.checked) Try.own started (by kernel_rfl) Try.func4
    (ChangeSpec.witness6 (enc := enc) (C := Try.checked) false ⟨#[], #[.slice none 0 0, .slice none 0 0, .int .i64 0], []⟩ 8 (by kernel_rfl) (by kernel_rfl) (by kernel_rfl) (by kernel_rfl)) ?_
  intro W base args ds gs before hval0 hW hcnd _
  have hval : ∀ (j : Nat) t v, Try.f4.params[j]? = some t → args[j]? = some v → Value.okWide Try.prog W .any base t v := hval0
  have hW' := hW
  obtain ⟨p, q, hA0, hV, rfl, hfz, hnd⟩ := hW
  have hA : DataW.TrodAll enc Try.prog W 0 (fun _ => true) true Try.f4.params.toList args.toList ds p := hA0
  rw [Try.params4] at hA hval
  obtain ⟨v0, v1, v2, d0, d1, d2, p0, p1, p2, rfl, rfl, rfl, h0, h1, h2⟩ := trodAll_three hA
  obtain ⟨rfl, rfl⟩ := trodVars_none hV
  obtain ⟨A, l0, c0, rfl⟩ := okWide_slice Try.underlying22 (hval 0 22 v0 rfl rfl)
  obtain ⟨B, l1, c1, rfl⟩ := okWide_slice Try.underlying22 (hval 1 22 v1 rfl rfl)
  obtain ⟨n, rfl, rfl, _, hn⟩ := open_int Try.underlying3 (hval 2 3 v2 rfl rfl) h2
  have s0 := slice_in (φ := fun _ => undef) (ks := [.int .i64]) (n := 1) Try.underlying22 (by kernel_rfl) (by kernel_rfl) (by decide) h0
  have s1 := slice_in (φ := fun _ => undef) (ks := [.int .i64]) (n := 1) Try.underlying22 (by kernel_rfl) (by kernel_rfl) (by decide) h1
  obtain ⟨es, he, _, hr0⟩ := s0
  obtain ⟨l, hl, ho⟩ := ints_of he
  rw [hl] at hr0
  obtain ⟨es1, he1, _, hr1⟩ := s1
  obtain ⟨m, hm, hom⟩ := ints_of he1
  rw [hm] at hr1
  refine law_post (φ := fun _ => undef) (avs := [ints l, ints m, .v (.int .i64 n)]) Try.laidOut hW' rfl rfl ?_ (by kernel_rfl) Try.underlying4 (enters_of Try.func4 (by kernel_rfl) rfl _ _) (c_l36_AuditTwiceRow l m n ho hom (wf_i64 hn)) ?_
  · rw [Try.params4]
    intro t ht
    simp only [List.mem_cons, List.not_mem_nil, or_false] at ht
    rcases ht with rfl | rfl | rfl <;> exact ⟨by kernel_rfl, of_decide_eq_true (by kernel_rfl)⟩
  · simp only [RpL]
    exact ⟨_, _, rfl, hr0, _, _, rfl, hr1, _, _, rfl, by simp [Rp], rfl⟩

theorem row_holds : Rows.AuditTwiceRowSaid :=
  OpenClaim.holds_of_wide 4 Try.f4 rfl rfl rfl rfl rfl rfl rfl ⟨rfl, rfl, rfl, rfl, rfl⟩ rfl rfl rfl rfl rfl (by kernel_rfl) Try.func4 (by kernel_rfl)
    (of_decide_eq_true (by kernel_rfl)) (by unfold Func.isWrapper; first | (rw [if_pos (by decide +kernel)]; kernel_rfl) | (rw [if_neg (by decide +kernel)]; exact ⟨rfl, rfl⟩))
    (fun os started H enc _ => row_lifted os started H enc)
end Go.Proofs.Ythmdkjeflllfpaa
