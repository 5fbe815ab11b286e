/- AuditTwice holds: whatever the input, the law returns true, and each argument reads behind the call as it read before. -/
import Derived.Test.YthmdkjeflllfpaaHudT9
import Derived.Test.YthmdkjeflllfpaaHudBr
import Derived.Test.YthmdkjeflllfpaaRows
set_option linter.all false
namespace Go.Proofs.Ythmdkjeflllfpaa
open Go Go.RowKit Go.WideShapes Go.ChangeShapes Go.ChangeAt Hud

theorem Try.own : ownKnob Try.prog.godebug = none := by kernel_rfl
theorem Try.laidOut : laidOutB Try.prog = true := by kernel_rfl

set_option maxRecDepth 100000 in
theorem twice_lifted (os : Os) (started : os.Started) (H : Type) (enc : TypeId × Value → H) :
    ReturnsInHanded {} Try.checked os 3 .any (Rows.auditTwiceSpec.pre6 enc Try.prog Try.f3 Rows.auditTwiceRow.domain false) (Rows.auditTwiceSpec.post enc Try.prog Try.f3 false true false false) := by
  refine returnsInHanded_of_change (C := Try.checked) Try.own started (by kernel_rfl) Try.func3
    (ChangeSpec.witness6 (enc := enc) (C := Try.checked) false ⟨#[], #[.slice none 0 0, .agg #[.int .i64 0, .int .i64 0, .int .i64 0, .int .i64 0, .int .i64 0, .int .i64 0, .int .u64 0, .int .i64 0, .string (bs [])]], []⟩ 8 (by kernel_rfl) (by kernel_rfl) (by kernel_rfl) (by kernel_rfl)) ?_
  intro W base args ds gs before hval0 hW hcnd _
  have hval : ∀ (j : Nat) t v, Try.f3.params[j]? = some t → args[j]? = some v → Value.okWide Try.prog W .any base t v := hval0
  have hW' := hW
  obtain ⟨p, q, hA0, hV, rfl, hfz, hnd⟩ := hW
  have hA : DataW.TrodAll enc Try.prog W 0 (fun _ => true) true Try.f3.params.toList args.toList ds p := hA0
  rw [Try.params3] at hA hval
  obtain ⟨v0, v1, d0, d1, p0, p1, rfl, rfl, rfl, h0, h1⟩ := trodAll_two hA
  obtain ⟨rfl, rfl⟩ := trodVars_none hV
  obtain ⟨A, l0, c0, rfl⟩ := okWide_slice Try.underlying22 (hval 0 22 v0 rfl rfl)
  obtain ⟨us, rfl, _⟩ := okWide_struct Try.underlying28 (hval 1 28 v1 rfl rfl)
  have s0 := slice_in (φ := fun _ => undef) (ks := [.int .i64]) (n := 1) Try.underlying22 (by kernel_rfl) (by kernel_rfl) (by decide) h0
  have s1 := agg_in (h := allG W) (φ := fun _ => undef) (ks := [.int .i64, .int .i64, .int .i64, .int .i64, .int .i64, .int .i64, .int .u64, .int .i64, .str]) (n := 12) (by kernel_rfl) (by kernel_rfl) h1
  obtain ⟨es, he, _, hr0⟩ := s0
  obtain ⟨l, hl, ho⟩ := ints_of he
  rw [hl] at hr0
  obtain ⟨hc1, hr1⟩ := s1
  simp only [okCells, okLeaf] at hc1
  obtain ⟨_, _, e1, ⟨n1, rfl, _⟩, _, _, rfl, ⟨n2, rfl, _⟩, _, _, rfl, ⟨n3, rfl, _⟩, _, _, rfl, ⟨n4, rfl, _⟩, _, _, rfl, ⟨n5, rfl, _⟩, _, _, rfl, ⟨n6, rfl, _⟩, _, _, rfl, ⟨n7, rfl, _⟩, _, _, rfl, ⟨n8, rfl, _⟩, _, _, rfl, ⟨s9, rfl, _⟩, rfl⟩ := hc1
  rw [e1] at hr1
  refine law_post (φ := fun _ => undef) (avs := [ints l, .ag (Ev.A ⟨n1, n2, n3, n4, ⟨n5, n6, n7⟩, n8, s9⟩)]) Try.laidOut hW' rfl rfl ?_ (by kernel_rfl) Try.underlying4 (enters_of Try.func3 (by kernel_rfl) rfl _ _) (c_l36_AuditTwice l _ ho) ?_
  · rw [Try.params3]
    intro t ht
    simp only [List.mem_cons, List.not_mem_nil, or_false] at ht
    rcases ht with rfl | rfl <;> exact ⟨by kernel_rfl, of_decide_eq_true (by kernel_rfl)⟩
  · simp only [RpL]
    exact ⟨_, _, rfl, hr0, _, _, rfl, hr1, rfl⟩

theorem twice_holds : Rows.AuditTwiceSaid :=
  OpenClaim.holds_of_wide 3 Try.f3 rfl rfl rfl rfl rfl rfl rfl ⟨rfl, rfl, rfl, rfl, rfl⟩ rfl rfl rfl rfl rfl (by kernel_rfl) Try.func3 (by kernel_rfl)
    (of_decide_eq_true (by kernel_rfl)) (by unfold Func.isWrapper; first | (rw [if_pos (by decide +kernel)]; kernel_rfl) | (rw [if_neg (by decide +kernel)]; exact ⟨rfl, rfl⟩))
    (fun os started H enc _ => twice_lifted os started H enc)
end Go.Proofs.Ythmdkjeflllfpaa
