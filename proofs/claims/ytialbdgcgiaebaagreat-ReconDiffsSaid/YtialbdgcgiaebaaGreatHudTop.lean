/- ReconDiffs holds: whatever the input, the law returns true, and each argument reads behind the call as it read before. -/
import Derived.Test.YtialbdgcgiaebaaGreatHud22
import Derived.Test.YtialbdgcgiaebaaGreatRows
set_option linter.all false
section
namespace Go.Proofs.YtialbdgcgiaebaaGreat
open Go Go.RowKit Go.WideShapes Go.ChangeShapes Go.ChangeAt Hud
theorem Tryz.own : ownKnob Tryz.prog.godebug = none := by kernel_rfl
theorem Tryz.laidOut : laidOutB Tryz.prog = true := by kernel_rfl
set_option maxRecDepth 100000 in
theorem ints_in {base : Nat} {H : Type} {enc : TypeId × Value → H} {W : World} {spare : Nat → Bool} {held : Bool} {v : Value} {d : DataW H} {ps : List MemPlace} (hv : Value.okWide Tryz.prog W .any base 22 v) (hd : DataW.Trod enc Tryz.prog W 0 spare held 22 v d ps) :
    ∃ l : List Int, inI l ∧ Rp (allG W) (fun _ => undef) 0 (ints l) v := by
  obtain ⟨A, l0, c0, rfl⟩ := okWide_slice Tryz.underlying22 hv
  have s0 := slice_in (φ := fun _ => undef) (ks := [.int .i64]) (n := 1) Tryz.underlying22 (by kernel_rfl) (by kernel_rfl) (by decide) hd
  obtain ⟨es, he, hlen, hr0⟩ := s0
  obtain ⟨l, hl, ho⟩ := ints_of he
  have hll : es.length = l.length := by simpa using congrArg List.length hl
  rw [hl] at hr0
  exact ⟨l, ⟨ho, by omega⟩, hr0⟩
set_option maxRecDepth 100000 in
theorem diffs_lifted (os : Os) (started : os.Started) (H : Type) (enc : TypeId × Value → H) :
    ReturnsInHanded {} Tryz.checked os 3 .any (Rows.reconDiffsSpec.pre6 enc Tryz.prog Tryz.f3 Rows.reconDiffsRow.domain false) (Rows.reconDiffsSpec.post enc Tryz.prog Tryz.f3 false true false false) := by
  refine returnsInHanded_of_change (C := Tryz.checked) Tryz.own started (by kernel_rfl) Tryz.func3
    (ChangeSpec.witness6 (enc := enc) (C := Tryz.checked) false ⟨#[], #[.slice none 0 0, .slice none 0 0, .slice none 0 0], []⟩ 8 (by kernel_rfl) (by kernel_rfl) (by kernel_rfl) (by kernel_rfl)) ?_
  intro W base args ds gs before hval0 hW hcnd _
  have hval : ∀ (j : Nat) t v, Tryz.f3.params[j]? = some t → args[j]? = some v → Value.okWide Tryz.prog W .any base t v := hval0
  have hW' := hW
  obtain ⟨p, q, hA0, hV, rfl, hfz, hnd⟩ := hW
  have hA : DataW.TrodAll enc Tryz.prog W 0 (fun _ => true) true Tryz.f3.params.toList args.toList ds p := hA0
  rw [Tryz.params3] at hA hval
  obtain ⟨v0, v1, v2, d0, d1, d2, p0, p1, p2, rfl, rfl, rfl, h0, h1, h2⟩ := trodAll_three hA
  obtain ⟨rfl, rfl⟩ := trodVars_none hV
  obtain ⟨l, il, rl⟩ := ints_in (hval 0 22 v0 rfl rfl) h0
  obtain ⟨m, im, rm⟩ := ints_in (hval 1 22 v1 rfl rfl) h1
  obtain ⟨b, ib, rb⟩ := ints_in (hval 2 22 v2 rfl rfl) h2
  refine law_post (φ := fun _ => undef) (avs := [ints l, ints m, ints b]) Tryz.laidOut hW' rfl rfl ?_ (by kernel_rfl) Tryz.underlying4 (enters_of Tryz.func3 (by kernel_rfl) rfl _ _) (c_l30_ReconDiffs l m b il im ib) ?_
  · rw [Tryz.params3]
    intro t ht
    simp only [List.mem_cons, List.not_mem_nil, or_false] at ht
    rcases ht with rfl | rfl | rfl <;> exact ⟨by kernel_rfl, of_decide_eq_true (by kernel_rfl)⟩
  · simp only [RpL]
    exact ⟨_, _, rfl, rl, _, _, rfl, rm, _, _, rfl, rb, rfl⟩
theorem diffs_holds : Rows.ReconDiffsSaid :=
  OpenClaim.holds_of_wide 3 Tryz.f3 rfl rfl rfl rfl rfl rfl rfl ⟨rfl, rfl, rfl, rfl, rfl⟩ rfl rfl rfl rfl rfl (by kernel_rfl) Tryz.func3 (by kernel_rfl)
    (of_decide_eq_true (by kernel_rfl)) (by unfold Func.isWrapper; first | (rw [if_pos (by decide +kernel)]; kernel_rfl) | (rw [if_neg (by decide +kernel)]; exact ⟨rfl, rfl⟩))
    (fun os started H enc _ => diffs_lifted os started H enc)
end Go.Proofs.YtialbdgcgiaebaaGreat
end
