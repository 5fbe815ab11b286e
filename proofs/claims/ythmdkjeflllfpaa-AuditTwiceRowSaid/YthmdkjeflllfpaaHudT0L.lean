/- The laying of slices.SortFunc, in plain words; printed by the kit. -/
import Derived.Shelf.SlSortCmp.NoneTotal

import Derived.Test.YthmdkjeflllfpaaProg
set_option linter.all false
namespace Go.Proofs
open Go.Shelf
def Try.laysSort_ren : Go.Shelf.Ren := ⟨fun | 6 => 17 | 15 => 22 | 14 => 21 | 28 => 34 | 29 => 35 | 20 => 26 | 21 => 27 | 22 => 28 | 23 => 29 | 24 => 30 | 25 => 31 | 26 => 32 | 27 => 33 | 46 => 38 | 47 => 39 | 48 => 40 | 49 => 41 | 50 => 42 | 57 => 43 | n => n, fun | 22 => 32 | 24 => 25 | 25 => 51 | 3 => 3 | 39 => 54 | 0 => 0 | 53 => 66 | 55 => 23 | 4 => 4 | 46 => 59 | 45 => 58 | 50 => 63 | 5 => 5 | 9 => 9 | 66 => 70 | 70 => 74 | 76 => 76 | 77 => 77 | n => n, fun | n => n⟩
theorem Try.laysSort : Go.Proofs.SlLaysF0.n6 Try.prog Try.laysSort_ren := {
  mixed := by kernel_rfl
  f6 := ⟨Try.f17.name, by decide, Try.func17.trans (congrArg some (by kernel_rfl))⟩
  f14 := ⟨Try.f21.name, by decide, Try.func21.trans (congrArg some (by kernel_rfl))⟩
  f15 := Try.func22.trans (congrArg some (by kernel_rfl))
  f20 := ⟨Try.f26.name, by decide, Try.func26.trans (congrArg some (by kernel_rfl))⟩
  f21 := ⟨Try.f27.name, by decide, Try.func27.trans (congrArg some (by kernel_rfl))⟩
  f22 := ⟨Try.f28.name, by decide, Try.func28.trans (congrArg some (by kernel_rfl))⟩
  f23 := ⟨Try.f29.name, by decide, Try.func29.trans (congrArg some (by kernel_rfl))⟩
  f24 := ⟨Try.f30.name, by decide, Try.func30.trans (congrArg some (by kernel_rfl))⟩
  f25 := ⟨Try.f31.name, by decide, Try.func31.trans (congrArg some (by kernel_rfl))⟩
  f26 := ⟨Try.f32.name, by decide, Try.func32.trans (congrArg some (by kernel_rfl))⟩
  f27 := ⟨Try.f33.name, by decide, Try.func33.trans (congrArg some (by kernel_rfl))⟩
  f28 := Try.func34.trans (congrArg some (by kernel_rfl))
  f29 := Try.func35.trans (congrArg some (by kernel_rfl))
  f46 := ⟨Try.f38.name, by decide, Try.func38.trans (congrArg some (by kernel_rfl))⟩
  f47 := Try.func39.trans (congrArg some (by kernel_rfl))
  f48 := Try.func40.trans (congrArg some (by kernel_rfl))
  f49 := ⟨Try.f41.name, by decide, Try.func41.trans (congrArg some (by kernel_rfl))⟩
  f50 := ⟨Try.f42.name, by decide, Try.func42.trans (congrArg some (by kernel_rfl))⟩
  f57 := ⟨Try.f43.name, by decide, Try.func43.trans (congrArg some (by kernel_rfl))⟩
  t0 := Try.underlying0
  a0 := Try.isAgg0
  z0 := Try.sizeOf0
  v0 := Try.zeroValue0
  t3 := Try.underlying3
  a3 := Try.isAgg3
  z3 := Try.sizeOf3
  v3 := Try.zeroValue3
  t4 := Try.underlying4
  a4 := Try.isAgg4
  z4 := Try.sizeOf4
  v4 := Try.zeroValue4
  t5 := Try.underlying5
  a5 := Try.isAgg5
  z5 := Try.sizeOf5
  v5 := Try.zeroValue5
  t9 := Try.underlying9
  a9 := Try.isAgg9
  z9 := Try.sizeOf9
  v9 := Try.zeroValue9
  t22 := Try.underlying32
  a22 := Try.isAgg32
  z22 := Try.sizeOf32
  v22 := Try.zeroValue32
  t25 := Try.underlying51
  a25 := Try.isAgg51
  z25 := Try.sizeOf51
  v25 := Try.zeroValue51
  t39 := Try.underlying54
  a39 := Try.isAgg54
  z39 := Try.sizeOf54
  v39 := Try.zeroValue54
  t45 := Try.underlying58
  a45 := Try.isAgg58
  z45 := Try.sizeOf58
  v45 := Try.zeroValue58
  t46 := Try.underlying59
  a46 := Try.isAgg59
  z46 := Try.sizeOf59
  v46 := Try.zeroValue59
  t50 := Try.underlying63
  a50 := Try.isAgg63
  z50 := Try.sizeOf63
  v50 := Try.zeroValue63
  t53 := Try.underlying66
  a53 := Try.isAgg66
  z53 := Try.sizeOf66
  v53 := Try.zeroValue66
  t55 := Try.underlying23
  a55 := Try.isAgg23
  z55 := Try.sizeOf23
  v55 := Try.zeroValue23
  t66 := Try.underlying70
  a66 := Try.isAgg70
  z66 := Try.sizeOf70
  v66 := Try.zeroValue70
  t70 := Try.underlying74
  a70 := Try.isAgg74
  z70 := Try.sizeOf74
  v70 := Try.zeroValue74
  t76 := Try.underlying76
  a76 := Try.isAgg76
  z76 := Try.sizeOf76
  v76 := Try.zeroValue76
  t77 := Try.underlying77
  a77 := Try.isAgg77
  z77 := Try.sizeOf77
  v77 := Try.zeroValue77 }
end Go.Proofs
