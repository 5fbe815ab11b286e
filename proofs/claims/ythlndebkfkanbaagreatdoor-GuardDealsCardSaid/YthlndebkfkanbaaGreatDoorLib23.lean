import Derived.Test.YthlndebkfkanbaaGreatDoorLib22
set_option linter.all false
namespace Hud
open Go
section
theorem bBx (G:Nat->Option (List AV)):evF G (evQ kI []) 300 dI [tG0,bE] []=some (.own 0,[some (.arr 3 [])]):=by kernel_rfl
theorem bDh (G:Nat->Option (List AV)):evF G (evQ kI []) 300 dY [tG0,(tOp 1 1 1 0 0 0 0 (ids []) bE bE 0)] []=some (.ag [iv 1,iv 1,iv 1,iv 0,.ls 3 [],iv 0,iv 0,iv 0,iv 0,.own 0,iv 0,iv 0,uv 0,iv 0,bE,bE,iv 0,iv 0,uv 0,bE,iv 0,iv 0,bE,uv 0,bE,uv 0,uv 0],[some (.arr 2 [[uv 1000,bE]])]):=by kernel_rfl
theorem aZA (G:Nat->Option (List AV)):evF G (evQ kI []) 300 dJ [tG0,.ag sO1.A] []=some (.tup [iv 0,.own 0],[some (.arr 1 [])]):=by kernel_rfl
theorem bBy (G:Nat->Option (List AV)):evF G (evQ kI []) 300 dI [(.ag sG1.A),(ids (oL sG1.I))] []=some (.own 0,[some (.arr 3 [[iv 1,iv 1,uv 2121501834213576595]])]):=by kernel_rfl
theorem bDi (G:Nat->Option (List AV)):evF G (evQ kI []) 300 dY [(.ag sG1.A),(tOp 1 2 2 0 2 3 0 (ids [⟨1,1,2121501834213576595⟩]) bE bE 0)] []=some (.ag [iv 1,iv 2,iv 2,iv 0,.ls 3 [[iv 1,iv 1,uv 2121501834213576595]],iv 2,iv 0,iv 0,iv 3,.own 0,iv 0,iv 0,uv 0,iv 0,bE,bE,iv 0,iv 0,uv 0,bE,iv 0,iv 0,bE,uv 0,bE,uv 0,uv 0],[some (.arr 2 [[uv 1010,bE],[uv 1011,bE]])]):=by kernel_rfl
theorem aZB (G:Nat->Option (List AV)):evF G (evQ kI []) 300 dJ [(.ag sG1.A),.ag sO2.A] []=some (.tup [iv 0,.own 0],[some (.arr 1 [[iv 0]])]):=by kernel_rfl
theorem bBz (G:Nat->Option (List AV)):evF G (evQ kI []) 300 dI [(.ag sG2.A),(ids (oL sG2.I))] []=some (.own 0,[some (.arr 3 [[iv 1,iv 2,uv 1178938091502474893]])]):=by kernel_rfl
theorem bDj (G:Nat->Option (List AV)):evF G (evQ kI []) 300 dY [(.ag sG2.A),(tOp 1 3 2 0 3 2 0 (ids [⟨1,2,1178938091502474893⟩]) bE bE 0)] []=some (.ag [iv 1,iv 3,iv 2,iv 0,.ls 3 [[iv 1,iv 2,uv 1178938091502474893]],iv 3,iv 0,iv 0,iv 2,.own 0,iv 0,iv 0,uv 0,iv 0,bE,bE,iv 0,iv 0,uv 0,bE,iv 0,iv 0,bE,uv 0,bE,uv 0,uv 0],[some (.arr 2 [[uv 1020,bE],[uv 1021,bE],[uv 1022,bE]])]):=by kernel_rfl
theorem aZC (G:Nat->Option (List AV)):evF G (evQ kI []) 300 dJ [(.ag sG2.A),.ag sO3.A] []=some (.tup [iv 0,.own 0],[some (.arr 1 [[iv 1]])]):=by kernel_rfl
end
end Hud
