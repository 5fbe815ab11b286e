import Derived.Test.YthlndebkfkanbaaGreatDoorLib23
set_option linter.all false
namespace Hud
open Go
section
theorem bBA (G:Nat->Option (List AV)):evF G (evQ kI []) 300 dI [(.ag sG3.A),(ids (oL sG3.I))] []=some (.own 0,[some (.arr 3 [[iv 1,iv 3,uv 1760267547356689185]])]):=by kernel_rfl
theorem bDk (G:Nat->Option (List AV)):evF G (evQ kI []) 300 dY [(.ag sG3.A),(tOp 2 1 2 0 5 1 0 (ids [⟨1,3,1760267547356689185⟩]) bE bE 0)] []=some (.ag [iv 2,iv 1,iv 2,iv 0,.ls 3 [[iv 1,iv 3,uv 1760267547356689185]],iv 5,iv 0,iv 0,iv 1,.own 0,iv 0,iv 0,uv 0,iv 0,bE,bE,iv 0,iv 0,uv 0,bE,iv 0,iv 0,bE,uv 0,bE,uv 0,uv 0],[some (.arr 2 [[uv 1030,bE],[uv 1031,bE],[uv 1032,bE]])]):=by kernel_rfl
theorem aZD (G:Nat->Option (List AV)):evF G (evQ kI []) 300 dJ [(.ag sG3.A),.ag sO4.A] []=some (.tup [iv 0,.own 0],[some (.arr 1 [[iv 2]])]):=by kernel_rfl
theorem bBB (G:Nat->Option (List AV)):evF G (evQ kI []) 300 dI [(.ag sG4.A),(ids (oL sG4.I))] []=some (.own 0,[some (.arr 3 [[iv 2,iv 1,uv 533371032110822859]])]):=by kernel_rfl
theorem bDl (G:Nat->Option (List AV)):evF G (evQ kI []) 300 dY [(.ag sG4.A),(tOp 1 4 9 0 0 0 1 (ids [⟨2,1,533371032110822859⟩]) (nts [2,3,5]) (bxs sBL) 356236859940272499)] []=some (.ag [iv 1,iv 4,iv 9,iv 0,.ls 3 [[iv 2,iv 1,uv 533371032110822859]],iv 0,iv 0,iv 0,iv 0,.own 0,iv 0,iv 0,uv 0,iv 0,bE,bE,iv 0,iv 0,uv 0,.ls 1 [[iv 2],[iv 3],[iv 5]],iv 1,iv 0,bxs sBL,uv 356236859940272499,bE,uv 0,uv 0],[some (.arr 2 [])]):=by kernel_rfl
theorem aZE (G:Nat->Option (List AV)):evF G (evQ kI []) 300 dJ [(.ag sG4.A),.ag sO5.A] []=some (.tup [iv 0,.own 0],[some (.arr 1 [[iv 3]])]):=by kernel_rfl
theorem bDm (G:Nat->Option (List AV)):evF G (evQ kI []) 300 iX [.ag sG4.A,uv 77778,nts [2,3,5],iv 1,uv 0,bE] []=some (.tup [.own 0,iv 0],[some (.arr 4 [[uv 732551293757751401,uv 32651966888573293,uv 1141867272264217946,uv 651378572187880583],[uv 1441871927598236410,uv 1083844842504320732,uv 1781110135044043487,uv 979127909182195024],[uv 1128020181934541352,uv 1108944146583870446,uv 567351526826948665,uv 64752403788970038]])]):=by kernel_rfl
end
end Hud
