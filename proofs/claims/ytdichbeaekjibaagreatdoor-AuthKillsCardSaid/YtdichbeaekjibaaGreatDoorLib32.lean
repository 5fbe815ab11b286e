import Derived.Test.YtdichbeaekjibaaGreatDoorLib31
set_option linter.all false
namespace Hud
open Go
section
def aDO:evF DS (evU p1) 300 dO [.ptr 0 0] (XV V1)=some (.own 6,XV V1++[some (.arr 3 (VS.I.map Id.A))]):=by kernel_rfl
end
end Hud
