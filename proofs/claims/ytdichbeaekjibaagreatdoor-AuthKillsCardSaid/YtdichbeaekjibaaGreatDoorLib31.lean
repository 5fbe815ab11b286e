import Derived.Test.YtdichbeaekjibaaGreatDoorLib30
set_option linter.all false
namespace Hud
open Go
section
def aDN:evF DS (evU p1) 300 dO [.ptr 0 0] (XV V0)=some (.own 6,XV V0++[some (.arr 3 (Am.I.map Id.A))]):=by kernel_rfl
end
end Hud
