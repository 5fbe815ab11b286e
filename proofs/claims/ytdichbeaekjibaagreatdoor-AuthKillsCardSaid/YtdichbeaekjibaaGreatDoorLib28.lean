import Derived.Test.YtdichbeaekjibaaGreatDoorLib27
set_option linter.all false
namespace Hud
open Go
section
def p2:List (Nat×List AV×aH×AV×aH):=(dO,[.ptr 0 0],XV V0,.own 6,XV V0++[some (.arr 3 (Am.I.map Id.A))])::p1
def aIG:evF DS (evU p2) 300 gB [.ptr 0 0] (XV V0)=some (.tup [],XV V1):=by kernel_rfl
end
end Hud
