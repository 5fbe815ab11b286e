import Derived.Test.YtdichbeaekjibaaGreatDoorLib28
set_option linter.all false
namespace Hud
open Go
section
def p3:List (Nat×List AV×aH×AV×aH):=(wE,A0,TG 0 (lQ 6),.ptr 3 0,T1)::(gB,[.ptr 0 0],XV V0,.tup [],XV V1)::(dO,[.ptr 0 0],XV V1,.own 6,XV V1++[some (.arr 3 (VS.I.map Id.A))])::p1
def aIH:evF DS (evU p3) 300 pB A0 (TG 0 (lQ 6))=some (.own 3,TG 0 (lQ 6)++[some (.arr 3 (VS.I.map Id.A))]):=by kernel_rfl
end
end Hud
