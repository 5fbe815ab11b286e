import Derived.Test.YtdichbeaekjibaaGreatDoorLib29
set_option linter.all false
namespace Hud
open Go
section
def aII:evF DS (evU p3) 300 wQ [.ptr 0 0,ids Am.I,.ag o9.A] (TG 0 (lQ 6))=some (iv 15,TG 0 (lQ 6)):=by kernel_rfl
end
end Hud
