import Derived.Test.YthlndebkfkanbaaGreatDoorLib39
import Derived.Test.YthlndebkfkanbaaGreatDoorCards
set_option linter.all false
section
namespace Go.Proofs.YthlndebkfkanbaaGreatDoor
open Go Hud
theorem aBU (os:Os) (args:Array Value):((World.doorLaid Tryz.prog 400 os).forCall (fun _ _=>0) ⟨#[],args,[]⟩).Shaped Tryz.prog:=World.shaped_of_RefB (by kernel_rfl) (by kernel_rfl)
theorem aYt:mapsRowed Tryz.prog=true:=by kernel_rfl
theorem aSP:Tryz.prog.stopsHeard=true:=by kernel_rfl
theorem bC3:Tryz.prog.mayEnter=true:=by kernel_rfl
theorem aYu:Tryz.prog.mainIs=some (true, "427766fe125cc6b9d7714f8bc96132ffbb6f2fb923eeede660d1a1ecfcbceb1c".toList):=by kernel_rfl
theorem aSQ:false=Tryz.prog.looks []:=by kernel_rfl
theorem bC4:([3,22,23,46].all fun u=>!Tryz.prog.wantsStandIn u)=true:=by kernel_rfl
theorem aP6 {t:TypeId} (h:t∈[3,22,23,46]):Tryz.prog.wantsStandIn t=false:=by simpa using List.all_eq_true.1 bC4 t h
end Go.Proofs.YthlndebkfkanbaaGreatDoor
end
