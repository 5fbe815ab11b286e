import Derived.Test.YthlndebkfkanbaaGreatDoorLib16
import Derived.Test.YthlndebkfkanbaaGreatDoorCards
set_option linter.all false
section
namespace Go.Proofs.YthlndebkfkanbaaGreatDoor
open Go Hud
def Rz (os:Os) (args:Array Value):((World.doorLaid Tryz.prog 400 os).forCall (λ_ _=>0) ⟨#[],args,[]⟩).Shaped Tryz.prog:=World.shaped_of_RefB (by kernel_rfl) (by kernel_rfl)
def aGj:mapsRowed Tryz.prog=true:=by kernel_rfl
def aEQ:Tryz.prog.stopsHeard=true:=by kernel_rfl
def aJ7:Tryz.prog.mayEnter=true:=by kernel_rfl
def aGk:Tryz.prog.mainIs=some (true, "427766fe125cc6b9d7714f8bc96132ffbb6f2fb923eeede660d1a1ecfcbceb1c".toList):=by kernel_rfl
def aER:false=Tryz.prog.looks []:=by kernel_rfl
def aES:([3,22,23,46].all λu=>!Tryz.prog.wantsStandIn u)=true:=by kernel_rfl
def aCu {t:TypeId} (h:t∈[3,22,23,46]):Tryz.prog.wantsStandIn t=false:=by simpa using kY.1 aES t h
end Go.Proofs.YthlndebkfkanbaaGreatDoor
end
