import Derived.Test.YtfbnbkidnmhhoaaGreatDoorLib11
import Derived.Test.YtfbnbkidnmhhoaaGreatDoorCards
set_option linter.all false
namespace Go.Proofs.YtfbnbkidnmhhoaaGreatDoor
open Go Hud
def Vn(os:Os)(args:Array Value):((World.doorLaid Tryz.prog 400 os).forCall (λ_ _=>0) ⟨#[],args,[]⟩).Shaped Tryz.prog:=World.shaped_of_RefB r_ r_
def aKS:mapsRowed Tryz.prog=true:=r_
def aIT:Tryz.prog.stopsHeard=true:=r_
def aO4:Tryz.prog.mayEnter=true:=r_
def aKT:Tryz.prog.mainIs=some (true, "427766fe125cc6b9d7714f8bc96132ffbb6f2fb923eeede660d1a1ecfcbceb1c".toList):=r_
def aIU:false=Tryz.prog.looks []:=r_
def aIV:([3,22,23,46].all λu=>!Tryz.prog.wantsStandIn u)=true:=r_
def aGs{t:TypeId}(h:t∈[3,22,23,46]):Tryz.prog.wantsStandIn t=false:=by simpa using oD.1 aIV t h
end Go.Proofs.YtfbnbkidnmhhoaaGreatDoor
