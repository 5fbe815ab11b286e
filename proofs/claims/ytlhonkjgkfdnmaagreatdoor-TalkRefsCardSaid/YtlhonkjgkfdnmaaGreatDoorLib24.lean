import Derived.Test.YtlhonkjgkfdnmaaGreatDoorLib12
set_option linter.all false
namespace Hud
set_option maxRecDepth 99999
open Go
def Om:=eVf (cF Ew [])
def P3:=eVf (cF Al [])
def P5:=eVf (cF HO [])
def P6:=eVf (cF DO [(67,none,1000)])
def Lj:=eVf (cF zV [])
def Lk:=eVf (cF zW [])
def P7:=eVf (cF Ao [(2,none,4),(3,none,4)])
end Hud
namespace Hud
set_option maxRecDepth 99999
open Go
def BZ:=eVf (cF kO [])
def wK:=eVf (cF eE [])
def sT:=eVf (cF iA [])
def vT:=eVf (cF kP [(2,some 0,1)])
end Hud
namespace Hud
set_option maxRecDepth 99999
open Go
def aLM:=eVf (cF aEV [(3,some 2,35)])
def aLN:=eVf (cF aFc [])
def aLY:=eVf (cF aJG [(26,none,1000)])
def aLZ:=eVf (cF aCZ [])
def aK5:=eVf (cF aIz [])
def aLO:=eVf (cF aJc [])
end Hud
namespace Hud
set_option maxRecDepth 99999
open Go
def aJH:=eVf (cF aJ7 [])
def aH5:=eVf (cF aCE [])
def aKJ:=eVf (cF aE5 [])
def aLP:=eVf (cF aHf [(4,none,3),(5,none,3)])
def aLQ:=eVf (cF aF0 [(6,none,3)])
end Hud
