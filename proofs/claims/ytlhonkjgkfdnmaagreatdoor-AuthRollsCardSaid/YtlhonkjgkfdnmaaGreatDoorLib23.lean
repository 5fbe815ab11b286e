import Derived.Test.YtlhonkjgkfdnmaaGreatDoorLib11
set_option linter.all false
namespace Hud
set_option maxRecDepth 99999
open Go
def Sc:=eVf (cF F7 [])
def LX:=eVf (cF zY [])
def Sd:=eVf (cF AW [])
def Pv:=eVf (cF HN [])
def Wz:=eVf (cF MA [])
def OK:=eVf (cF E6 [])
def W0:=eVf (cF MB [])
def OL:=eVf (cF kY [])
def OM:=eVf (cF qS [(2,none,1)])
def Se:=eVf (cF uH [(2,none,1),(3,none,1)])
def LY:=eVf (cF iM [])
def ON:=eVf (cF E4 [])
def OO:=eVf (cF Bl [])
def Pw:=eVf (cF DU [])
end Hud
namespace Hud
set_option maxRecDepth 99999
open Go
def aM6:=eVf (cF aLK [])
def Om:=eVf (cF Ew [])
def Oo:=eVf (cF xO [(5,some 2,35)])
def Lh:=eVf (cF zQ [(2,none,1),(3,none,1)])
def Oq:=eVf (cF Ey [])
def P3:=eVf (cF Al [])
def P4:=eVf (cF HM [])
def Li:=eVf (cF rN [(7,none,3),(1000000,some 7,0)])
def aMd:=eVf (cF aH8 [])
def P5:=eVf (cF HO [])
def P6:=eVf (cF DO [(67,none,1000)])
def Lj:=eVf (cF zV [])
def Lk:=eVf (cF zW [])
def P7:=eVf (cF Ao [(2,none,4),(3,none,4)])
end Hud
namespace Hud
open Go

end Hud
