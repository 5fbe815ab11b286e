import Derived.Test.YtlhonkjgkfdnmaaGreatDoorLib12
set_option linter.all false
namespace Hud
set_option maxRecDepth 99999
open Go
def Ny:=eVf (cF Bi [])
def LS:=eVf (cF mJ [])
def yZ:=eVf (cF bY [])
def Di:=eVf (cF sI [])
def sK:=eVf (cF cT [(2,none,5)])
def Jv:=eVf (cF tG [])
def Jw:=eVf (cF pO [])
def EO:=eVf (cF oQ [])
def Dj:=eVf (cF nB [])
def HV:=eVf (cF yN [])
def Gc:=eVf (cF nM [])
def Ar:=eVf (cF pE [])
def EP:=eVf (cF lL [])
def As:=eVf (cF nP [])
def Ck:=eVf (cF qU [])
def sL:=eVf (cF gZ [(2,none,2)])
def pU:=eVf (cF fJ [(2,none,4)])
def CL:=eVf (cF dX [])
def Dk:=eVf (cF nC [])
def sM:=eVf (cF iB [(2,some 0,1)])
def Iq:=eVf (cF vC [])
def pH:=eVf (cF fE [])
def lV:=eVf (cF dI [])
def gK:=eVf (cF bD [])
def oE:=eVf (cF dY [])
def mO:=eVf (cF dJ [])
def qZ:=eVf (cF gC [])
def nU:=eVf (cF gY [])
def pV:=eVf (cF fM [])
def nV:=eVf (cF dU [])
def yT:=eVf (cF fO [(2,none,1)])
def Au:=eVf (cF eU [(2,none,1)])
def uB:=eVf (cF dC [(2,none,4)])
def FL:=eVf (cF uW [])
end Hud
namespace Hud
set_option maxRecDepth 99999
open Go
def aLU:=eVf (cF aJb [(5,none,1)])
def aKm:=eVf (cF aEQ [])
def aK3:=eVf (cF aJa [])
end Hud
