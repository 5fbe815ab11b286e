import Derived.Test.YtlhonkjgkfdnmaaGreatDoorLib12
set_option linter.all false
namespace Hud
set_option maxRecDepth 99999
open Go
def Ny:=eVf (cF Bi [])
def LS:=eVf (cF mJ [])
def yZ:=eVf (cF bY [])
def Di:=eVf (cF sI [])
def sK:=eVf (cF cT [(2,none,5)])
def Jv:=eVf (cF tG [])
def Jw:=eVf (cF pO [])
def EO:=eVf (cF oQ [])
def Dj:=eVf (cF nB [])
def HV:=eVf (cF yN [])
def Gc:=eVf (cF nM [])
def Ar:=eVf (cF pE [])
def EP:=eVf (cF lL [])
def As:=eVf (cF nP [])
def Ck:=eVf (cF qU [])
def sL:=eVf (cF gZ [(2,none,2)])
def pU:=eVf (cF fJ [(2,none,4)])
def CL:=eVf (cF dX [])
def Dk:=eVf (cF nC [])
def sM:=eVf (cF iB [(2,some 0,1)])
def Iq:=eVf (cF vC [])
def pH:=eVf (cF fE [])
def lV:=eVf (cF dI [])
def gK:=eVf (cF bD [])
def oE:=eVf (cF dY [])
def mO:=eVf (cF dJ [])
def qZ:=eVf (cF gC [])
def nU:=eVf (cF gY [])
def pV:=eVf (cF fM [])
def nV:=eVf (cF dU [])
def yT:=eVf (cF fO [(2,none,1)])
def Au:=eVf (cF eU [(2,none,1)])
def uB:=eVf (cF dC [(2,none,4)])
def FL:=eVf (cF uW [])
end Hud
namespace Hud
open Go
@[go_sem] def shA(args:O_)(T:aK)(I:V_):O_:=(List.range args.length).map λi=>bA (Ef ⟨T.length,sB 0 args,T⟩ I).s i
@[go_sem] def shT(args:O_)(T:aK)(I:V_):aK:=(Ef ⟨T.length,sB 0 args,T⟩ I).T
section
variable{P:Program}{G:L_}{f:FuncId}{args args':O_}{T:aK}
def aA.sh(I:V_){args2:O_}{T2:aK}{post:AV->aK->Prop}(C:shA args T I=args2)(J:shT args T I=T2)(m:aA P G f args2 T2 post):aA P G f args T post:=by
 intro h φ w d L hI B;have t:SInv P G 0 h φ T w ⟨T.length,sB 0 args,T⟩ ⟨d,[]⟩ w:=by refine⟨rfl,(Jl 0 args).1,⟨h,φ,L,Evo.refl,hI,?_⟩,s_,gu⟩;have:=R7 (h:=h) (φ:=φ) (n:=T.length) 0 args [] d.toList [] rfl B;simpa only[dM,jO,YD]using this
 have K:∀(l:V_)(st:St),SInv P G 0 h φ T w st ⟨d,[]⟩ w->SInv P G 0 h φ T w (Ef st l) ⟨d,[]⟩ w:=by
  intro l
  induction l with
  |nil=>intro st h;exact h|cons i r ih=>intro st h;exact ih _ (h.shutI i)
 obtain⟨_,_,⟨h2,g,N,F,E,D⟩,_,_⟩:=K I _ t;have s:(Ef ⟨T.length,sB 0 args,T⟩ I).T=T2:=J;rw[s]at F E D;have x:cC h2 g T2.length args2 d.toList:=by
  have A:=B.length;refine cC.mk (by rw[<-C];simp[shA,A]) λi c u m o=>?_;rw[<-C]at m;have H:i<args.length:=by rcases eD i args.length with h|h;exact h;rw[A]at h;rw[sX h]at o;cases o
  simp only[shA,gE,aBQ H,iX,E_]at m;have:=D i;rw[m]at this;have q:d.getD i undef=u:=by rw[TR];rw[Array.getElem?_toList]at o;rw[o];rfl
  rw[q]at this;exact this
 have k:∀{v j},CS h2 g T2 w post v j->CS h φ T w post v j:=λ⟨r,R,M,p,z,y,Q,O⟩=>⟨r,R,M,p,z,F.trans y,Q,O⟩
 rcases m h2 g w d N E x with⟨a,b⟩|⟨v,j,a,b⟩
 exact .inl ⟨a,b.mono λe j ⟨v,z,y⟩=>⟨v,z,k y⟩⟩;exact .inr ⟨v,j,a,k b⟩
end
end Hud
namespace Hud
set_option maxRecDepth 99999
open Go
def Lf:=eVf (cF zT [(0,none,1)])
def Lg:=eVf (cF DS [])
end Hud
