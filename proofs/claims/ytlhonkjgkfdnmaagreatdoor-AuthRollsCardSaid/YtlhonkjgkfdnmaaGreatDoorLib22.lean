import Derived.Test.YtlhonkjgkfdnmaaGreatDoorLib16
import Derived.Test.YtlhonkjgkfdnmaaGreatDoorLib17
set_option linter.all false
set_option maxHeartbeats 40000000
namespace Hud
set_option maxRecDepth 99999
open Go
def iD:=eVf (cF bE [(4,none,3)])
def rA:=eVf (cF bF [(2,none,3)])
def pI:=eVf (cF bJ [])
def vG:=eVf (cF fU [(2,none,1)])
def cJ:=eVf (cF bB [])
def rB:=eVf (cF aDy [])
def qJ:=eVf (cF fS [])
def sO:=eVf (cF iC [])
end Hud
namespace Hud
open Go
def GC{α:Type}(m:α->Bool)(l:List α):(!(l.any λx=>!m x))=l.all m:=f_
section
variable{G:L_}
def WU(f:Nat)(m:BoxM->Bool)(x:BoxM)(h:aA PQ G f [.ag x.A] [] λr T=>r=.v (.bool (m x))/\T=[]):aA PQ G jH [.ag x.A,.ptr 0 0] [some (.box [.cl f []])] λr T=>r=.v (.bool (!m x))/\T=[some (.box [.cl f []])]:=by refine aC EN ?_;simp only[go_sem,BoxM.A];apply cX h;simp only[go_sem]
def aAf(f:Nat)(m:BoxM->Bool)(l:List BoxM)(g:l.length<2^63-1)(h:∀x∈l,aA PQ G f [.ag x.A] [] λr T=>r=.v (.bool (m x))/\T=[]):
 aA PQ G gC [F5 l,.cl jH [.ptr 0 0]] [some (.box [.cl f []])] λr T=>r=iv (qX (λx=>!m x) l)/\T=[some (.box [.cl f []])]:=by
 apply aC qZ;simp only[go_sem,aP];refine aQ l.length (λi=>⟨1,[(0,F5 l),(1,.cl jH [.ptr 0 0]),(7,iv l.length),(8,iv i)],[some (.box [.cl f []])]⟩) (λi=>∀j(a:j<l.length),j<i->(!m l[j])=false) ?_ F_ ?_ ?_;simp only[go_sem];intro i b c;have e:(l.map BoxM.A)[i]?=some [uv l[i].To,uv l[i].Eph,uv l[i].Body,uv l[i].Tag]:=aO _ l i b;simp only[go_sem,aT b,e];apply aG [0] (aB _) d_ s_ rfl rfl (WU f m l[i] (h _ (eQ b)));rintro r k ⟨rfl,rfl⟩
 cases d:m l[i]with
 |true=>
  simp only[go_sem,fQ i o_];grind
 |false=>
  simp only[go_sem];rw[mC b c i_]
 intro c;simp only[go_sem,aS (bP _)];rw[lD λj a=>c j a a]
def aAg(f:Nat)(m:BoxM->Bool)(l:List BoxM)(a:l.length<2^63-1)(h:∀x∈l,aA PQ G f [.ag x.A] [] λr T=>r=.v (.bool (m x))/\T=[]):
 aA PQ G fE [F5 l,.cl jH [.ptr 0 0]] [some (.box [.cl f []])] λr T=>r=.v (.bool (l.any λx=>!m x))/\T=[some (.box [.cl f []])]:=by
 apply aC pH;simp only[go_sem];apply aG [0] (aB _) d_ s_ rfl rfl (aAf f m l a h);rintro r b ⟨rfl,rfl⟩;simp only[go_sem,ge_iff_le,mN]
def Ql(f:Nat)(m:BoxM->Bool)(l:List BoxM)(a:l.length<2^63-1)(h:∀x∈l,aA PQ G f [.ag x.A] [] λr T=>r=.v (.bool (m x))/\T=[]):
 aA PQ G nO [F5 l,.cl f []] [] λr T=>r=.v (.bool (l.all m))/\T=[]:=by
 apply aC Gb;simp only[go_sem];apply aG [0] (aB _) d_ s_ rfl rfl (aAg f m l a h);rintro r b ⟨rfl,rfl⟩;simp only[go_sem,GC]
def WV(f:Nat)(m:Int->Bool)(x:Int)(h:aA PQ G f [iv x] [] λr T=>r=.v (.bool (m x))/\T=[]):aA PQ G nR [iv x,.ptr 0 0] [some (.box [.cl f []])] λr T=>r=.v (.bool (!m x))/\T=[some (.box [.cl f []])]:=by refine aC Im ?_;simp only[go_sem];apply cX h;simp only[go_sem]
def aAh(f:Nat)(m:Int->Bool)(l:B_)(g:l.length<2^63-1)(h:∀x∈l,aA PQ G f [iv x] [] λr T=>r=.v (.bool (m x))/\T=[]):
 aA PQ G gY [rG l,.cl nR [.ptr 0 0]] [some (.box [.cl f []])] λr T=>r=iv (qX (λx=>!m x) l)/\T=[some (.box [.cl f []])]:=by
 apply aC nU;simp only[go_sem,aP];refine aQ l.length (λi=>⟨1,[(0,rG l),(1,.cl nR [.ptr 0 0]),(7,iv l.length),(8,iv i)],[some (.box [.cl f []])]⟩) (λi=>∀j(a:j<l.length),j<i->(!m l[j])=false) ?_ F_ ?_ ?_;simp only[go_sem];intro i b c;have e:(l.map λn=>[iv n])[i]?=some [iv l[i]]:=aO _ l i b;simp only[go_sem,aT b,e];apply aG [0] (aB _) d_ s_ rfl rfl (WV f m l[i] (h _ (eQ b)));rintro r k ⟨rfl,rfl⟩
 cases d:m l[i]with
 |true=>
  simp only[go_sem,fQ i o_];grind
 |false=>
  simp only[go_sem];rw[mC b c i_]
 intro c;simp only[go_sem,aS (bP _)];rw[lD λj a=>c j a a]
def aAi(f:Nat)(m:Int->Bool)(l:B_)(a:l.length<2^63-1)(h:∀x∈l,aA PQ G f [iv x] [] λr T=>r=.v (.bool (m x))/\T=[]):
 aA PQ G dI [rG l,.cl nR [.ptr 0 0]] [some (.box [.cl f []])] λr T=>r=.v (.bool (l.any λx=>!m x))/\T=[some (.box [.cl f []])]:=by
 apply aC lV;simp only[go_sem];apply aG [0] (aB _) d_ s_ rfl rfl (aAh f m l a h);rintro r b ⟨rfl,rfl⟩;simp only[go_sem,ge_iff_le,mN]
def aAj(f:Nat)(m:Int->Bool)(l:B_)(a:l.length<2^63-1)(h:∀x∈l,aA PQ G f [iv x] [] λr T=>r=.v (.bool (m x))/\T=[]):
 aA PQ G AA [rG l,.cl f []] [] λr T=>r=.v (.bool (l.all m))/\T=[]:=by
 apply aC LQ;simp only[go_sem];apply aG [0] (aB _) d_ s_ rfl rfl (aAi f m l a h);rintro r b ⟨rfl,rfl⟩;simp only[go_sem,GC]
def WW(f:Nat)(m:Nat->Bool)(x:Nat)(h:aA PQ G f [uv x] [] λr T=>r=.v (.bool (m x))/\T=[]):aA PQ G jY [uv x,.ptr 0 0] [some (.box [.cl f []])] λr T=>r=.v (.bool (!m x))/\T=[some (.box [.cl f []])]:=by refine aC FE ?_;simp only[go_sem];apply cX h;simp only[go_sem]
def aAk(f:Nat)(m:Nat->Bool)(l:V_)(g:l.length<2^63-1)(h:∀x∈l,aA PQ G f [uv x] [] λr T=>r=.v (.bool (m x))/\T=[]):
 aA PQ G iC [.ls 1 (ul l),.cl jY [.ptr 0 0]] [some (.box [.cl f []])] λr T=>r=iv (qX (λx=>!m x) l)/\T=[some (.box [.cl f []])]:=by
 apply aC sO;simp only[go_sem,aP];refine aQ l.length (λi=>⟨1,[(0,.ls 1 (ul l)),(1,.cl jY [.ptr 0 0]),(7,iv l.length),(8,iv i)],[some (.box [.cl f []])]⟩) (λi=>∀j(a:j<l.length),j<i->(!m l[j])=false) ?_ F_ ?_ ?_;simp only[go_sem];intro i b c;have e:(ul l)[i]?=some [uv l[i]]:=aO _ l i b;simp only[go_sem,aT b,e];apply aG [0] (aB _) d_ s_ rfl rfl (WW f m l[i] (h _ (eQ b)));rintro r k ⟨rfl,rfl⟩
 cases d:m l[i]with
 |true=>
  simp only[go_sem,fQ i o_];grind
 |false=>
  simp only[go_sem];rw[mC b c i_]
 intro c;simp only[go_sem,aS (bP _)];rw[lD λj a=>c j a a]
def aAl(f:Nat)(m:Nat->Bool)(l:V_)(a:l.length<2^63-1)(h:∀x∈l,aA PQ G f [uv x] [] λr T=>r=.v (.bool (m x))/\T=[]):
 aA PQ G fS [.ls 1 (ul l),.cl jY [.ptr 0 0]] [some (.box [.cl f []])] λr T=>r=.v (.bool (l.any λx=>!m x))/\T=[some (.box [.cl f []])]:=by
 apply aC qJ;simp only[go_sem];apply aG [0] (aB _) d_ s_ rfl rfl (aAk f m l a h);rintro r b ⟨rfl,rfl⟩;simp only[go_sem,ge_iff_le,mN]
def aAm(f:Nat)(m:Nat->Bool)(l:V_)(a:l.length<2^63-1)(h:∀x∈l,aA PQ G f [uv x] [] λr T=>r=.v (.bool (m x))/\T=[]):
 aA PQ G tN [.ls 1 (ul l),.cl f []] [] λr T=>r=.v (.bool (l.all m))/\T=[]:=by
 apply aC HU;simp only[go_sem];apply aG [0] (aB _) d_ s_ rfl rfl (aAl f m l a h);rintro r b ⟨rfl,rfl⟩;simp only[go_sem,GC]
def aAn(f:Nat)(m:Id->Bool)(x:Id)(h:aA PQ G f [.ag x.A] [] λr T=>r=.v (.bool (m x))/\T=[]):aA PQ G gU [.ag x.A,.ptr 0 0] [some (.box [.cl f []])] λr T=>r=.v (.bool (!m x))/\T=[some (.box [.cl f []])]:=by refine aC Cj ?_;simp only[go_sem,Id.A_def];apply cX h;simp only[go_sem]
def aCK(f:Nat)(m:Id->Bool)(l:D_)(o:l.length<2^63-1)(h:∀x∈l,aA PQ G f [.ag x.A] [] λr T=>r=.v (.bool (m x))/\T=[]):
 aA PQ G bB [ids l,.cl gU [.ptr 0 0]] [some (.box [.cl f []])] λr T=>r=iv (qX (λx=>!m x) l)/\T=[some (.box [.cl f []])]:=by
 apply aC cJ;simp only[go_sem,aP];refine aQ l.length (λi=>⟨1,[(0,ids l),(1,.cl gU [.ptr 0 0]),(7,iv l.length),(8,iv i)],[some (.box [.cl f []])]⟩) (λi=>∀j(d:j<l.length),j<i->(!m l[j])=false) ?_ au ?_ ?_;simp only[go_sem];intro i e g;have n:(l.map Id.A)[i]?=some [.v (.int .i64 l[i].a),.v (.int .i64 l[i].b),.v (.int .u64 l[i].c)]:=aO _ l i e;simp only[go_sem,aT e,n];apply aG [0] (aB _) d_ s_ rfl rfl (aAn f m l[i] (h _ (eQ e)));rintro r p ⟨rfl,rfl⟩
 cases k:m l[i]with
 |true=>
  simp only[go_sem,fQ i o_];grind
 |false=>
  simp only[go_sem];rw[mC e g (by rw[k];rfl)]
 intro g;simp only[go_sem,aS (bP _)];rw[lD λj d=>g j d d]
def aCL(f:Nat)(m:Id->Bool)(l:D_)(a:l.length<2^63-1)(h:∀x∈l,aA PQ G f [.ag x.A] [] λr T=>r=.v (.bool (m x))/\T=[]):
 aA PQ G bD [ids l,.cl gU [.ptr 0 0]] [some (.box [.cl f []])] λr T=>r=.v (.bool (l.any λx=>!m x))/\T=[some (.box [.cl f []])]:=by
 apply aC gK;simp only[go_sem];apply aG [0] (aB _) d_ s_ rfl rfl (aCK f m l a h);rintro r b ⟨rfl,rfl⟩;simp only[go_sem,ge_iff_le,mN]
def aCM(f:Nat)(m:Id->Bool)(l:D_)(a:l.length<2^63-1)(h:∀x∈l,aA PQ G f [.ag x.A] [] λr T=>r=.v (.bool (m x))/\T=[]):
 aA PQ G oR [ids l,.cl f []] [] λr T=>r=.v (.bool (l.all m))/\T=[]:=by
 apply aC EM;simp only[go_sem];apply aG [0] (aB _) d_ s_ rfl rfl (aCL f m l a h);rintro r b ⟨rfl,rfl⟩;simp only[go_sem,GC]
def UM(f:Nat)(m:NodeM->Bool)(x:NodeM)(h:aA PQ G f [.ag x.A] [] λr T=>r=.v (.bool (m x))/\T=[]):aA PQ G iV [.ag x.A,.ptr 0 0] [some (.box [.cl f []])] λr T=>r=.v (.bool (!m x))/\T=[some (.box [.cl f []])]:=by refine aC Df ?_;simp only[go_sem,NodeM.A];apply cX h;simp only[go_sem]
def WX(f:Nat)(m:NodeM->Bool)(l:List NodeM)(g:l.length<2^63-1)(h:∀x∈l,aA PQ G f [.ag x.A] [] λr T=>r=.v (.bool (m x))/\T=[]):
 aA PQ G fM [.ls 2 (l.map NodeM.A),.cl iV [.ptr 0 0]] [some (.box [.cl f []])] λr T=>r=iv (qX (λx=>!m x) l)/\T=[some (.box [.cl f []])]:=by
 apply aC pV;simp only[go_sem,aP];refine aQ l.length (λi=>⟨1,[(0,.ls 2 (l.map NodeM.A)),(1,.cl iV [.ptr 0 0]),(7,iv l.length),(8,iv i)],[some (.box [.cl f []])]⟩) (λi=>∀j(a:j<l.length),j<i->(!m l[j])=false) ?_ F_ ?_ ?_;simp only[go_sem];intro i b c;have e:(l.map NodeM.A)[i]?=some [uv l[i].Pub,F5 l[i].Boxes]:=aO _ l i b;simp only[go_sem,aT b,e];apply aG [0] (aB _) d_ s_ rfl rfl (UM f m l[i] (h _ (eQ b)));rintro r k ⟨rfl,rfl⟩
 cases d:m l[i]with
 |true=>
  simp only[go_sem,fQ i o_];grind
 |false=>
  simp only[go_sem];rw[mC b c i_]
 intro c;simp only[go_sem,aS (bP _)];rw[lD λj a=>c j a a]
def WY(f:Nat)(m:NodeM->Bool)(l:List NodeM)(a:l.length<2^63-1)(h:∀x∈l,aA PQ G f [.ag x.A] [] λr T=>r=.v (.bool (m x))/\T=[]):
 aA PQ G dY [.ls 2 (l.map NodeM.A),.cl iV [.ptr 0 0]] [some (.box [.cl f []])] λr T=>r=.v (.bool (l.any λx=>!m x))/\T=[some (.box [.cl f []])]:=by
 apply aC oE;simp only[go_sem];apply aG [0] (aB _) d_ s_ rfl rfl (WX f m l a h);rintro r b ⟨rfl,rfl⟩;simp only[go_sem,ge_iff_le,mN]
def Nz(f:Nat)(m:NodeM->Bool)(l:List NodeM)(a:l.length<2^63-1)(h:∀x∈l,aA PQ G f [.ag x.A] [] λr T=>r=.v (.bool (m x))/\T=[]):
 aA PQ G jX [.ls 2 (l.map NodeM.A),.cl f []] [] λr T=>r=.v (.bool (l.all m))/\T=[]:=by
 apply aC FD;simp only[go_sem];apply aG [0] (aB _) d_ s_ rfl rfl (WY f m l a h);rintro r b ⟨rfl,rfl⟩;simp only[go_sem,GC]
def UN(f:Nat)(m:SealM->Bool)(x:SealM)(h:aA PQ G f [.ag x.A] [] λr T=>r=.v (.bool (m x))/\T=[]):aA PQ G fW [.ag x.A,.ptr 0 0] [some (.box [.cl f []])] λr T=>r=.v (.bool (!m x))/\T=[some (.box [.cl f []])]:=by refine aC CI ?_;simp only[go_sem,SealM.A];apply cX h;simp only[go_sem]
def WZ(f:Nat)(m:SealM->Bool)(l:List SealM)(o:l.length<2^63-1)(h:∀x∈l,aA PQ G f [.ag x.A] [] λr T=>r=.v (.bool (m x))/\T=[]):
 aA PQ G dU [.ls 4 (l.map SealM.A),.cl fW [.ptr 0 0]] [some (.box [.cl f []])] λr T=>r=iv (qX (λx=>!m x) l)/\T=[some (.box [.cl f []])]:=by
 apply aC nV;simp only[go_sem,aP];refine aQ l.length (λi=>⟨1,[(0,.ls 4 (l.map SealM.A)),(1,.cl fW [.ptr 0 0]),(7,iv l.length),(8,iv i)],[some (.box [.cl f []])]⟩) (λi=>∀j(d:j<l.length),j<i->(!m l[j])=false) ?_ au ?_ ?_;simp only[go_sem];intro i e g;have n:(l.map SealM.A)[i]?=some [.v (.int .i64 l[i].Of.a),.v (.int .i64 l[i].Of.b),.v (.int .u64 l[i].Of.c),.ls 1 (bl l[i].Body)]:=aO _ l i e;simp only[go_sem,aT e,n];apply aG [0] (aB _) d_ s_ rfl rfl (UN f m l[i] (h _ (eQ e)));rintro r p ⟨rfl,rfl⟩
 cases k:m l[i]with
 |true=>
  simp only[go_sem,fQ i o_];grind
 |false=>
  simp only[go_sem];rw[mC e g (by rw[k];rfl)]
 intro g;simp only[go_sem,aS (bP _)];rw[lD λj d=>g j d d]
def Wa(f:Nat)(m:SealM->Bool)(l:List SealM)(a:l.length<2^63-1)(h:∀x∈l,aA PQ G f [.ag x.A] [] λr T=>r=.v (.bool (m x))/\T=[]):
 aA PQ G dJ [.ls 4 (l.map SealM.A),.cl fW [.ptr 0 0]] [some (.box [.cl f []])] λr T=>r=.v (.bool (l.any λx=>!m x))/\T=[some (.box [.cl f []])]:=by
 apply aC mO;simp only[go_sem];apply aG [0] (aB _) d_ s_ rfl rfl (WZ f m l a h);rintro r b ⟨rfl,rfl⟩;simp only[go_sem,ge_iff_le,mN]
def N0(f:Nat)(m:SealM->Bool)(l:List SealM)(a:l.length<2^63-1)(h:∀x∈l,aA PQ G f [.ag x.A] [] λr T=>r=.v (.bool (m x))/\T=[]):
 aA PQ G iU [.ls 4 (l.map SealM.A),.cl f []] [] λr T=>r=.v (.bool (l.all m))/\T=[]:=by
 apply aC De;simp only[go_sem];apply aG [0] (aB _) d_ s_ rfl rfl (Wa f m l a h);rintro r b ⟨rfl,rfl⟩;simp only[go_sem,GC]
end
end Hud
namespace Hud
set_option maxRecDepth 99999
open Go
def LZ:=eVf (cF zZ [])
def Gd:=eVf (cF rQ [(2,none,1)])
def Bx:=eVf (cF cD [])
def Bz:=eVf (cF fD [])
def Ge:=eVf (cF fL [])
def La:=eVf (cF DX [])
def OQ:=eVf (cF FA [])
def I2:=eVf (cF Ap [])
def OR:=eVf (cF E9 [])
def Hd:=eVf (cF tO [])
end Hud
namespace Hud
open Go
structure EvT where
 fn:Nat->Option HFun
 pr:Nat->List AV->aK->Option (AV×aK)
inductive ER where
 |bad|ok (e:Ex) (st:St)
def O9:Value->Value->Bool|.int k a,.int e b=>k==e&&a==b|.bool a,.bool b=>a==b|.slice none a b,.slice none c d=>Nat.beq a c&&Nat.beq b d|.pointer none,.pointer none=>true|.nilFunc,.nilFunc=>true|.func (.func g) a b,.func (.func f) i h=>Nat.beq g f&&(Nat.beq a.size 0&&(Nat.beq b.size 0&&(Nat.beq i.size 0&&Nat.beq h.size 0)))|_,_=>false
mutual
def Gj:AV->AV->Bool|.v x,.v y=>O9 x y|.ls k l,.ls g m=>Nat.beq k g&&aEp l m|.ag l,.ag m=>VN l m|.tup l,.tup m=>VN l m|.rp l,.rp m=>VN l m|.own i,.own j=>Nat.beq i j|.mp i,.mp j=>Nat.beq i j|.ptr i a,.ptr j b=>Nat.beq i j&&Nat.beq a b|.elt i a b c,.elt j d e f=>Nat.beq i j&&(Nat.beq a d&&(Nat.beq b e&&Nat.beq c f))|.vw i a b c,.vw j d e f=>Nat.beq i j&&(Nat.beq a d&&(Nat.beq b e&&Nat.beq c f))|_,_=>false
def VN:O_->O_->Bool|[],[]=>true|x::l,y::m=>Gj x y&&VN l m|_,_=>false
def aEp:N_->N_->Bool|[],[]=>true|x::l,y::m=>VN x y&&aEp l m|_,_=>false
end
section
variable(G:L_)(tb:EvT)
end
structure EvT.Ok(P:Program)(G:Nat->Option (List AV))(tb:EvT):Prop where
 fn:∀f h,tb.fn f=some h->∃H,tF P f H=some h
 pr:∀f args T r T',tb.pr f args T=some (r,T')->aA P G f args T λr' T''=>r'=r/\T''=T'
section
variable{P:Program}{G:L_}{tb:EvT}
def MX{x y:Value}(h:O9 x y=true):x=y:=by
 unfold O9 at h;split at h
 case h_6=>
  simp only[zJ,Ko,Array.size_eq_zero_iff]at h;obtain⟨rfl,rfl,rfl,rfl,rfl⟩:=h;rfl
 all_goals simp_all
mutual
def aGa:∀(x y:AV),Gj x y=true->x=y
 |.v x,y,h=>by
  cases y<;>simp only[Gj,jJ]at h;rw[MX h]
 |.ls k l,y,h=>by
  cases y<;>simp only[Gj,jJ,zJ,Ko]at h;rw[h.1,ZQ l _ h.2]
 |.ag l,y,h=>by
  cases y<;>simp only[Gj,jJ]at h;rw[JQ l _ h]
 |.tup l,y,h=>by
  cases y<;>simp only[Gj,jJ]at h;rw[JQ l _ h]
 |.rp l,y,h=>by
  cases y<;>simp only[Gj,jJ]at h;rw[JQ l _ h]
 |.own i,y,h=>by
  cases y<;>simp only[Gj,jJ,Ko]at h;rw[h]
 |.mp i,y,h=>by
  cases y<;>simp only[Gj,jJ,Ko]at h;rw[h]
 |.ptr i a,y,h=>by
  cases y<;>simp only[Gj,jJ,zJ,Ko]at h;rw[h.1,h.2]
 |.elt i a b c,y,h=>by
  cases y<;>simp only[Gj,jJ,zJ,Ko]at h;simp_all
 |.vw i a b c,y,h=>by
  cases y<;>simp only[Gj,jJ,zJ,Ko]at h;simp_all
 |.yl i,y,h=>by cases y<;>simp only[Gj,jJ]at h
 |.bm f k d,y,h=>by cases y<;>simp only[Gj,jJ]at h
 |.cl f d,y,h=>by cases y<;>simp only[Gj,jJ]at h
 |.any,y,h=>by cases y<;>simp only[Gj,jJ]at h
def JQ:∀(x y:O_),VN x y=true->x=y
 |[],y,h=>by cases y<;>simp only[VN,jJ]at h;rfl
 |x::l,y,h=>by cases y<;>simp only[VN,jJ,zJ]at h;rw[aGa x _ h.1,JQ l _ h.2]
def ZQ:∀(x y:N_),aEp x y=true->x=y
 |[],y,h=>by cases y<;>simp only[aEp,jJ]at h;rfl
 |x::l,y,h=>by cases y<;>simp only[aEp,jJ,zJ]at h;rw[JQ x _ h.1,ZQ l _ h.2]
end
end
mutual
def fH:AV->AV->Bool|.v x,.v y=>O9 x y|.v (.slice none 0 0),.ls _ []=>true|.ls k l,.ls a m=>Nat.beq k a&&zF l m|.ag l,.ag m=>pL l m|.tup l,.tup m=>pL l m|_,_=>false
def pL:O_->O_->Bool|[],[]=>true|x::l,y::m=>fH x y&&pL l m|_,_=>false
def zF:N_->N_->Bool|[],[]=>true|x::l,y::m=>pL x y&&zF l m|_,_=>false
end
def RN:∀{l m:N_},zF l m=true->l.length=m.length
 |[],[],_=>rfl|x::l,y::m,h=>by
  simp only[zF,zJ]at h;simp only[sE,RN h.2]
 |[],_::_,h=>by simp[zF]at h|_::_,[],h=>by simp[zF]at h
def RO:∀{l m:O_},pL l m=true->l.length=m.length
 |[],[],_=>rfl|x::l,y::m,h=>by
  simp only[pL,zJ]at h;simp only[sE,RO h.2]
 |[],_::_,h=>by simp[pL]at h|_::_,[],h=>by simp[pL]at h
def VO{x y:AV}(h:fH x y=true)(a:aX x=true):aX y=true:=by cases x<;>cases y<;>simp only[fH,jJ]at h;rw[<-MX h];exact a;rfl;rfl;grind[aX];grind[aX]
mutual
def MY{h:GH}:∀{x y:AV}{u:Value},fH x y=true->oB h x u->oB h y u
 |.v x,.v y,u,d,e=>by
  simp only[fH]at d;rw[<-MX d];exact e
 | .v x,.ls k q,u,d,e=>by
  cases q with
  |nil=>
   unfold fH at d;grind[oB]
  |cons a b=>simp[fH]at d
 |.ls k l,.ls r m,u,d,e=>by
  simp only[fH,zJ,Ko]at d;obtain⟨rfl,f⟩:=d;have g:=RN f;simp only[oB]at e⊢;obtain⟨A,c,h1,h2,h3,i⟩:=e;refine⟨A,c,g ▸ h1,g ▸ h2,h3,?_⟩;rcases i with i|⟨b,o,p,n⟩
  grind;exact .inr ⟨b,o,p,ZR f n⟩
 |.ag l,.ag m,u,d,e=>by
  simp only[fH]at d;simp only[oB]at e⊢;obtain⟨j,h1,h2⟩:=e;exact⟨j,h1,VP d h2⟩
 |.tup l,.tup m,u,d,e=>by simp[oB]at e
def ZR{h:GH}{b k:Nat}:∀{l m:N_}{o:Nat},zF l m=true->kF h b k l o->kF h b k m o|[],[],o,_,_=>by simp[kF]|x::l,y::m,o,a,e=>by simp only[zF,zJ]at a;simp only[kF]at e⊢;exact⟨(RO a.1) ▸ e.1,ZS a.1 e.2.1,ZR a.2 e.2.2⟩
def ZS{h:GH}{b:Nat}:∀{l m:O_}{o:Nat},pL l m=true->mR h b l o->mR h b m o|[],[],o,_,_=>by simp[mR]|x::l,y::m,o,a,e=>by simp only[pL,zJ]at a;simp only[mR]at e⊢;obtain⟨⟨u,g,f,d⟩,c⟩:=e;exact⟨⟨u,VO a.1 g,f,MY a.1 d⟩,ZS a.2 c⟩
def VP{h:GH}:∀{l m:O_}{us:C_},pL l m=true->cK h l us->cK h m us|[],[],us,_,e=>e|x::l,y::m,us,b,e=>by simp only[pL,zJ]at b;simp only[cK]at e⊢;obtain⟨u,a,f,d,c⟩:=e;exact⟨u,a,f,MY b.1 d,VP b.2 c⟩
end
mutual
def ZT{h:GH}{φ:Nat->Value}{n:Nat}:∀{x y:AV}{u:Value},fH x y=true->Rp h φ n x u->Rp h φ n y u
 |.v x,.v y,u,a,e=>by
  simp only[fH]at a;rw[<-MX a];exact e
 |.v x,.ls k d,u,a,e=>by
  simp only[Rp]at e⊢;exact MY (x:=.v x) a (by simpa only[oB]using e)
 |.ls k l,.ls c m,u,a,e=>by
  simp only[Rp]at e⊢;exact MY a e
 |.ag l,.ag m,u,a,e=>by
  simp only[fH]at a;simp only[Rp]at e⊢;obtain⟨b,h1,h2⟩:=e;exact⟨b,h1,MZ a h2⟩
 |.tup l,.tup m,u,a,e=>by simp only[fH]at a;simp only[Rp]at e⊢;obtain⟨b,h1,h2⟩:=e;exact⟨b,h1,MZ a h2⟩
def MZ{h:GH}{φ:Nat->Value}{n:Nat}:∀{l m:O_}{us:C_},pL l m=true->cC h φ n l us->cC h φ n m us|[],[],us,_,e=>e|x::l,y::m,us,b,e=>by simp only[pL,zJ]at b;simp only[cC]at e⊢;obtain⟨u,a,f,d,c⟩:=e;exact⟨u,a,f,ZT b.1 d,MZ b.2 c⟩
end
end Hud
