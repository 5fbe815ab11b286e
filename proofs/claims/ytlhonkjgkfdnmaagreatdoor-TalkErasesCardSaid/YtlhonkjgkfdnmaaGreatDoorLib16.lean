import Derived.Test.YtlhonkjgkfdnmaaGreatDoorLib12
set_option linter.all false
namespace Hud
set_option maxRecDepth 99999
open Go
def LJ:=eVf (cF zR [(5,none,3)])
def NZ:=eVf (cF oJ [])
def PW:=eVf (cF DT [])
def R9:=eVf (cF Ci [])
def Na:=eVf (cF xP [(2,none,5),(3,none,5)])
def LL:=eVf (cF jK [])
def SA:=eVf (cF mA [(11,none,1),(75,none,1001),(83,none,1001),(9,some 4,1)])
def SB:=eVf (cF AU [])
def PX:=eVf (cF qR [])
def LM:=eVf (cF rP [])
def Nb:=eVf (cF aH3 [(6,none,3)])
def SC:=eVf (cF F8 [])
def PY:=eVf (cF DP [])
def Nc:=eVf (cF xQ [(2,none,1)])
def Nd:=eVf (cF Bk [(5,none,1),(10,none,1)])
def PZ:=eVf (cF DN [(4,none,1)])
def UG:=eVf (cF Ij [])
def Pb:=eVf (cF An [(5,none,3)])
def LN:=eVf (cF Dc [])
def Pc:=eVf (cF wE [(2,none,1),(3,none,1)])
def Nf:=eVf (cF Bm [(2,none,1)])
def Pd:=eVf (cF DV [(2,none,1),(3,none,1)])
def Ng:=eVf (cF E3 [])
def Nh:=eVf (cF E5 [])
def Pf:=eVf (cF DY [])
def Jr:=eVf (cF wO [])
def Ni:=eVf (cF Bn [])
def Pg:=eVf (cF DZ [])
def UH:=eVf (cF dP [])
def Nj:=eVf (cF jT [])
def LO:=eVf (cF kQ [])
def UI:=eVf (cF xV [])
def Nk:=eVf (cF xW [])
end Hud
namespace Hud
open Go

structure EvT where
 fn:Nat->Option HFun
 pr:Nat->List AV->aK->Option (AV×aK)
inductive ER where
 |bad|ok (e:Ex) (st:St)
def O9:Value->Value->Bool|.int k a,.int e b=>k==e&&a==b|.bool a,.bool b=>a==b|.slice none a b,.slice none c d=>Nat.beq a c&&Nat.beq b d|.pointer none,.pointer none=>true|.nilFunc,.nilFunc=>true|.func (.func g) a b,.func (.func f) i h=>Nat.beq g f&&(Nat.beq a.size 0&&(Nat.beq b.size 0&&(Nat.beq i.size 0&&Nat.beq h.size 0)))|_,_=>false
mutual
def Gj:AV->AV->Bool|.v x,.v y=>O9 x y|.ls k l,.ls g m=>Nat.beq k g&&aEp l m|.ag l,.ag m=>VN l m|.tup l,.tup m=>VN l m|.rp l,.rp m=>VN l m|.own i,.own j=>Nat.beq i j|.mp i,.mp j=>Nat.beq i j|.ptr i a,.ptr j b=>Nat.beq i j&&Nat.beq a b|.elt i a b c,.elt j d e f=>Nat.beq i j&&(Nat.beq a d&&(Nat.beq b e&&Nat.beq c f))|.vw i a b c,.vw j d e f=>Nat.beq i j&&(Nat.beq a d&&(Nat.beq b e&&Nat.beq c f))|_,_=>false
def VN:O_->O_->Bool|[],[]=>true|x::l,y::m=>Gj x y&&VN l m|_,_=>false
def aEp:N_->N_->Bool|[],[]=>true|x::l,y::m=>VN x y&&aEp l m|_,_=>false
end
section
variable(G:L_)(tb:EvT)
end
structure EvT.Ok(P:Program)(G:Nat->Option (List AV))(tb:EvT):Prop where
 fn:∀f h,tb.fn f=some h->∃H,tF P f H=some h
 pr:∀f args T r T',tb.pr f args T=some (r,T')->aA P G f args T λr' T''=>r'=r/\T''=T'
section
variable{P:Program}{G:L_}{tb:EvT}
def MX{x y:Value}(h:O9 x y=true):x=y:=by
 unfold O9 at h;split at h
 case h_6=>
  simp only[zJ,Ko,Array.size_eq_zero_iff]at h;obtain⟨rfl,rfl,rfl,rfl,rfl⟩:=h;rfl
 all_goals simp_all
mutual
def aGa:∀(x y:AV),Gj x y=true->x=y
 |.v x,y,h=>by
  cases y<;>simp only[Gj,jJ]at h;rw[MX h]
 |.ls k l,y,h=>by
  cases y<;>simp only[Gj,jJ,zJ,Ko]at h;rw[h.1,ZQ l _ h.2]
 |.ag l,y,h=>by
  cases y<;>simp only[Gj,jJ]at h;rw[JQ l _ h]
 |.tup l,y,h=>by
  cases y<;>simp only[Gj,jJ]at h;rw[JQ l _ h]
 |.rp l,y,h=>by
  cases y<;>simp only[Gj,jJ]at h;rw[JQ l _ h]
 |.own i,y,h=>by
  cases y<;>simp only[Gj,jJ,Ko]at h;rw[h]
 |.mp i,y,h=>by
  cases y<;>simp only[Gj,jJ,Ko]at h;rw[h]
 |.ptr i a,y,h=>by
  cases y<;>simp only[Gj,jJ,zJ,Ko]at h;rw[h.1,h.2]
 |.elt i a b c,y,h=>by
  cases y<;>simp only[Gj,jJ,zJ,Ko]at h;simp_all
 |.vw i a b c,y,h=>by
  cases y<;>simp only[Gj,jJ,zJ,Ko]at h;simp_all
 |.yl i,y,h=>by cases y<;>simp only[Gj,jJ]at h
 |.bm f k d,y,h=>by cases y<;>simp only[Gj,jJ]at h
 |.cl f d,y,h=>by cases y<;>simp only[Gj,jJ]at h
 |.any,y,h=>by cases y<;>simp only[Gj,jJ]at h
def JQ:∀(x y:O_),VN x y=true->x=y
 |[],y,h=>by cases y<;>simp only[VN,jJ]at h;rfl
 |x::l,y,h=>by cases y<;>simp only[VN,jJ,zJ]at h;rw[aGa x _ h.1,JQ l _ h.2]
def ZQ:∀(x y:N_),aEp x y=true->x=y
 |[],y,h=>by cases y<;>simp only[aEp,jJ]at h;rfl
 |x::l,y,h=>by cases y<;>simp only[aEp,jJ,zJ]at h;rw[JQ x _ h.1,ZQ l _ h.2]
end
end
mutual
def fH:AV->AV->Bool|.v x,.v y=>O9 x y|.v (.slice none 0 0),.ls _ []=>true|.ls k l,.ls a m=>Nat.beq k a&&zF l m|.ag l,.ag m=>pL l m|.tup l,.tup m=>pL l m|_,_=>false
def pL:O_->O_->Bool|[],[]=>true|x::l,y::m=>fH x y&&pL l m|_,_=>false
def zF:N_->N_->Bool|[],[]=>true|x::l,y::m=>pL x y&&zF l m|_,_=>false
end
def RN:∀{l m:N_},zF l m=true->l.length=m.length
 |[],[],_=>rfl|x::l,y::m,h=>by
  simp only[zF,zJ]at h;simp only[sE,RN h.2]
 |[],_::_,h=>by simp[zF]at h|_::_,[],h=>by simp[zF]at h
def RO:∀{l m:O_},pL l m=true->l.length=m.length
 |[],[],_=>rfl|x::l,y::m,h=>by
  simp only[pL,zJ]at h;simp only[sE,RO h.2]
 |[],_::_,h=>by simp[pL]at h|_::_,[],h=>by simp[pL]at h
def VO{x y:AV}(h:fH x y=true)(a:aX x=true):aX y=true:=by cases x<;>cases y<;>simp only[fH,jJ]at h;rw[<-MX h];exact a;rfl;rfl;grind[aX];grind[aX]
mutual
def MY{h:GH}:∀{x y:AV}{u:Value},fH x y=true->oB h x u->oB h y u
 |.v x,.v y,u,d,e=>by
  simp only[fH]at d;rw[<-MX d];exact e
 | .v x,.ls k q,u,d,e=>by
  cases q with
  |nil=>
   unfold fH at d;grind[oB]
  |cons a b=>simp[fH]at d
 |.ls k l,.ls r m,u,d,e=>by
  simp only[fH,zJ,Ko]at d;obtain⟨rfl,f⟩:=d;have g:=RN f;simp only[oB]at e⊢;obtain⟨A,c,h1,h2,h3,i⟩:=e;refine⟨A,c,g ▸ h1,g ▸ h2,h3,?_⟩;rcases i with i|⟨b,o,p,n⟩
  grind;exact .inr ⟨b,o,p,ZR f n⟩
 |.ag l,.ag m,u,d,e=>by
  simp only[fH]at d;simp only[oB]at e⊢;obtain⟨j,h1,h2⟩:=e;exact⟨j,h1,VP d h2⟩
 |.tup l,.tup m,u,d,e=>by simp[oB]at e
def ZR{h:GH}{b k:Nat}:∀{l m:N_}{o:Nat},zF l m=true->kF h b k l o->kF h b k m o|[],[],o,_,_=>by simp[kF]|x::l,y::m,o,a,e=>by simp only[zF,zJ]at a;simp only[kF]at e⊢;exact⟨(RO a.1) ▸ e.1,ZS a.1 e.2.1,ZR a.2 e.2.2⟩
def ZS{h:GH}{b:Nat}:∀{l m:O_}{o:Nat},pL l m=true->mR h b l o->mR h b m o|[],[],o,_,_=>by simp[mR]|x::l,y::m,o,a,e=>by simp only[pL,zJ]at a;simp only[mR]at e⊢;obtain⟨⟨u,g,f,d⟩,c⟩:=e;exact⟨⟨u,VO a.1 g,f,MY a.1 d⟩,ZS a.2 c⟩
def VP{h:GH}:∀{l m:O_}{us:C_},pL l m=true->cK h l us->cK h m us|[],[],us,_,e=>e|x::l,y::m,us,b,e=>by simp only[pL,zJ]at b;simp only[cK]at e⊢;obtain⟨u,a,f,d,c⟩:=e;exact⟨u,a,f,MY b.1 d,VP b.2 c⟩
end
mutual
def ZT{h:GH}{φ:Nat->Value}{n:Nat}:∀{x y:AV}{u:Value},fH x y=true->Rp h φ n x u->Rp h φ n y u
 |.v x,.v y,u,a,e=>by
  simp only[fH]at a;rw[<-MX a];exact e
 |.v x,.ls k d,u,a,e=>by
  simp only[Rp]at e⊢;exact MY (x:=.v x) a (by simpa only[oB]using e)
 |.ls k l,.ls c m,u,a,e=>by
  simp only[Rp]at e⊢;exact MY a e
 |.ag l,.ag m,u,a,e=>by
  simp only[fH]at a;simp only[Rp]at e⊢;obtain⟨b,h1,h2⟩:=e;exact⟨b,h1,MZ a h2⟩
 |.tup l,.tup m,u,a,e=>by simp only[fH]at a;simp only[Rp]at e⊢;obtain⟨b,h1,h2⟩:=e;exact⟨b,h1,MZ a h2⟩
def MZ{h:GH}{φ:Nat->Value}{n:Nat}:∀{l m:O_}{us:C_},pL l m=true->cC h φ n l us->cC h φ n m us|[],[],us,_,e=>e|x::l,y::m,us,b,e=>by simp only[pL,zJ]at b;simp only[cC]at e⊢;obtain⟨u,a,f,d,c⟩:=e;exact⟨u,a,f,ZT b.1 d,MZ b.2 c⟩
end
end Hud
