import Derived.Test.YtlhonkjgkfdnmaaGreatDoorLib25
set_option linter.all false
namespace Hud
open Go

def PF(a:Fq)(m n:Nat):a^(m*n)=(a^m)^n:=by apply Fin.ext;rw[Jy,Jy,Jy,<-Kn,<-IA]
def Xj(n:Nat):(1:Fq)^n=1:=by apply Fin.ext;rw[Jy];show 1^n%PP=1;rw[Nat.one_pow];decide
def Xk:(37:Fq)≠0:=d_
def KW{a:Fq}(h:a≠0):∀n:Nat,a^n≠0|0=>by rw[pw0];exact aNv|n+1=>λe=>by rw[Wd,pw1]at e;rcases aFk e with h1|h1;exact KW h n h1;exact h h1
def ZY(n:Nat):(37:Fq)^(n%lT)=37^n:=by
 conv=>rhs;rw[<-QL n lT,Wd,PF]
 rw[show lT=NN from rfl,aAo Xk,Xj];exact(Fin.one_mul _).symm
def Va(a:Fq):TP a.val=a:=Fin.ext (EZ a.isLt)
def PG{a:Fq}(h:a≠0):1<=a.val:=by rcases JX a.val with e|e;exact absurd (Fin.ext e) h;exact e
def aIF(s:Nat)(b:V_):BW ((37:Fq)^s).val b (B1 s b).val (I9 s b)=true:=by
 have h1:=PG (KW Xk s);have h2:=PG (KW Xk (vX s b));have h3:=((37:Fq)^s).isLt;have f:=((37:Fq)^vX s b).isLt;have c:PP=2305843009213693951:=d_;have e:I9 s b<lT:=zM _ d_;have d:lT=2305843009213693950:=rfl;have a:(37:Fq)^I9 s b=B1 s b*(37^s)^(I8 (B1 s b).val ((37:Fq)^s).val b).val:=by unfold I9;rw[ZY,Wd,He,ZY,QP,PF];rfl
 unfold BW;rw[Va,Va];simp only[zJ,decide_eq_true_eq];refine⟨⟨⟨⟨h1,o_⟩,by unfold B1;exact h2,by unfold B1;omega⟩,o_⟩,a⟩
def PH(n:Nat)(h:n<2^64):((37:Fq)^n).val=Xf PP 64 37 n 1%PP:=by rw[Jy,SP PP 64 37 n 1 w_,Km];rfl
end Hud
