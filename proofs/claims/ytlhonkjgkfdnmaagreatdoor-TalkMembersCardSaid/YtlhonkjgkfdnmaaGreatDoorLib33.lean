import Derived.Test.YtlhonkjgkfdnmaaGreatDoorLib28
import Derived.Test.YtlhonkjgkfdnmaaGreatDoorLib31
set_option linter.all false
namespace Hud
open Go
def Xl(s:Nat)(b:V_):vX s b<2^64:=J4 _ _
def aEz(d m:Nat):BK d m=⟨d,m,Xf PP 64 37 (AG ZC d) 1%PP,Xf PP 64 37 (AG ZD d) 1%PP,Xf PP 64 37 (AG vW d) 1%PP⟩:=by unfold BK;rw[PH _ (lG _ _),PH _ (lG _ _),PH _ (lG _ _)]
def Xm:List CardM:=[BK 1 1,BK 2 2,BK 3 3,BK 4 1,BK 5 2,BK 6 3]
def qB:List CardM:=[⟨1,1,1858807316446646070,2294458496254976924,1058522930688824048⟩,⟨2,2,1810974450540283748,732551293757751401,86482453431610406⟩,⟨3,3,490180086995058983,1441871927598236410,1783630545573332436⟩,⟨4,1,1953319703317080786,881125215762738857,1828901513722737251⟩,⟨5,2,603255930034390424,1128020181934541352,1855458293155442097⟩,⟨6,3,681465322610182208,1458595129815633359,1877287273825605593⟩]
def aBk:Xm=qB:=by unfold Xm;simp only[aEz];kernel_rfl
def wL(o:OpM):cM o={o with SR:=Xf PP 64 37 (vX (AG vW o.By.toNat) o.B) 1%PP,SS:=(vX (AG vW o.By.toNat) o.B+He (I8 (Xf PP 64 37 (vX (AG vW o.By.toNat) o.B) 1%PP) (Xf PP 64 37 (AG vW o.By.toNat) 1%PP) o.B).val (AG vW o.By.toNat))%lT}:=by unfold cM I9 B1;rw[PH _ (Xl _ _),PH _ (lG _ _)]
def Xn(a:Nat)(o:OpM)(h:a=((37:Fq)^AG vW o.By.toNat).val):BW a (cM o).B (cM o).SR (cM o).SS=true:=by
 subst h;have c:(cM o).SR=(B1 (AG vW o.By.toNat) o.B).val:=by simp only[cM]
 have b:(cM o).SS=I9 (AG vW o.By.toNat) o.B:=by simp only[cM]
 rw[aAN,c,b,aIF]
def KX{g b:GM}{p o:OpM}{c:CardM}{up:V_}(f:cM p=o)(h:gM g.Cards o.By=(c,true))(e:c.Sign=((37:Fq)^AG vW p.By.toNat).val)(h1:jB o=0)(h2:aW g.I (C7 o)=-1)(h3:g.L.length<200)
 (k:(o.Kind==1&&decide (0<g.L.length))=false) (j:BA g o=(0,up)) (i:(⟨g.Cards,g.L++[o],g.I++[C7 o],g.Up++[up],(g.In.map λr=>r++[false])++[oL g up++[false]]⟩:GM)=b):addM g (cM p)=(b,0):=by
 have a:=Xn c.Sign p e;rw[f]at a⊢;have d:dV g o=(0,up):=by unfold dV Du;rw[if_neg si,h2,if_neg d_,if_neg o_,h,if_neg s_,a,if_neg s_,k,if_neg s_,j]
 unfold addM;rw[d,if_neg s_,<-i]
end Hud
