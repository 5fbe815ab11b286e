import Derived.Test.YtlhonkjgkfdnmaaGreatDoorLib29
import Derived.Test.YtlhonkjgkfdnmaaGreatDoorLib30
set_option linter.all false
set_option maxHeartbeats 40000000
namespace Hud
open Go
def BK(d m:Nat):CardM:=⟨d,m,((37:Fq)^AG ZC d).val,((37:Fq)^AG ZD d).val,((37:Fq)^AG vW d).val⟩
def lG(a:V_)(d:Nat):AG a d<2^64:=J4 _ _
def BL(ow:V_):List CardM:=ow.mapIdx λi m=>BK (i+1) m
def XY(ow:V_)(i:Nat)(h:i<ow.length):BL (ow.take (i+1))=BL (ow.take i)++[BK (i+1) ow[i]]:=by rw[<-aBV h];grind[BL]
theorem Hk(ow:V_):(BL ow).length=ow.length:=by simp[BL]
def aG1{o:OpM}(h:o.ok)(a b:Nat)(e:a<2^64)(d:b<2^64):OpM.ok {o with SR:=a,SS:=b}:=by refine⟨h.ints,?_,h.epoch,h.of,h.past,h.path,h.body,h.refs,h.guards,h.boxes,h.hist⟩;intro n c;simp only[cS,pP,or_false]at c;rcases c with rfl|rfl|rfl;exact h.nums _ s_;exact e;exact d
def aEc(s:Nat)(b:V_):I9 s b<2^64:=QQ (zM _ d_) (by decide:lT<2^64)
def BM{o:OpM}(h:o.ok):(cM o).ok:=by unfold cM;exact aG1 h _ _ (Cr _) (aEc _ _)
def aEd(ow:V_)(f:ow.length<=1000)(h0:ow≠[])(d:∀m∈ow,m<=1000):cardsOk (BL ow):=by
 have a:∀c∈BL ow,∃i,∃h:i<ow.length,c=BK (i+1) ow[i]:=by intro c b;obtain⟨i,h,rfl⟩:=List.mem_mapIdx.1 b;grind
 refine⟨by rw[Hk];exact f,?_,?_,?_,?_⟩;intro e;have:=Hk ow;grind;intro c b;obtain⟨i,h,rfl⟩:=a c b;have:=d _ (eQ h);refine⟨⟨?_,?_⟩,⟨?_,?_⟩,?_,?_,?_⟩<;>simp only[BK];omega;omega;omega;omega;exact Cr _;exact Cr _;exact Cr _;grind[BK];grind[BK]
section
variable{G:L_}
def aEe(ow:V_)(o:ow.length<=1000):aA PQ G xP [Sa ow] [] λr T=>r=.own 0/\T=[some (.arr 5 ((BL ow).map CardM.A))]:=by
 apply aC Na;simp only[go_sem];refine aQ ow.length (λi=>⟨0,[(0,Sa ow),(3,.own 0),(4,iv i)],[some (.arr 5 ((BL (ow.take i)).map CardM.A))]⟩) (λ_=>True) ?_ trivial ?_ ?_;rfl;intro i d _;have c:decide ((i:Int)<(ow.length:Int))=true:=decide_eq_true o_;have e:=fQ i o_;have a:(ow.map λn:Nat=>[iv (n:Int)])[i]?=some [iv (ow[i]:Int)]:=gf;have b:(BL (ow.take i)).length=i:=by grind[Hk]
 have m:=XY ow i d;have h:=AI (G:=G) (bs [108,101,97,100]) ZC (i+1) Y_ Y_ (Az d_) d_ o_;have g:=AI (G:=G) (bs [107,101,101,112]) ZD (i+1) Y_ Y_ (Az d_) d_ o_;have f:=AI (G:=G) (bs [115,105,103,110]) vW (i+1) Y_ Y_ (Az d_) d_ o_;have l:=GJ (G:=G) (AG ZC (i+1)) (lG _ _);have k:=GJ (G:=G) (AG ZD (i+1)) (lG _ _);have j:=GJ (G:=G) (AG vW (i+1)) (lG _ _);simp only[go_sem,aP,c,a,e];apply cX h;simp only[go_sem,a];apply cX l;simp only[go_sem,a];apply cX g;simp only[go_sem,a];apply cX k;simp only[go_sem,a];apply cX f;simp only[go_sem,a];apply cX j;simp only[go_sem,aP,b,m,bZ,fG,uP,(g_:i+1<=maxLen),(o_:(i+1)*40<=140737488355328)];simp_all[CardM.A_def,BK,fu];intro _;have c:decide ((ow.length:Int)<(ow.length:Int))=false:=decide_eq_false o_;simp only[go_sem,aP,c,dE]
end
def Xl(s:Nat)(b:V_):vX s b<2^64:=J4 _ _
def aEz(d m:Nat):BK d m=⟨d,m,Xf PP 64 37 (AG ZC d) 1%PP,Xf PP 64 37 (AG ZD d) 1%PP,Xf PP 64 37 (AG vW d) 1%PP⟩:=by unfold BK;rw[PH _ (lG _ _),PH _ (lG _ _),PH _ (lG _ _)]
def Xm:List CardM:=[BK 1 1,BK 2 2,BK 3 3,BK 4 1,BK 5 2,BK 6 3]
def qB:List CardM:=[⟨1,1,1858807316446646070,2294458496254976924,1058522930688824048⟩,⟨2,2,1810974450540283748,732551293757751401,86482453431610406⟩,⟨3,3,490180086995058983,1441871927598236410,1783630545573332436⟩,⟨4,1,1953319703317080786,881125215762738857,1828901513722737251⟩,⟨5,2,603255930034390424,1128020181934541352,1855458293155442097⟩,⟨6,3,681465322610182208,1458595129815633359,1877287273825605593⟩]
def aBk:Xm=qB:=by unfold Xm;simp only[aEz];kernel_rfl
def wL(o:OpM):cM o={o with SR:=Xf PP 64 37 (vX (AG vW o.By.toNat) o.B) 1%PP,SS:=(vX (AG vW o.By.toNat) o.B+He (I8 (Xf PP 64 37 (vX (AG vW o.By.toNat) o.B) 1%PP) (Xf PP 64 37 (AG vW o.By.toNat) 1%PP) o.B).val (AG vW o.By.toNat))%lT}:=by unfold cM I9 B1;rw[PH _ (Xl _ _),PH _ (lG _ _)]
def Xn(a:Nat)(o:OpM)(h:a=((37:Fq)^AG vW o.By.toNat).val):BW a (cM o).B (cM o).SR (cM o).SS=true:=by
 subst h;have c:(cM o).SR=(B1 (AG vW o.By.toNat) o.B).val:=by simp only[cM]
 have b:(cM o).SS=I9 (AG vW o.By.toNat) o.B:=by simp only[cM]
 rw[aAN,c,b,aIF]
def KX{g b:GM}{p o:OpM}{c:CardM}{up:V_}(f:cM p=o)(h:gM g.Cards o.By=(c,true))(e:c.Sign=((37:Fq)^AG vW p.By.toNat).val)(h1:jB o=0)(h2:aW g.I (C7 o)=-1)(h3:g.L.length<200)
 (k:(o.Kind==1&&decide (0<g.L.length))=false) (j:BA g o=(0,up)) (i:(⟨g.Cards,g.L++[o],g.I++[C7 o],g.Up++[up],(g.In.map λr=>r++[false])++[oL g up++[false]]⟩:GM)=b):addM g (cM p)=(b,0):=by
 have a:=Xn c.Sign p e;rw[f]at a⊢;have d:dV g o=(0,up):=by unfold dV Du;rw[if_neg s7,h2,if_neg d_,if_neg o_,h,if_neg s_,a,if_neg s_,k,if_neg s_,j]
 unfold addM;rw[d,if_neg s_,<-i]
end Hud
