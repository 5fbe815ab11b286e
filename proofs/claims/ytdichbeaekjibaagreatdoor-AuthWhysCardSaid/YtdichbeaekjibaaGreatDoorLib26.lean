import Derived.Test.YtdichbeaekjibaaGreatDoorLib25
set_option linter.all false
set_option maxHeartbeats 40000000
namespace Hud
open Go
def Xl(s:Nat)(b:V_):vX s b<2^64:=J4 _ _
def aEz(d m:Nat):BK d m=⟨d,m,Xf PP 64 37 (AG ZC d) 1%PP,Xf PP 64 37 (AG ZD d) 1%PP,Xf PP 64 37 (AG vW d) 1%PP⟩:=by unfold BK;rw[PH _ (lG _ _),PH _ (lG _ _),PH _ (lG _ _)]
def Xm:List CardM:=[BK 1 1,BK 2 2,BK 3 3,BK 4 1,BK 5 2,BK 6 3]
def qB:List CardM:=[⟨1,1,1858807316446646070,2294458496254976924,1058522930688824048⟩,⟨2,2,1810974450540283748,732551293757751401,86482453431610406⟩,⟨3,3,490180086995058983,1441871927598236410,1783630545573332436⟩,⟨4,1,1953319703317080786,881125215762738857,1828901513722737251⟩,⟨5,2,603255930034390424,1128020181934541352,1855458293155442097⟩,⟨6,3,681465322610182208,1458595129815633359,1877287273825605593⟩]
def aBk:Xm=qB:=by unfold Xm;simp only[aEz];kernel_rfl
def wL(o:OpM):cM o={o with SR:=Xf PP 64 37 (vX (AG vW o.By.toNat) o.B) 1%PP,SS:=(vX (AG vW o.By.toNat) o.B+He (I8 (Xf PP 64 37 (vX (AG vW o.By.toNat) o.B) 1%PP) (Xf PP 64 37 (AG vW o.By.toNat) 1%PP) o.B).val (AG vW o.By.toNat))%lT}:=by unfold cM I9 B1;rw[PH _ (Xl _ _),PH _ (lG _ _)]
def Xn(a:Nat)(o:OpM)(h:a=((37:Fq)^AG vW o.By.toNat).val):BW a (cM o).B (cM o).SR (cM o).SS=true:=by
 subst h;have c:(cM o).SR=(B1 (AG vW o.By.toNat) o.B).val:=by simp only[cM]
 have b:(cM o).SS=I9 (AG vW o.By.toNat) o.B:=by simp only[cM]
 rw[aAN,c,b,aIF]
def KX{g b:GM}{p o:OpM}{c:CardM}{up:V_}(f:cM p=o)(h:gM g.Cards o.By=(c,true))(e:c.Sign=((37:Fq)^AG vW p.By.toNat).val)(h1:jB o=0)(h2:aW g.I (C7 o)=-1)(h3:g.L.length<200)
 (k:(o.Kind==1&&decide (0<g.L.length))=false) (j:BA g o=(0,up)) (i:(⟨g.Cards,g.L++[o],g.I++[C7 o],g.Up++[up],(g.In.map λr=>r++[false])++[oL g up++[false]]⟩:GM)=b):addM g (cM p)=(b,0):=by
 have a:=Xn c.Sign p e;rw[f]at a⊢;have d:dV g o=(0,up):=by unfold dV Du;rw[if_neg sj,h2,if_neg d_,if_neg o_,h,if_neg s_,a,if_neg s_,k,if_neg s_,j]
 unfold addM;rw[d,if_neg s_,<-i]
def C5:bQ=qB:=(show bQ=Xm from rfl).trans aBk
def Vb{g a:GM}{o p:OpM}{U:V_}(h1:Xi g o U=p)(h2:addM g (cM p)=(a,0)):bhM g o U=a:=by rw[bhM,h1,h2]
def lG0:GM:=⟨qB,[],[],[],[]⟩
def ZZ:Id:=⟨1,1,1678659063197719793⟩
def lI2:Id:=⟨1,2,1986754332845367016⟩
def lI3:Id:=⟨1,3,302905262156610722⟩
def lI4:Id:=⟨1,4,2151359658425387410⟩
def lI5:Id:=⟨1,5,1415757915243515795⟩
def lI6:Id:=⟨2,1,217900310499724631⟩
def lP1:OpM:=⟨1,1,1,0,[],0,0,0,0,[],⟨0,0,0⟩,0,[],[],⟨0,0,0⟩,[],0,0,[],0,[],0,0⟩
def PI:OpM:=⟨1,1,1,0,[],0,0,0,0,[],⟨0,0,0⟩,0,[],[],⟨0,0,0⟩,[],0,0,[],0,[],1957341969156249392,2198076407687076080⟩
def lG1:GM:=⟨qB,[PI],[ZZ],[[]],[[false]]⟩
def lS1:cM lP1=PI:=s7
def lA1:addM lG0 (cM lP1)=(lG1,0):=by refine KX (c:=⟨1,1,1858807316446646070,2294458496254976924,1058522930688824048⟩) (up:=[]) lS1 a_ ?_ a_ a_ d_ a_ a_ a_;rw[show lP1.By.toNat=1 from rfl,PH _ (lG _ _)];kernel_rfl
def lP2:OpM:=⟨1,2,2,0,[ZZ],2,0,0,3,[],⟨0,0,0⟩,0,[],[],⟨0,0,0⟩,[],0,0,[],0,[],0,0⟩
def TQ:OpM:=⟨1,2,2,0,[ZZ],2,0,0,3,[],⟨0,0,0⟩,0,[],[],⟨0,0,0⟩,[],0,0,[],0,[],1100293863131382432,85999066257217048⟩
def lG2:GM:=⟨qB,[PI,TQ],[ZZ,lI2],[[],[0]],[[false,false],[true,false]]⟩
def lS2:cM lP2=TQ:=s7
def lA2:addM lG1 (cM lP2)=(lG2,0):=by refine KX (c:=⟨1,1,1858807316446646070,2294458496254976924,1058522930688824048⟩) (up:=[0]) lS2 a_ ?_ a_ a_ d_ a_ a_ a_;rw[show lP2.By.toNat=1 from rfl,PH _ (lG _ _)];kernel_rfl
def lB2:bhM lG1 (G3 1 0 2 2 3 0) [0]=lG2:=Vb a_ lA2
def lP3:OpM:=⟨1,3,2,0,[lI2],3,0,0,3,[],⟨0,0,0⟩,0,[],[],⟨0,0,0⟩,[],0,0,[],0,[],0,0⟩
def Xo:OpM:=⟨1,3,2,0,[lI2],3,0,0,3,[],⟨0,0,0⟩,0,[],[],⟨0,0,0⟩,[],0,0,[],0,[],331454641707575666,880825274174778007⟩
def lG3:GM:=⟨qB,[PI,TQ,Xo],[ZZ,lI2,lI3],[[],[0],[1]],[[false,false,false],[true,false,false],[true,true,false]]⟩
def lS3:cM lP3=Xo:=s7
def lA3:addM lG2 (cM lP3)=(lG3,0):=by refine KX (c:=⟨1,1,1858807316446646070,2294458496254976924,1058522930688824048⟩) (up:=[1]) lS3 a_ ?_ a_ a_ d_ a_ a_ a_;rw[show lP3.By.toNat=1 from rfl,PH _ (lG _ _)];kernel_rfl
def lB3:bhM lG2 (G3 1 0 2 3 3 0) [1]=lG3:=Vb a_ lA3
def lP4:OpM:=⟨1,4,2,0,[lI3],4,0,0,3,[],⟨0,0,0⟩,0,[],[],⟨0,0,0⟩,[],0,0,[],0,[],0,0⟩
def lO4:OpM:=⟨1,4,2,0,[lI3],4,0,0,3,[],⟨0,0,0⟩,0,[],[],⟨0,0,0⟩,[],0,0,[],0,[],1985449911018515417,1095755653441449969⟩
def lG4:GM:=⟨qB,[PI,TQ,Xo,lO4],[ZZ,lI2,lI3,lI4],[[],[0],[1],[2]],[[false,false,false,false],[true,false,false,false],[true,true,false,false],[true,true,true,false]]⟩
def lS4:cM lP4=lO4:=s7
def lA4:addM lG3 (cM lP4)=(lG4,0):=by refine KX (c:=⟨1,1,1858807316446646070,2294458496254976924,1058522930688824048⟩) (up:=[2]) lS4 a_ ?_ a_ a_ d_ a_ a_ a_;rw[show lP4.By.toNat=1 from rfl,PH _ (lG _ _)];kernel_rfl
def lB4:bhM lG3 (G3 1 0 2 4 3 0) [2]=lG4:=Vb a_ lA4
def lP5:OpM:=⟨1,5,3,0,[lI4],2,0,0,0,[],⟨0,0,0⟩,0,[],[],⟨0,0,0⟩,[],0,0,[],0,[],0,0⟩
def lO5:OpM:=⟨1,5,3,0,[lI4],2,0,0,0,[],⟨0,0,0⟩,0,[],[],⟨0,0,0⟩,[],0,0,[],0,[],1016970253116322207,1455940877492789305⟩
def Za:GM:=⟨qB,[PI,TQ,Xo,lO4,lO5],[ZZ,lI2,lI3,lI4,lI5],[[],[0],[1],[2],[3]],[[false,false,false,false,false],[true,false,false,false,false],[true,true,false,false,false],[true,true,true,false,false],[true,true,true,true,false]]⟩
def lS5:cM lP5=lO5:=s7
def lA5:addM lG4 (cM lP5)=(Za,0):=by refine KX (c:=⟨1,1,1858807316446646070,2294458496254976924,1058522930688824048⟩) (up:=[3]) lS5 a_ ?_ a_ a_ d_ a_ a_ a_;rw[show lP5.By.toNat=1 from rfl,PH _ (lG _ _)];kernel_rfl
def lB5:bhM lG4 (G3 1 0 3 2 0 0) [3]=Za:=Vb a_ lA5
def lP6:OpM:=⟨2,1,3,0,[lI4],1,0,0,0,[],⟨0,0,0⟩,0,[],[],⟨0,0,0⟩,[],0,0,[],0,[],0,0⟩
def lO6:OpM:=⟨2,1,3,0,[lI4],1,0,0,0,[],⟨0,0,0⟩,0,[],[],⟨0,0,0⟩,[],0,0,[],0,[],119229842462975473,345172639488305421⟩
def BP:GM:=⟨qB,[PI,TQ,Xo,lO4,lO5,lO6],[ZZ,lI2,lI3,lI4,lI5,lI6],[[],[0],[1],[2],[3],[3]],[[false,false,false,false,false,false],[true,false,false,false,false,false],[true,true,false,false,false,false],[true,true,true,false,false,false],[true,true,true,true,false,false],[true,true,true,true,false,false]]⟩
def lS6:cM lP6=lO6:=s7
def lA6:addM Za (cM lP6)=(BP,0):=by refine KX (c:=⟨2,2,1810974450540283748,732551293757751401,86482453431610406⟩) (up:=[3]) lS6 a_ ?_ a_ a_ d_ a_ a_ a_;rw[show lP6.By.toNat=2 from rfl,PH _ (lG _ _)];kernel_rfl
def lB6:bhM Za (G3 2 0 3 1 0 0) [3]=BP:=Vb a_ lA6
def GS{b k d rl:Int}(h1:mZ b)(h3:mZ k)(c:mZ d)(a:mZ rl):(G3 b 0 k d rl 0).ok:=Hs h1 ⟨d_,d_⟩ h3 c a ⟨d_,d_⟩
def lR1:Reach bQ lG1:=by have h:=BM (Hs (b:=1) (sq:=1) (k:=1) (d:=0) (rl:=0) (nd:=0) ⟨d_,d_⟩ ⟨d_,d_⟩ ⟨d_,d_⟩ ⟨d_,d_⟩ ⟨d_,d_⟩ ⟨d_,d_⟩);have r:Reach bQ (addM ⟨bQ,[],[],[],[]⟩ (cM (G3 1 1 1 0 0 0))).1:=Reach.new.add h (W6 h);rw[C5]at r⊢;rw[show G3 1 1 1 0 0 0=lP1 from rfl,show(⟨qB,[],[],[],[]⟩:GM)=lG0 from rfl,lA1]at r;exact r
def lR2:Reach bQ lG2:=lB2 ▸ Fr lR1 lR1.hyp6.1 (GS ⟨d_,d_⟩ ⟨d_,d_⟩ ⟨d_,d_⟩ ⟨d_,d_⟩) _ (GR lR1 _)
def lR3:Reach bQ lG3:=lB3 ▸ Fr lR2 lR2.hyp6.1 (GS ⟨d_,d_⟩ ⟨d_,d_⟩ ⟨d_,d_⟩ ⟨d_,d_⟩) _ (GR lR2 _)
def lR4:Reach bQ lG4:=lB4 ▸ Fr lR3 lR3.hyp6.1 (GS ⟨d_,d_⟩ ⟨d_,d_⟩ ⟨d_,d_⟩ ⟨d_,d_⟩) _ (GR lR3 _)
def lR5:Reach bQ Za:=lB5 ▸ Fr lR4 lR4.hyp6.1 (GS ⟨d_,d_⟩ ⟨d_,d_⟩ ⟨d_,d_⟩ ⟨d_,d_⟩) _ (GR lR4 _)
def lR6:Reach bQ BP:=lB6 ▸ Fr lR5 lR5.hyp6.1 (GS ⟨d_,d_⟩ ⟨d_,d_⟩ ⟨d_,d_⟩ ⟨d_,d_⟩) _ (GR lR5 _)
def lGi:Nat->GM|0=>lG1|1=>lG2|2=>lG3|_=>lG4
def lRi(i:Nat):Reach bQ (lGi i):=by unfold lGi;split;exact lR1;exact lR2;exact lR3;exact lR4
def lBi(i:Nat)(a:i<3):bhM (lGi i) (G3 1 0 2 ((i+2:Nat):Int) 3 0) [i]=lGi (i+1):=by rcases(o_:i=0\/i=1\/i=2) with rfl|rfl|rfl;exact lB2;exact lB3;exact lB4
def lIi(i:Nat)(a:i<3):i<(lGi i).I.length:=by rcases(o_:i=0\/i=1\/i=2) with rfl|rfl|rfl<;>decide
def okL{n:Int}(h:0<=n/\n<=1000):mZ n:=⟨o_,o_⟩
section
variable{G:L_}
def aEA{g e:GM}(a:Reach bQ g){b k d rl:Int}(c:0<=b/\b<=1000)(l:0<=k/\k<=1000)(o:0<=d/\d<=1000)(j:0<=rl/\rl<=1000)(u:Nat)(f:u<g.I.length)(n:bhM g (G3 b 0 k d rl 0) [u]=e):
 aA PQ G rN [.ag g.A,.ag (gD (G3 b 0 k d rl 0) dK dK dK dK dK),.ls 1 [[iv u]]] [] λr T=>r=.ag e.A/\T=[]:=by
 obtain⟨m,_,i,_⟩:=a.hyp6;have h:=aEy (G:=G) g m i _ (GS (okL c) (okL l) (okL o) (okL j)) c.1 [u] kn s_ (GR a _);rw[n]at h;exact h
def aIH:aA PQ G HM [] [] λr T=>r=.ag lG4.A/\T=[]:=by
 apply aC P4;have c:=OX (G:=G) (G3 1 1 1 0 0 0) (Hs ⟨d_,d_⟩ ⟨d_,d_⟩ ⟨d_,d_⟩ ⟨d_,d_⟩ ⟨d_,d_⟩ ⟨d_,d_⟩) d_;have a:aA PQ G jK [.ag (gD (G3 1 1 1 0 0 0) dK dK dK dK dK)] [] λr T=>r=.ag PI.A/\T=[]:=by rw[<-lS1];exact aA.asub c (by simp only[pL];rfl)
 have l:aA PQ G mA [.ag lG0.A,.ag PI.A] [] λr T=>r=.tup [.ag lG1.A,iv 0]/\T=[]:=by
  have g:Reach bQ lG0:=by rw[lG0,<-C5];exact Reach.new
  have h:=So (G:=G) lG0 (cM lP1) g.hyp6.1 (BM (Hs (b:=1) (sq:=1) (k:=1) (d:=0) (rl:=0) (nd:=0) ⟨d_,d_⟩ ⟨d_,d_⟩ ⟨d_,d_⟩ ⟨d_,d_⟩ ⟨d_,d_⟩ ⟨d_,d_⟩));rw[lA1,lS1]at h;exact h
 simp only[go_sem];apply cX aOH;simp only[go_sem];apply cX VY;simp only[go_sem];apply cX ZW;simp only[go_sem];rw[C5,show(⟨qB,[],[],[],[]⟩:GM)=lG0 from rfl];apply cX a;simp only[go_sem];apply cX l;simp only[go_sem];refine aQ 3 (λi=>⟨0,[(0,.ptr 0 0),(1,.ptr 1 0),(2,iv (i+2:Nat))],[some (.box z5),some (.box (lGi i).A)]⟩) (λ_=>True) ?_ trivial ?_ ?_;simp only[go_sem,z5];rfl;intro i e _;have m:decide (((i+2:Nat):Int)<5)=true:=decide_eq_true o_;have w2:IntKind.i64.wrap (((i+2:Nat):Int)-2)=(i:Int):=k_;have w1:IntKind.i64.wrap (((i+2:Nat):Int)+1)=((i+1+2:Nat):Int):=k_;have j:=aEA (G:=G) (lRi i) (b:=1) (k:=2) (d:=((i+2:Nat):Int)) (rl:=3) d_ d_ o_ d_ i (lIi i e) (lBi i e);generalize lGi (i+1)=n at *
 generalize lGi i=f at *
 generalize((i+2:Nat):Int)=d at *
 simp only[go_sem,z5,m,w2];apply Sb [2] [0] (aB _) (args3:=[.ag f.A,.ag (gD (G3 1 0 2 d 3 0) dK dK dK dK dK),.ls 1 [[iv i]]]) d_ s_ rfl rfl (by simp only[go_sem];rfl) rfl f_ j f_;simp only[go_sem,z5,w1,show f.A.drop 5=[] from rfl];intro _;simp only[go_sem,z5];rfl
def RS(j:GK G){g:GM}(f:Reach bQ g):aA PQ G xO [.ag g.A,rG ((List.range g.L.length).map λ(i:Nat)=>(i:Int))] [] λr T=>r=.ptr 0 0/\T=TG 0 (AM bQ g.L):=by
 have c:=f.good rY;have a:=c.cards;have e:∀i,i<=g.L.length->KV g ((List.range g.L.length).take i)=g.L.take i:=by
  intro i b;refine Ki (by simp[KV]) λk h1 h2=>?_;simp only[KV,zL,List.getElem_take,List.getElem_range];have:k<g.L.length:=by simp at h2;omega
  rw[rH,jN this];rfl
 have d:=e g.L.length (cN _);rw[sG s_,dE]at d
 have h:=aGe (G:=G) j g c.ok (by rw[a];exact rY) c.ids (List.range g.L.length) (λi b=>uM.1 b) (by rw[QK];have:=c.n;omega) (λi b=>by
  rw[QK]at b;rw[e i o_,a,List.getElem_range,rH,jN b]
  exact c.all i b)
 rw[d,a]at h;exact h
structure LivesP(G:Nat->Option (List AV)):Prop where
 counts:aA PQ G pN [.ptr 0 0,ids BP.I] (TG 0 (AM bQ BP.L)) λr T=>r=ids Za.I/\T=TG 0 (AM bQ BP.L)
 why:aA PQ G wB [.ptr 0 0,ids BP.I,.ag lI6.A] (TG 0 (AM bQ BP.L)) λr T=>r=iv 15/\T=TG 0 (AM bQ BP.L)
 kill:lA (AM bQ BP.L) lI5 lI6=true
def aBl(n:GK G)(m:LivesP G):aA PQ G Ey [] [] λr T=>r=.v (.bool true)/\T=[]:=by
 have s:=aEA (G:=G) lR4 (b:=1) (k:=3) (d:=2) (rl:=0) d_ d_ d_ d_ 3 d_ lB5;have q:=aEA (G:=G) lR5 (b:=2) (k:=3) (d:=1) (rl:=0) d_ d_ d_ d_ 3 d_ lB6;apply aC Oq;simp only[go_sem];apply cX aIH;simp only[go_sem];apply Sb [1] [0] (aB _) (args3:=[.ag lG4.A,.ag (gD (G3 1 0 3 2 0 0) dK dK dK dK dK),.ls 1 [[iv 3]]]) d_ s_ rfl rfl (by simp only[go_sem];rfl) rfl f_ s f_;simp only[go_sem,show lG4.A.drop 5=[] from rfl];apply Sb [2] [0] (aB _) (args3:=[.ag Za.A,.ag (gD (G3 2 0 3 1 0 0) dK dK dK dK dK),.ls 1 [[iv 3]]]) d_ s_ rfl rfl (by simp only[go_sem];rfl) rfl f_ q f_;simp only[go_sem,show Za.A.drop 5=[] from rfl];apply cX (VZ BP lR6.hyp6.1);simp only[go_sem];apply kM (RS n lR6);simp only[go_sem,TG,MG];have g:BP.I.length=6:=rfl;simp only[go_sem,aP,g];obtain⟨o,l,a⟩:=m;have c:=λ(p:Nat×Nat×Nat)(T:aK)(h:GAt T p (AM bQ BP.L))(x y:Id)=>GQ (G:=G) h (lR6.ggood rY JP).ok x y;have e:aA PQ G mI [.ptr 0 0,.ag lI5.A,.ag lI6.A] (TG 0 (AM bQ BP.L)) λr T=>r=.v (.bool true)/\T=TG 0 (AM bQ BP.L):=by have h:=c (0,1,2) (TG 0 (AM bQ BP.L)) ⟨rfl,rfl,rfl,d_,d_,d_⟩ lI5 lI6;rw[a]at h;exact h
 clear a c;generalize AM bQ BP.L=p at *
 have t:(BP.I.map Id.A)[4]?=some lI5.A:=rfl;have f:(BP.I.map Id.A)[5]?=some lI6.A:=rfl;have j:(BP.I.map Id.A).take 5=Za.I.map Id.A:=rfl;apply aG (T2:=TG 0 p) [3,4,5] (aB _) d_ s_ rfl v_ o;rintro r i ⟨rfl,rfl⟩;simp only[go_sem,TG,MG,g,aP,j];apply cX (Pr Za.I Za.I d_);simp only[go_sem,decide_true,t,f];apply aG (T2:=TG 0 p) [3,4,5] (aB _) d_ s_ rfl v_ e;rintro r i ⟨rfl,rfl⟩;simp only[go_sem,TG,MG,f];apply aG (T2:=TG 0 p) [3,4,5] (aB _) d_ s_ rfl v_ l;rintro r i ⟨rfl,rfl⟩;simp only[go_sem,TG,MG]
end
def aII{g:PGM}{o:OpM}(h:(sR g o).2=0)(a:vF o=0):(sR g o).1=⟨g.cards,g.nodes++[⟨o,C7 o,BF g o,Fa g o.Past⟩]⟩:=by grind[sR,Oa,Q8]
def lQ:Nat->PGM|0=>⟨qB,[]⟩|1=>⟨qB,[⟨PI,ZZ,[0,0,0,0],1⟩]⟩|2=>⟨qB,[⟨PI,ZZ,[0,0,0,0],1⟩,⟨TQ,lI2,[1,0,0,0],2⟩]⟩|3=>⟨qB,[⟨PI,ZZ,[0,0,0,0],1⟩,⟨TQ,lI2,[1,0,0,0],2⟩,⟨Xo,lI3,[3,0,0,0],3⟩]⟩|4=>⟨qB,[⟨PI,ZZ,[0,0,0,0],1⟩,⟨TQ,lI2,[1,0,0,0],2⟩,⟨Xo,lI3,[3,0,0,0],3⟩,⟨lO4,lI4,[7,0,0,0],4⟩]⟩|5=>⟨qB,[⟨PI,ZZ,[0,0,0,0],1⟩,⟨TQ,lI2,[1,0,0,0],2⟩,⟨Xo,lI3,[3,0,0,0],3⟩,⟨lO4,lI4,[7,0,0,0],4⟩,⟨lO5,lI5,[15,0,0,0],5⟩]⟩|_=>⟨qB,[⟨PI,ZZ,[0,0,0,0],1⟩,⟨TQ,lI2,[1,0,0,0],2⟩,⟨Xo,lI3,[3,0,0,0],3⟩,⟨lO4,lI4,[7,0,0,0],4⟩,⟨lO5,lI5,[15,0,0,0],5⟩,⟨lO6,lI6,[15,0,0,0],5⟩]⟩
def Xp(g:PGM)(o:OpM):PGM:=⟨g.cards,g.nodes++[⟨o,C7 o,BF g o,Fa g o.Past⟩]⟩
def lQ1:Xp (lQ 0) PI=lQ 1:=a_
def lQ2:Xp (lQ 1) TQ=lQ 2:=a_
def lQ3:Xp (lQ 2) Xo=lQ 3:=a_
def lQ4:Xp (lQ 3) lO4=lQ 4:=a_
def lQ5:Xp (lQ 4) lO5=lQ 5:=a_
def lQ6:Xp (lQ 5) lO6=lQ 6:=a_
def lQ0:AM bQ []=lQ 0:=by show(⟨uE bQ,[]⟩:PGM)=lQ 0;rw[uE,List.mergeSort_of_pairwise (by rw[C5];decide),C5];rfl
def pO1{l:List OpM}{o:OpM}{g a:PGM}(h0:AM bQ l=g)(c:(sR (AM bQ l) o).2=0)(b:jB o=0)(h1:Xp g o=a):AM bQ (l++[o])=a:=by rw[MS,aII c ((Aq o).trans b),h0];exact h1
def Zb:AM bQ BP.L=lQ 6:=by have a:=(lR6.good rY).all;have b:=lR6.checked;have h:(sR (AM bQ []) PI).2=0:=a 0 d_;have g:(sR (AM bQ [PI]) TQ).2=0:=a 1 d_;have f:(sR (AM bQ [PI,TQ]) Xo).2=0:=a 2 d_;have e:(sR (AM bQ [PI,TQ,Xo]) lO4).2=0:=a 3 d_;have d:(sR (AM bQ [PI,TQ,Xo,lO4]) lO5).2=0:=a 4 d_;have c:(sR (AM bQ [PI,TQ,Xo,lO4,lO5]) lO6).2=0:=a 5 d_;have m:=pO1 lQ0 h (b PI (by simp[BP])) lQ1;have l:=pO1 m g (b TQ (by simp[BP])) lQ2;have k:=pO1 l f (b Xo (by simp[BP])) lQ3;have j:=pO1 k e (b lO4 (by simp[BP])) lQ4;have i:=pO1 j d (b lO5 (by simp[BP])) lQ5;exact pO1 i c (b lO6 (by simp[BP])) lQ6
def aGh:L_:=λg=>if g=0 then some lP else if g=1 then some (qY.map λn:Nat=>iv (n:Int)) else none
end Hud
