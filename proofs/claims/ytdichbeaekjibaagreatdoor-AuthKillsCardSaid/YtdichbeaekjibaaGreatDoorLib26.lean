import Derived.Test.YtdichbeaekjibaaGreatDoorLib25
import Derived.WalkKit
import Derived.WalkSpells
import Derived.Deep.RegionLaw
import Derived.Lib.SlicesDelete
import Derived.Lib.SliceRun
import Derived.Shelf.RegionOpenPlain
set_option linter.all false
namespace Hud
open Go
section
def Li (a:Fq) (m n:Nat):a^(m*n)=(a^m)^n:=by
 apply Fin.ext;rw [HG,HG,HG,←Hm,←FZ]
def Tf (n:Nat):(1:Fq)^n=1:=by
 apply Fin.ext;rw [HG];show 1^n%PP=1;rw [Nat.one_pow];decide
def Tg:(37:Fq)≠0:=by decide
def Hd {a:Fq} (h:a≠0):∀ n:Nat,a^n≠0
 | 0=>by rw [pw0];exact aIf
 | n+1=>λe=>by
  rw [Si,pw1] at e;rcases aAP e with h1 | h1
  ·exact Hd h n h1
  ·exact h h1
def VQ (n:Nat):(37:Fq)^(n%jK)=37^n:=by
 conv=>rhs;rw [←Mm n jK,Si,Li]
 rw [show jK=NN from rfl,WW Tg,Tf];exact (Fin.one_mul _).symm
def Ri (a:Fq):PW a.val=a:=Fin.ext (CL a.isLt)
def Lj {a:Fq} (h:a≠0):1≤a.val:=by
 rcases Mh a.val with e | e
 ·exact absurd (Fin.ext e) h
 ·exact e
def aDH (s:Nat) (b:List Nat):xT ((37:Fq)^s).val b (yW s b).val (GY s b)=true:=by
 have h1:=Lj (Hd Tg s);have h2:=Lj (Hd Tg (sG s b));have h3:=((37:Fq)^s).isLt;have h4:=((37:Fq)^sG s b).isLt;have hp:PP=2305843009213693951:=by decide
 have h5:GY s b<jK:=vF _ (by decide);have ho:jK=2305843009213693950:=rfl;have key:(37:Fq)^GY s b=yW s b*(37^s)^(GX (yW s b).val ((37:Fq)^s).val b).val:=by
  unfold GY;rw [VQ,Si,FL,VQ,Mq,Li];rfl
 unfold xT;rw [Ri,Ri];simp only [lN,decide_eq_true_eq];refine ⟨⟨⟨⟨h1,by omega⟩,by unfold yW;exact h2,by unfold yW;omega⟩,by omega⟩,key⟩
def Lk (n:Nat) (h:n<18446744073709551616):((37:Fq)^n).val=XQ PP 64 37 n 1%PP:=by
 rw [HG,Od PP 64 37 n 1 (by simpa using h),Hl];rfl
end
section
def Th (s:Nat) (b:List Nat):sG s b<18446744073709551616:=HU _ _
def o8 (d m:Nat):xN d m=⟨d,m,XQ PP 64 37 (vV U4 d) 1%PP,XQ PP 64 37 (vV U5 d) 1%PP,XQ PP 64 37 (vV sF d) 1%PP⟩:=by
 unfold xN;rw [Lk _ (iY _ _),Lk _ (iY _ _),Lk _ (iY _ _)]
def Ti:List CardM:=[xN 1 1,xN 2 2,xN 3 3,xN 4 1,xN 5 2,xN 6 3]
def lM:List CardM:=[⟨1,1,1858807316446646070,2294458496254976924,1058522930688824048⟩,⟨2,2,1810974450540283748,732551293757751401,86482453431610406⟩,⟨3,3,490180086995058983,1441871927598236410,1783630545573332436⟩,⟨4,1,1953319703317080786,881125215762738857,1828901513722737251⟩,⟨5,2,603255930034390424,1128020181934541352,1855458293155442097⟩,⟨6,3,681465322610182208,1458595129815633359,1877287273825605593⟩]
def XJ:Ti=lM:=by
 unfold Ti;simp only [o8];kernel_rfl
def sT (o:OpM):bR o={ o with SR:=XQ PP 64 37 (sG (vV sF o.By.toNat) o.B) 1%PP,SS:=(sG (vV sF o.By.toNat) o.B+FL (GX (XQ PP 64 37 (sG (vV sF o.By.toNat) o.B) 1%PP) (XQ PP 64 37 (vV sF o.By.toNat) 1%PP) o.B).val (vV sF o.By.toNat))%jK }:=by
 unfold bR GY yW;rw [Lk _ (Th _ _),Lk _ (iY _ _)]
def Tj (pub:Nat) (o:OpM) (h:pub=((37:Fq)^vV sF o.By.toNat).val):xT pub (bR o).B (bR o).SR (bR o).SS=true:=by
 subst h;have e1:(bR o).SR=(yW (vV sF o.By.toNat) o.B).val:=by simp only [bR]
 have e2:(bR o).SS=GY (vV sF o.By.toNat) o.B:=by simp only [bR]
 rw [Ww,e1,e2,aDH]
def He {g g':GM} {p o:OpM} {c:CardM} {up:List Nat} (ho:bR p=o) (hc:eK g.Cards o.By=(c,true)) (hs:c.Sign=((37:Fq)^vV sF p.By.toNat).val) (h1:fS o=0) (h2:aM g.I (Ao o)=-1) (h3:g.L.length<200)
  (h4:(o.Kind==1&&decide (0<g.L.length))=false) (h5:xF g o=(0,up)) (h6:(⟨g.Cards,g.L++[o],g.I++[Ao o],g.Up++[up],(g.In.map λr=>r++[false])++[lE g up++[false]]⟩:GM)=g'):addM g (bR p)=(g',0):=by
 have hsig:=Tj c.Sign p hs;rw [ho] at hsig ⊢;have hw:cX g o=(0,up):=by
  unfold cX Bl;rw [if_neg (by simp [h1]),h2,if_neg (by decide),if_neg (by omega),hc,if_neg (by simp),hsig,if_neg (by simp),h4,if_neg (by simp),h5]
 unfold addM;rw [hw,if_neg (by simp),←h6]
end
section
def Al:bN=lM:=(show bN=Ti from rfl).trans XJ
def Rj {g g':GM} {o p:OpM} {U:List Nat} (h1:Te g o U=p) (h2:addM g (bR p)=(g',0)):XS g o U=g':=by rw [XS,h1,h2]
def lG0:GM:=⟨lM,[],[],[],[]⟩
def VR:Id:=⟨1,1,1678659063197719793⟩
def XT:Id:=⟨1,2,1986754332845367016⟩
def lI3:Id:=⟨1,3,302905262156610722⟩
def lI4:Id:=⟨1,4,2151359658425387410⟩
def lI5:Id:=⟨1,5,1415757915243515795⟩
def o9:Id:=⟨2,1,217900310499724631⟩
def lP1:OpM:=⟨1,1,1,0,[],0,0,0,0,[],⟨0,0,0⟩,0,[],[],⟨0,0,0⟩,[],0,0,[],0,[],0,0⟩
def Ll:OpM:=⟨1,1,1,0,[],0,0,0,0,[],⟨0,0,0⟩,0,[],[],⟨0,0,0⟩,[],0,0,[],0,[],1957341969156249392,2198076407687076080⟩
def lG1:GM:=⟨lM,[Ll],[VR],[[]],[[false]]⟩
def lS1:bR lP1=Ll:=by
 rw [sT];kernel_rfl
def lA1:addM lG0 (bR lP1)=(lG1,0):=by
 refine He (c:=⟨1,1,1858807316446646070,2294458496254976924,1058522930688824048⟩) (up:=[]) lS1 (by kernel_rfl) ?_ (by kernel_rfl) (by kernel_rfl) (by decide) (by kernel_rfl) (by kernel_rfl) (by kernel_rfl);rw [show lP1.By.toNat=1 from rfl,Lk _ (iY _ _)];kernel_rfl
def lP2:OpM:=⟨1,2,2,0,[VR],2,0,0,3,[],⟨0,0,0⟩,0,[],[],⟨0,0,0⟩,[],0,0,[],0,[],0,0⟩
def PX:OpM:=⟨1,2,2,0,[VR],2,0,0,3,[],⟨0,0,0⟩,0,[],[],⟨0,0,0⟩,[],0,0,[],0,[],1100293863131382432,85999066257217048⟩
def lG2:GM:=⟨lM,[Ll,PX],[VR,XT],[[],[0]],[[false,false],[true,false]]⟩
def lS2:bR lP2=PX:=by
 rw [sT];kernel_rfl
def lA2:addM lG1 (bR lP2)=(lG2,0):=by
 refine He (c:=⟨1,1,1858807316446646070,2294458496254976924,1058522930688824048⟩) (up:=[0]) lS2 (by kernel_rfl) ?_ (by kernel_rfl) (by kernel_rfl) (by decide) (by kernel_rfl) (by kernel_rfl) (by kernel_rfl);rw [show lP2.By.toNat=1 from rfl,Lk _ (iY _ _)];kernel_rfl
def lB2:XS lG1 (Ed 1 0 2 2 3 0) [0]=lG2:=Rj (by kernel_rfl) lA2
def lP3:OpM:=⟨1,3,2,0,[XT],3,0,0,3,[],⟨0,0,0⟩,0,[],[],⟨0,0,0⟩,[],0,0,[],0,[],0,0⟩
def Tk:OpM:=⟨1,3,2,0,[XT],3,0,0,3,[],⟨0,0,0⟩,0,[],[],⟨0,0,0⟩,[],0,0,[],0,[],331454641707575666,880825274174778007⟩
def lG3:GM:=⟨lM,[Ll,PX,Tk],[VR,XT,lI3],[[],[0],[1]],[[false,false,false],[true,false,false],[true,true,false]]⟩
def lS3:bR lP3=Tk:=by
 rw [sT];kernel_rfl
def lA3:addM lG2 (bR lP3)=(lG3,0):=by
 refine He (c:=⟨1,1,1858807316446646070,2294458496254976924,1058522930688824048⟩) (up:=[1]) lS3 (by kernel_rfl) ?_ (by kernel_rfl) (by kernel_rfl) (by decide) (by kernel_rfl) (by kernel_rfl) (by kernel_rfl);rw [show lP3.By.toNat=1 from rfl,Lk _ (iY _ _)];kernel_rfl
def lB3:XS lG2 (Ed 1 0 2 3 3 0) [1]=lG3:=Rj (by kernel_rfl) lA3
def lP4:OpM:=⟨1,4,2,0,[lI3],4,0,0,3,[],⟨0,0,0⟩,0,[],[],⟨0,0,0⟩,[],0,0,[],0,[],0,0⟩
def XU:OpM:=⟨1,4,2,0,[lI3],4,0,0,3,[],⟨0,0,0⟩,0,[],[],⟨0,0,0⟩,[],0,0,[],0,[],1985449911018515417,1095755653441449969⟩
def lG4:GM:=⟨lM,[Ll,PX,Tk,XU],[VR,XT,lI3,lI4],[[],[0],[1],[2]],[[false,false,false,false],[true,false,false,false],[true,true,false,false],[true,true,true,false]]⟩
def lS4:bR lP4=XU:=by
 rw [sT];kernel_rfl
def lA4:addM lG3 (bR lP4)=(lG4,0):=by
 refine He (c:=⟨1,1,1858807316446646070,2294458496254976924,1058522930688824048⟩) (up:=[2]) lS4 (by kernel_rfl) ?_ (by kernel_rfl) (by kernel_rfl) (by decide) (by kernel_rfl) (by kernel_rfl) (by kernel_rfl);rw [show lP4.By.toNat=1 from rfl,Lk _ (iY _ _)];kernel_rfl
def lB4:XS lG3 (Ed 1 0 2 4 3 0) [2]=lG4:=Rj (by kernel_rfl) lA4
def lP5:OpM:=⟨1,5,3,0,[lI4],2,0,0,0,[],⟨0,0,0⟩,0,[],[],⟨0,0,0⟩,[],0,0,[],0,[],0,0⟩
def lO5:OpM:=⟨1,5,3,0,[lI4],2,0,0,0,[],⟨0,0,0⟩,0,[],[],⟨0,0,0⟩,[],0,0,[],0,[],1016970253116322207,1455940877492789305⟩
def VS:GM:=⟨lM,[Ll,PX,Tk,XU,lO5],[VR,XT,lI3,lI4,lI5],[[],[0],[1],[2],[3]],[[false,false,false,false,false],[true,false,false,false,false],[true,true,false,false,false],[true,true,true,false,false],[true,true,true,true,false]]⟩
def lS5:bR lP5=lO5:=by
 rw [sT];kernel_rfl
def lA5:addM lG4 (bR lP5)=(VS,0):=by
 refine He (c:=⟨1,1,1858807316446646070,2294458496254976924,1058522930688824048⟩) (up:=[3]) lS5 (by kernel_rfl) ?_ (by kernel_rfl) (by kernel_rfl) (by decide) (by kernel_rfl) (by kernel_rfl) (by kernel_rfl);rw [show lP5.By.toNat=1 from rfl,Lk _ (iY _ _)];kernel_rfl
def lB5:XS lG4 (Ed 1 0 3 2 0 0) [3]=VS:=Rj (by kernel_rfl) lA5
def lP6:OpM:=⟨2,1,3,0,[lI4],1,0,0,0,[],⟨0,0,0⟩,0,[],[],⟨0,0,0⟩,[],0,0,[],0,[],0,0⟩
def lO6:OpM:=⟨2,1,3,0,[lI4],1,0,0,0,[],⟨0,0,0⟩,0,[],[],⟨0,0,0⟩,[],0,0,[],0,[],119229842462975473,345172639488305421⟩
def Am:GM:=⟨lM,[Ll,PX,Tk,XU,lO5,lO6],[VR,XT,lI3,lI4,lI5,o9],[[],[0],[1],[2],[3],[3]],[[false,false,false,false,false,false],[true,false,false,false,false,false],[true,true,false,false,false,false],[true,true,true,false,false,false],[true,true,true,true,false,false],[true,true,true,true,false,false]]⟩
def lS6:bR lP6=lO6:=by
 rw [sT];kernel_rfl
def lA6:addM VS (bR lP6)=(Am,0):=by
 refine He (c:=⟨2,2,1810974450540283748,732551293757751401,86482453431610406⟩) (up:=[3]) lS6 (by kernel_rfl) ?_ (by kernel_rfl) (by kernel_rfl) (by decide) (by kernel_rfl) (by kernel_rfl) (by kernel_rfl);rw [show lP6.By.toNat=2 from rfl,Lk _ (iY _ _)];kernel_rfl
def lB6:XS VS (Ed 2 0 3 1 0 0) [3]=Am:=Rj (by kernel_rfl) lA6
def Dw {b k d rl:Int} (h1:kZ b) (h3:kZ k) (h4:kZ d) (h5:kZ rl):(Ed b 0 k d rl 0).ok:=FT h1 ⟨by decide,by decide⟩ h3 h4 h5 ⟨by decide,by decide⟩
def lR1:Reach bN lG1:=by
 have h:=xP (FT (b:=1) (sq:=1) (k:=1) (d:=0) (rl:=0) (nd:=0) ⟨by decide,by decide⟩ ⟨by decide,by decide⟩ ⟨by decide,by decide⟩ ⟨by decide,by decide⟩ ⟨by decide,by decide⟩ ⟨by decide,by decide⟩);have r:Reach bN (addM ⟨bN,[],[],[],[]⟩ (bR (Ed 1 1 1 0 0 0))).1:=Reach.new.add h (TC h);rw [Al] at r ⊢;rw [show Ed 1 1 1 0 0 0=lP1 from rfl,show (⟨lM,[],[],[],[]⟩:GM)=lG0 from rfl,lA1] at r;exact r
def lR2:Reach bN lG2:=lB2 ▸ DR lR1 lR1.hyp6.1 (Dw ⟨by decide,by decide⟩ ⟨by decide,by decide⟩ ⟨by decide,by decide⟩ ⟨by decide,by decide⟩) _ (Dv lR1 _)
def lR3:Reach bN lG3:=lB3 ▸ DR lR2 lR2.hyp6.1 (Dw ⟨by decide,by decide⟩ ⟨by decide,by decide⟩ ⟨by decide,by decide⟩ ⟨by decide,by decide⟩) _ (Dv lR2 _)
def lR4:Reach bN lG4:=lB4 ▸ DR lR3 lR3.hyp6.1 (Dw ⟨by decide,by decide⟩ ⟨by decide,by decide⟩ ⟨by decide,by decide⟩ ⟨by decide,by decide⟩) _ (Dv lR3 _)
def lR5:Reach bN VS:=lB5 ▸ DR lR4 lR4.hyp6.1 (Dw ⟨by decide,by decide⟩ ⟨by decide,by decide⟩ ⟨by decide,by decide⟩ ⟨by decide,by decide⟩) _ (Dv lR4 _)
def lR6:Reach bN Am:=lB6 ▸ DR lR5 lR5.hyp6.1 (Dw ⟨by decide,by decide⟩ ⟨by decide,by decide⟩ ⟨by decide,by decide⟩ ⟨by decide,by decide⟩) _ (Dv lR5 _)
end
section
def lGi:Nat→GM
 | 0=>lG1
 | 1=>lG2
 | 2=>lG3
 | _=>lG4
def lRi (i:Nat):Reach bN (lGi i):=by
 unfold lGi;split
 ·exact lR1
 ·exact lR2
 ·exact lR3
 ·exact lR4
def lBi (i:Nat) (hi:i<3):XS (lGi i) (Ed 1 0 2 ((i+2:Nat):Int) 3 0) [i]=lGi (i+1):=by
 rcases (show i=0∨i=1∨i=2 by omega) with rfl | rfl | rfl
 ·exact lB2
 ·exact lB3
 ·exact lB4
def lIi (i:Nat) (hi:i<3):i<(lGi i).I.length:=by
 rcases (show i=0∨i=1∨i=2 by omega) with rfl | rfl | rfl<;>decide
def okL {n:Int} (h:0≤n∧n≤1000):kZ n:=⟨by omega,by omega⟩
section
variable {G:Nat→Option (List AV)}
set_option maxHeartbeats 4000000
def aA0 {g g':GM} (hr:Reach bN g) {b k d rl:Int} (hb:0≤b∧b≤1000) (hk:0≤k∧k≤1000) (hd:0≤d∧d≤1000) (hl:0≤rl∧rl≤1000) (u:Nat) (hu:u<g.I.length) (he:XS g (Ed b 0 k d rl 0) [u]=g') :
  aC PQ G nV [.ag g.A,.ag (eE (Ed b 0 k d rl 0) cI cI cI cI cI),.ls 1 [[iv u]]] [] λr T=>r=.ag g'.A∧T=[]:=by
 obtain ⟨hg,_,hs,_⟩:=hr.hyp6;have h:=o7 (G:=G) g hg hs _ (Dw (okL hb) (okL hk) (okL hd) (okL hl)) hb.1 [u] (by simpa using hu) (by simp) (Dv hr _);rw [he] at h;exact h
def aDJ:aC PQ G Ew [] [] λr T=>r=.ag lG4.A∧T=[]:=by
 refine aD MX (by decide) ?_;have hsg:=LO (G:=G) (Ed 1 1 1 0 0 0) (FT ⟨by decide,by decide⟩ ⟨by decide,by decide⟩ ⟨by decide,by decide⟩ ⟨by decide,by decide⟩ ⟨by decide,by decide⟩ ⟨by decide,by decide⟩) (by decide);have hsg2:aC PQ G gJ [.ag (eE (Ed 1 1 1 0 0 0) cI cI cI cI cI)] [] λr T=>r=.ag Ll.A∧T=[]:=by
  rw [←lS1];exact aC.asub hsg (by simp only [mB];rfl)
 have hA:aC PQ G jQ [.ag lG0.A,.ag Ll.A] [] λr T=>r=.tup [.ag lG1.A,iv 0]∧T=[]:=by
  have hr:Reach bN lG0:=by rw [lG0,←Al];exact Reach.new
  have h:=O9 (G:=G) lG0 (bR lP1) hr.hyp6.1 (xP (FT (b:=1) (sq:=1) (k:=1) (d:=0) (rl:=0) (nd:=0) ⟨by decide,by decide⟩ ⟨by decide,by decide⟩ ⟨by decide,by decide⟩ ⟨by decide,by decide⟩ ⟨by decide,by decide⟩ ⟨by decide,by decide⟩));rw [lA1,lS1] at h;exact h
 simp only [go_sem];refine aB (aA _) rfl Rf rfl ?_;simp only [go_sem];refine aB (aA _) rfl Rg rfl ?_;simp only [go_sem];refine aB (aA _) rfl VO rfl ?_;simp only [go_sem];rw [Al,show (⟨lM,[],[],[],[]⟩:GM)=lG0 from rfl];refine aB (aA _) rfl hsg2 rfl ?_;simp only [go_sem];refine aB (aA _) rfl hA rfl ?_;simp only [go_sem];refine aJ 3 (λi=>⟨0,[(0,.ptr 0 0),(1,.ptr 1 0),(2,iv (i+2:Nat))],[some (.box z5),some (.box (lGi i).A)]⟩) (λ_=>True) ?_ trivial ?_ ?_
 ·simp only [go_sem,z5];rfl
 ·intro i hi _;have c5:decide (((i+2:Nat):Int)<5)=true:=decide_eq_true (by omega);have w2:IntKind.i64.wrap (((i+2:Nat):Int)-2)=(i:Int):=by rw [bF (by omega) (by omega)];omega
  have w1:IntKind.i64.wrap (((i+2:Nat):Int)+1)=((i+1+2:Nat):Int):=by rw [bF (by omega) (by omega)];omega
  have hb:=aA0 (G:=G) (lRi i) (b:=1) (k:=2) (d:=((i+2:Nat):Int)) (rl:=3) (by decide) (by decide) (by omega) (by decide) i (lIi i hi) (lBi i hi);generalize lGi (i+1)=g2 at *
  generalize lGi i=g1 at *
  generalize ((i+2:Nat):Int)=d at *
  simp only [go_sem,z5,c5,w2];refine Ox [2] [0] (aA _) (args3:=[.ag g1.A,.ag (eE (Ed 1 0 2 d 3 0) cI cI cI cI cI),.ls 1 [[iv i]]]) (by decide) (by simp) rfl rfl (by simp only [go_sem];rfl) rfl (by simp only [go_sem]) hb (by simp only [go_sem]) ?_;simp only [go_sem,z5,w1,show g1.A.drop 5=[] from rfl]
 ·intro _;simp only [go_sem,z5];rfl
def Nt (hK:GK G) {g:GM} (hr:Reach bN g):aC PQ G tJ [.ag g.A,uK ((List.range g.L.length).map λ(i:Nat)=>(i:Int))] [] λr T=>r=.ptr 0 0∧T=TG 0 (Aj bN g.L):=by
 have gd:=hr.good oF;have hcs:=gd.cards;have e:∀ i,i≤g.L.length→Hc g ((List.range g.L.length).take i)=g.L.take i:=by
  intro i hi;refine Pm (by simp [Hc]) λk h1 h2=>?_;simp only [Hc,Eg,List.getElem_take,List.getElem_range];have:k<g.L.length:=by simp at h2;omega
  rw [uW,nQ this];rfl
 have e2:=e g.L.length (cT _);rw [xR (by simp),lP] at e2
 have h:=aBz (G:=G) hK g gd.ok (by rw [hcs];exact oF) gd.ids (List.range g.L.length) (λi hi=>sH.1 hi) (by rw [Mi];have:=gd.n;omega) (λi hi=>by
  rw [Mi] at hi;rw [e i (by omega),hcs,List.getElem_range,uW,nQ hi]
  exact gd.all i hi)
 rw [e2,hcs] at h;exact h
structure LivesP (G:Nat→Option (List AV)):Prop where
 counts:aC PQ G pB [.ptr 0 0,ids Am.I] (TG 0 (Aj bN Am.L)) λr T=>r=ids VS.I∧T=TG 0 (Aj bN Am.L)
 why:aC PQ G wQ [.ptr 0 0,ids Am.I,.ag o9.A] (TG 0 (Aj bN Am.L)) λr T=>r=iv 15∧T=TG 0 (Aj bN Am.L)
def XK (hK:GK G) (hP:LivesP G):aC PQ G Ch [] [] λr T=>r=.v (.bool true)∧T=[]:=by
 have h5:=aA0 (G:=G) lR4 (b:=1) (k:=3) (d:=2) (rl:=0) (by decide) (by decide) (by decide) (by decide) 3 (by decide) lB5;have h6:=aA0 (G:=G) lR5 (b:=2) (k:=3) (d:=1) (rl:=0) (by decide) (by decide) (by decide) (by decide) 3 (by decide) lB6;refine aD LZ (by decide) ?_;simp only [go_sem];refine aB (aA _) rfl aDJ rfl ?_;simp only [go_sem];refine Ox [1] [0] (aA _) (args3:=[.ag lG4.A,.ag (eE (Ed 1 0 3 2 0 0) cI cI cI cI cI),.ls 1 [[iv 3]]]) (by decide) (by simp) rfl rfl (by simp only [go_sem];rfl) rfl (by simp only [go_sem]) h5 (by simp only [go_sem]) ?_;simp only [go_sem,show lG4.A.drop 5=[] from rfl];refine Ox [2] [0] (aA _) (args3:=[.ag VS.A,.ag (eE (Ed 2 0 3 1 0 0) cI cI cI cI cI),.ls 1 [[iv 3]]]) (by decide) (by simp) rfl rfl (by simp only [go_sem];rfl) rfl (by simp only [go_sem]) h6 (by simp only [go_sem]) ?_;simp only [go_sem,show VS.A.drop 5=[] from rfl];refine aB (aA _) rfl (Rh Am lR6.hyp6.1) rfl ?_;simp only [go_sem];refine aQ (aA _) rfl (Nt hK lR6) ?_;simp only [go_sem,TG,MG];have e6:Am.I.length=6:=rfl;simp only [go_sem,aL,e6];obtain ⟨hC,hW⟩:=hP;have hk4:=λ(p:Nat×Nat×Nat) (T:aH) (h:GAt T p (Aj bN Am.L)) (x y:Id)=>VJ (G:=G) h (lR6.ggood oF Gf).ok x y;have hkk:=lR6.kill oF lI5 o9;rw [show H4 Am lI5 o9=true by kernel_rfl] at hkk;have hk5:aC PQ G gH [.ptr 0 0,.ag lI5.A,.ag o9.A] (TG 0 (Aj bN Am.L)) λr T=>r=.v (.bool true)∧T=TG 0 (Aj bN Am.L):=by
  have h:=hk4 (0,1,2) (TG 0 (Aj bN Am.L)) ⟨rfl,rfl,rfl,by decide,by decide,by decide⟩ lI5 o9;rw [hkk] at h;exact h
 clear hkk hk4;generalize Aj bN Am.L=p at *
 have g4:(Am.I.map Id.A)[4]?=some lI5.A:=rfl;have g5:(Am.I.map Id.A)[5]?=some o9.A:=rfl;have t5:(Am.I.map Id.A).take 5=VS.I.map Id.A:=rfl;refine aG (T2:=TG 0 p) [3,4,5] (aA _) (by decide) (by simp) rfl (by simp only [go_sem,TG,MG]) hC ?_;rintro r T' ⟨rfl,rfl⟩;simp only [go_sem,TG,MG,e6,aL,t5];refine aB (aA _) rfl (MJ VS.I VS.I (by decide)) rfl ?_;simp only [go_sem,TG,MG,e6,aL,decide_true,g4,g5];refine aG (T2:=TG 0 p) [3,4,5] (aA _) (by decide) (by simp) rfl (by simp only [go_sem,TG,MG]) hk5 ?_;rintro r T' ⟨rfl,rfl⟩;simp only [go_sem,TG,MG,e6,aL,g4,g5];refine aG (T2:=TG 0 p) [3,4,5] (aA _) (by decide) (by simp) rfl (by simp only [go_sem,TG,MG]) hW ?_;rintro r T' ⟨rfl,rfl⟩;simp only [go_sem,TG,MG,e6,aL,g4,g5]
end
end
section
def aFA (V:List Id) (bs:List Nat) (cl:Nat):AObj:=.map true (V.map Id.K) (V.map λ_=>.v (.bool true)) bs cl
structure LAt (T:aH) (l v f:Nat) (p:Nat×Nat×Nat) (row V F:List Id):Prop where
 box:T[l]?=some (some (.box [.ptr p.1 0,ids row,.mp v,.mp f]))
 vo:∃ bs cl,T[v]?=some (some (aFA V bs cl))∧Bs V.length bs cl
 fo:∃ bs cl,T[f]?=some (some (aFA F bs cl))∧Bs F.length bs cl
 ne:l≠v∧l≠f∧v≠f∧v≠p.1∧v≠p.2.1∧v≠p.2.2
section
variable {G:Nat→Option (List AV)} {T:aH} {p:Nat×Nat×Nat} {g:PGM} {l v f:Nat} {row V F:List Id}
def LAt.app {X:aH} (h:LAt T l v f p row V F):LAt (T++X) l v f p row V F :=
 ⟨eI h.box,let ⟨b,c,x,y⟩:=h.vo;⟨b,c,eI x,y⟩,let ⟨b,c,x,y⟩:=h.fo;⟨b,c,eI x,y⟩,h.ne⟩
set_option maxHeartbeats 4000000
end
end
section
def byO (o:OpM):Option Int:=if o.Kind==1 then some o.By else if o.Kind==2||o.Kind==13 then some o.Device else none
def jH (g:PGM) (out:List Int) (x:Id):List Int:=match byO (g.nd x).o with | some d=>if d∈out then out else out++[d] | none=>out
def Rk {g:PGM} {out:List Int} {x:Id}:(jH g out x).length≤out.length+1:=by
 unfold jH;split
 ·split
  ·omega
  ·simp
 ·omega
def VT {g:PGM}:∀ (l:List Id) (out:List Int),(l.foldl (jH g) out).length≤out.length+l.length
 | [],_=>by simp
 | x::l,out=>by
  have:=VT (g:=g) l (jH g out x);have h:=Rk (g:=g) (out:=out) (x:=x);rw [Gm,wJ];omega
def aA1 (T X:aH) (out:List Int):Prop:=∃ k,X[0]?=some (some (.box [.own (T.length+k)]))∧X[k]?=some (some (.arr 1 (out.map λn=>[iv n])))∧k≠0∧k≠2∧k≠4
section
variable {G:Nat→Option (List AV)} {T:aH} {p:Nat×Nat×Nat} {g:PGM}
set_option maxHeartbeats 8000000
def aDK (h:GAt T p g) (hg:g.ok) (l o:List Id) (hO:aC PQ G iI [.ptr 0 0,ids l] (TG 0 g) λr T'=>r=ids o∧T'=TG 0 g) (bO:∀ x∈o,x∈g.I) (hol:o.length≤1000):aC PQ G nB [.ptr p.1 0,ids l] T λr T'=>r=uK (o.foldl (jH g) [])∧T'=T:=by
 have hO2:∀ X:aH,aC PQ G iI [.ptr p.1 0,ids l] (T++X) λr T'=>r=ids o∧T'=T++X:=λX=>(h.app (X:=X)).lift (by simp only [uF,AF,gL0 (h.app (X:=X)),ids]) rfl hO;refine (aC.keepLs (q:=λk es=>k=1∧es=((o.foldl (jH g) [])).map λn=>[iv n]) (I5 GP ?_)).mono ?_;rotate_left
 ·rintro r T' ⟨⟨k,es,⟨rfl,rfl⟩,rfl⟩,rfl⟩;exact ⟨rfl,rfl⟩
 simp only [go_sem,bS,rT,jI,fX,gW];refine jU (post:=λy T'=>y=.cl zQ [.ptr (T.length+2) 0,.ptr (T.length+3) 0]∧T'=T++[some (.box [.own (T.length+1)]),some (.arr 1 []),some (.box [.ptr p.1 0]),some (.box [ids l])]) (aA _) (I5 K5 ?_) ?_
 ·simp only [go_sem,jI,fX,gW,gK,wJ,jJ]
 rintro y T' ⟨rfl,rfl⟩;simp only [go_sem,jI,fX,gW];refine M9 rfl (wC Aa) λr k1 k2 hy hyR=>?_;simp only [go_sem,jI,fX,gW];refine jU (post:=λ_ T'=>∃ X:aH,T'=T++X∧aA1 T X ((o.foldl (jH g) []))∧X[4]?=some (some (.lp r [(5,.ptr T.length 0)]))) (aA _) (I5 Aa ?_) ?_
 ·simp only [go_sem,nO,rU,sS,uV,B6,CJ,Lr,bS,rT,bY,uC,Id.A_def,jI,fX,gW,D0,Nat.reduceAdd];refine jU (aA _) (hO2 _) ?_;rintro y T' ⟨rfl,eT⟩;obtain rfl:=eT.symm;simp only [go_sem,ids,aL]
  refine aCN (λn st=>∃ i,i≤o.length∧n=o.length-i∧∃ X:aH,aA1 T X ((o.take i).foldl (jH g) [])∧X[2]?=some (some (.box [.ptr p.1 0]))∧X[4]?=some (some (.lp r [(5,.ptr T.length 0)])) ∧
   st=⟨T.length+5,[(13,iv i),(12,iv o.length),(11,ids o),(0,.yl (T.length+4)),(1,.ptr (T.length+2) 0)],T++X⟩) o.length ⟨0,B8 _,rfl,_,⟨1,rfl,rfl,by decide⟩,rfl,rfl,rfl⟩ ?_
  rintro n st ⟨i,hi,hni,X,⟨k,x0,xk,hk0,hk2,hk4⟩,x2,x4,rfl⟩;rcases gM i o.length with hlt | hge;rotate_left
  ·obtain rfl:i=o.length:=by omega
   rw [lP] at xk;simp only [go_sem,aX (cN _)];exact ⟨X,rfl,⟨k,x0,xk,hk0,hk2,hk4⟩,x4⟩
  have ws:=aF (show i<9223372036854775807 by omega);have hin:=bO _ (iN hlt);have g0:(o.map Id.A)[i]?=some o[i].A:=aI _ o i hlt;have ft:(o.take (i+1)).foldl (jH g) []=jH g ((o.take i).foldl (jH g) []) o[i]:=by
   rw [oV hlt,Pk];rfl
  have hol2:((o.take i).foldl (jH g) []).length≤1000:=by
   have:=VT (g:=g) (o.take i) [];rw [kM] at this;simp only [jJ] at this;omega
  generalize (o.take i).foldl (jH g) []=out at *
  have hop1:=λX=>aBv (G:=G) (h.app (X:=X)) hg o[i] hin;simp only [Id.A_def] at hop1;generalize hz:o[i]=z at *
  have l4:=oT x4;have y0:=λY:aH=>eI (X:=Y) x0;have y2:=λY:aH=>eI (X:=Y) x2;have y4:=λY:aH=>eI (X:=Y) x4;have yk:=λY:aH=>eI (X:=Y) xk;simp only [go_sem,aL,bG hlt,hlt,g0,hz,ids,nO,rU,sS,uV,B6,CJ,Lr,bS,rT,bY,uC,Id.A_def,jI,fX,gW,D0,Nat.reduceAdd,x2,y2];refine jU (aA _) (hop1 _) ?_;rintro y T' ⟨rfl,eT⟩;obtain rfl:=eT.symm;simp only [go_sem,nO,rU,sS,uV,B6,CJ,Lr,bS,rT,bY,uC,Id.A_def,jI,fX,gW,D0,Nat.reduceAdd];have hby:byO (g.nd z).o=if (g.nd z).o.Kind==1 then some (g.nd z).o.By else if (g.nd z).o.Kind==2||(g.nd z).o.Kind==13 then some (g.nd z).o.Device else none:=rfl
  generalize he:(g.nd z).o=q at *
  let stp:Int→List Int:=λd=>if d∈out then out else out++[d]
  have hyld:∀ (W:aH) (d:Int) (K:AV→aH→Prop),(∀ X':aH,aA1 T X' (stp d)→X'[2]?=some (some (.box [.ptr p.1 0]))→X'[4]?=some (some (.lp r [(5,.ptr T.length 0)]))→K (.v (.bool true)) (T++X')) →
    @WI PQ G (T.length+4) [.ag [iv z.a,iv z.b,.v (.int .u64 z.c)],iv d] (T++(X++W)) ⟨K⟩:=by
   intro W d K hK;refine hyR _ _ _ _ _ (Ge (by rw [nO];exact y4 _)) rfl ?_;have w0:∀ Y:aH,((X++W).set 4 none++Y)[0]?=some (some (.box [.own (T.length+k)])):=λY=>eI (by rw [nP (by decide)];exact y0 _);have w2:∀ Y:aH,((X++W).set 4 none++Y)[2]?=some (some (.box [.ptr p.1 0])):=λY=>eI (by rw [nP (by decide)];exact y2 _);have wk:∀ Y:aH,((X++W).set 4 none++Y)[k]?=some (some (.arr 1 (out.map λn=>[iv n]))):=λY=>eI (by rw [nP (Ne.symm hk4)];exact yk _);have w4:∀ Y:aH,((X++W).set 4 none++Y)[4]?=some none:=λY=>eI (PK (y4 W));have hw0:=w0 [];have hw4:=w4 [];have hw2:=w2 [];have hwk:=wk [];rw [nR] at hw0 hw4 hw2 hwk;simp only [go_sem,nO,rU,sS,uV];generalize (X++W).set 4 none=Z at *
   simp only [go_sem,nO,rU,sS,uV,hw0,hw4];have hl2:AJ (T++Z) [.own (T.length+k),iv d]=[uK out,iv d]:=by
    simp only [AJ,qY,Ge (show (T++Z)[T.length+k]?=_ by rw [nO];exact hwk)]
   refine rB (aA _) hl2 rfl (Z1 out d (by omega)) ?_;have hZl:=oT hw4;by_cases hd:d∈out
   ·have hs:stp d=out:=by simp only [stp,hd,if_true]
    rw [hs] at hK;simp only [go_sem,hd,decide_true,nO,rU,sS,uV];refine hK _ ⟨k,?_,?_,hk0,hk2,hk4⟩ ?_ ?_
    ·rw [nP (by decide)];exact hw0
    ·rw [nP (Ne.symm hk4)];exact hwk
    ·rw [nP (by decide)];exact hw2
    ·exact PK hw4
   ·have hs:stp d=out++[d]:=by simp only [stp,hd,if_false]
    rw [hs] at hK;have ol:out.length+1≤maxLen∧(out.length+1)*8≤140737488355328:=by
     unfold maxLen;omega
    have hkl:=oT hwk;have w02:=λW:aH=>(nP (T:=Z++W) (o:=none) hk0).trans (w0 W);have w03:=λW W':aH=>eI (X:=W') (w02 W);simp only [go_sem,hd,decide_false,nO,rU,sS,uV,hw0,hwk,w03,wk,ol.1,ol.2,aL,jI,D0,bS];refine hK _ ⟨Z.length+1,?_,?_,by omega,by omega,by omega⟩ ?_ ?_
    ·rw [nP (by decide),PK (w03 _ _)]
    ·rw [nP (by omega),nP (by omega),Tr (by simp)];simp
    ·rw [nP (by decide),nP (by decide)];refine eI ?_;rw [nP hk2];exact w2 _
    ·refine PK (o':=none) ?_;rw [nP (by decide)];refine eI ?_;rw [nP hk4];exact w4 _
  have vT:∀ d,byO q=some d→jH g out z=stp d:=λd hd=>by simp only [jH,he,hd,stp]
  have hsn:byO q=none→jH g out z=out:=λhd=>by simp only [jH,he,hd]
  rcases hq1:q.Kind==1 with _ | _
  ·simp only [go_sem,hq1,nO,rU,sS,uV,B6,CJ,Lr,bS,rT,bY,uC,Id.A_def,jI,fX,gW,D0,Nat.reduceAdd];rcases hq2:q.Kind==2 with _ | _
   ·rcases hq3:q.Kind==13 with _ | _
    ·simp only [go_sem,hq1,hq2,hq3,nO,rU,sS,uV,B6,CJ,Lr,bS,rT,bY,uC,Id.A_def,jI,fX,gW,D0,Nat.reduceAdd];rw [ws];refine ⟨_,(by omega:o.length-(i+1)<n),i+1,by omega,rfl,_,?_,y2 _,y4 _,rfl⟩;rw [ft,hsn (by rw [hby,hq1,hq2,hq3];rfl)];exact ⟨k,y0 _,yk _,hk0,hk2,hk4⟩
    ·simp only [go_sem,hq1,hq2,hq3,nO,rU,sS,uV,B6,CJ,Lr,bS,rT,bY,uC,Id.A_def,jI,fX,gW,D0,Nat.reduceAdd];refine hyld _ _ _ λX' a0 a2 a4=>?_;simp only [go_sem];rw [ws];exact ⟨_,(by omega:o.length-(i+1)<n),i+1,by omega,rfl,_,by rw [ft,vT _ (by rw [hby,hq1,hq2,hq3];rfl)];exact a0,a2,a4,rfl⟩
   ·simp only [go_sem,hq1,hq2,nO,rU,sS,uV,B6,CJ,Lr,bS,rT,bY,uC,Id.A_def,jI,fX,gW,D0,Nat.reduceAdd];refine hyld _ _ _ λX' a0 a2 a4=>?_;simp only [go_sem];rw [ws];exact ⟨_,(by omega:o.length-(i+1)<n),i+1,by omega,rfl,_,by rw [ft,vT _ (by rw [hby,hq1,hq2];rfl)];exact a0,a2,a4,rfl⟩
  ·simp only [go_sem,hq1,nO,rU,sS,uV,B6,CJ,Lr,bS,rT,bY,uC,Id.A_def,jI,fX,gW,D0,Nat.reduceAdd];refine hyld _ _ _ λX' a0 a2 a4=>?_;simp only [go_sem];rw [ws];exact ⟨_,(by omega:o.length-(i+1)<n),i+1,by omega,rfl,_,by rw [ft,vT _ (by rw [hby,hq1];rfl)];exact a0,a2,a4,rfl⟩
 ·rintro y T' ⟨X,rfl,⟨k,x0,xk,hk0,hk2,hk4⟩,x4⟩;have l3:=oT x4;have z0:(X.set 4 none)[0]?=some (some (.box [.own (T.length+k)])):=by rw [nP (by decide)];exact x0
  simp only [go_sem,nO,rU,sS,x4,k1,k2,aCO,z0];exact ⟨fW,_,1,_,rfl,by omega,by rw [nO,nP (Ne.symm hk4)];exact xk,rfl,rfl⟩
end
end
end Hud
section
namespace Hud
open Go Go.Proofs Go.Sort Go.Shelf Go.RowKit Go.Lib
abbrev zId:List Value:=[.int .i64 0,.int .i64 0,.int .u64 0]
def VU:(Tryz.prog.info? 25).map (λi=>(i.zero,i.size,i.bytes))=some (some (.agg #[.int .i64 0,.int .i64 0,.int .u64 0]),3,24):=by kernel_rfl
def aA2:Tryz.prog.underlying 28=some (.slice 25):=by kernel_rfl
def aDM (w:World) (ty:TypeId) (b o c:Nat) (hc:∀ j,j<3→(w.cell? ⟨b,o+j,none⟩).isSome=true) (hf:∀ j,j<3→w.frozen? ⟨b,o+j,none⟩=false) :
  (Builtin.clear_ #[28] ty #[.slice (some ⟨b,o,none⟩) 1 c]).run Tryz.prog w=.ok (.tuple #[]) (w.setCells b o zId):=by
 obtain ⟨i0,hi0,hz0,hz1,hz2⟩:=info_parts VU;have vT:=run_storeCells_cells (P:=Tryz.prog) b o zId 0 w (by simpa using hc) (by simpa using hf) (by intro v hv;simp only [zId,jB,qS,or_false] at hv;rcases hv with rfl | rfl | rfl<;>rfl);simp only [wK] at vT;have hzc:(Builtin.zeroCells #[Value.int .i64 0,.int .i64 0,.int .u64 0] 1).toList=zId:=by simp [Builtin.zeroCells,zId];rfl
 simp [Builtin.clear_,run_underlying aA2,zeroValue,typeInfo,hi0,hz0,Value.cells,hzc,vT]
set_option maxHeartbeats 4000000 in
set_option maxRecDepth 1000000 in
def aA3 (F:Array Value) (iE cap n i:Nat) (w:World) (hF:F.size=n*3) (hone:∀ v∈F.toList,v.oneCell'=true) (hH:Holds id w iE 0 F) (hcap:n≤cap) (hm:cap≤9223372036854775807) (hi:i<n) :
  Calls Tryz.prog 127 #[.slice (some ⟨iE,0,none⟩) n cap,.int .i64 i,.int .i64 (i+1:Nat)] w λe w'=>e=.returned (.slice (some ⟨iE,0,none⟩) (n-1) cap)∧w'=(w.drew.setCells iE (i*3) (F.toList.drop ((i+1)*3))).setCells iE ((n-1)*3) zId:=by
 obtain ⟨i0,hi0,hz0,hz1,hz2⟩:=info_parts VU;obtain ⟨news,hnews⟩:∃ news,news=F.toList.drop ((i+1)*3):=⟨_,rfl⟩
 have hlen:news.length=(n-(i+1))*3:=by rw [hnews,xS,Dx,hF];omega
 obtain ⟨A,hA,hsrc⟩:∃ A:Addr,(if cap=i+1 then some (⟨iE,0,none⟩:Addr) else some ⟨iE,(i+1)*3,none⟩)=some A∧Hid (∀ t u,news[t]?=some u→w.drew.cell? (A.add t)=some u):=by
  by_cases h:cap=i+1
  ·refine ⟨⟨iE,0,none⟩,by simp [h],λt u hu=>?_⟩;have h0:news.length=0:=by rw [hlen];omega
   rw [List.length_eq_zero_iff.1 h0] at hu;simp at hu
  ·refine ⟨⟨iE,(i+1)*3,none⟩,by simp [h],λt u hu=>?_⟩;have ht:t<news.length:=(vE.1 hu).1;rw [hnews,FV,Array.getElem?_toList] at hu;have hx:(i+1)*3+t<F.size:=by omega
   rw [Addr.add_lit];have h9:=(hH ((i+1)*3+t) hx).1;rw [qT] at h9;rw [Nw hx] at hu;simp only [Option.some.injEq] at hu;subst hu;refine (show w.drew.cell? _=w.cell? _ from rfl).trans (h9.trans ?_);rw [id,getElem!_pos F _ hx]
 have s1:Hid (news.length=(n-(i+1))*3):=hlen;have s2:Hid (∀ u∈news,u.oneCell'=true):=λu hu=>hone u (by rw [hnews] at hu;exact Me hu);have s3:Hid (∀ t,t<news.length→(w.drew.cell? ⟨iE,0+i*3+t,none⟩).isSome=true∧w.drew.frozen? ⟨iE,0+i*3+t,none⟩=false):=by
  intro t ht;have hx:i*3+t<F.size:=by omega
  have h9:=hH (i*3+t) hx;rw [qT] at h9 ⊢;exact ⟨by show (w.cell? _).isSome=true;rw [h9.1];rfl,h9.2⟩
 obtain ⟨W1,hW1⟩:∃ W1,W1=w.drew.setCells iE (i*3) news:=⟨_,rfl⟩
 have hcl:∀ ty,(Builtin.clear_ #[28] ty #[.slice (some ⟨iE,(i+(n-(i+1)))*3,none⟩) (n-(i+(n-(i+1)))) (cap-(i+(n-(i+1))))]).run Tryz.prog W1=.ok (.tuple #[]) (W1.setCells iE ((n-1)*3) zId):=λty=>by
  rw [show i+(n-(i+1))=n-1 by omega,show n-(n-1)=1 by omega];have hx:∀ j,j<3→(n-1)*3+j<F.size:=λj hj=>by omega
  have h9:=λj hj=>hH ((n-1)*3+j) (hx j hj);simp only [qT] at h9;refine aDM W1 ty iE _ _ (λj hj=>?_) λj hj=>?_
  ·rw [hW1];have hs:∀ t,t<news.length→(w.drew.cell? ⟨iE,i*3+t,none⟩).isSome=true:=λt ht=>by
    have h8:=(hH (i*3+t) (by omega)).1;rw [qT] at h8;show (w.cell? _).isSome=true;rw [h8];rfl
   by_cases hin:(n-1)*3+j<i*3+news.length
   ·have:=World.cell?_setCells_in iE news (i*3) w.drew hs ((n-1)*3+j-i*3) (by omega);rw [show i*3+((n-1)*3+j-i*3)=(n-1)*3+j by omega] at this;rw [this];rfl
   ·rw [World.cell?_setCells_out iE news (i*3) w.drew _ (λ_ _=>.inr (by show i*3+news.length≤(n-1)*3+j;omega))];show (w.cell? _).isSome=true;rw [(h9 j hj).1];rfl
  ·rw [hW1,World.frozen?_setCells];exact (h9 j hj).2
 have hW:Hid (W1=w.drew.setCells iE (0+i*3) news):=by rw [qT];exact hW1
 have hN:Hid (news=F.toList.drop ((i+1)*3)):=hnews;have hic:i≤cap:=by omega
 have hjc:i+1≤cap:=by omega
 have hjn:i+1≤n:=by omega
 have hne:¬i=i+1:=by omega
 have hp0:(0:Int)≤(i:Int)+1:=by omega
 have hp1:(i:Int)+1≤(n:Int):=by omega
 have hp2:((i:Int)+1).toNat=i+1:=by omega
 have mixed:Tryz.prog.follows Departure.mixedOrders=true:=by kernel_rfl
 clear hH hW1 hnews;go_enter Tryz.func127,Tryz.ntmps127;go_wp2_with fail;go_region_law_o (refine step_append_room rfl (.tmp 22) (.tmp 25) 28 rfl 25 i0 3 aA2 hi0 hz1 iE 0 i cap (by simp [Act.eval,Act.put]) A (n-(i+1)) (cap-(i+1)) news (by simp [Act.eval,Act.put]) s1.out hsrc.out s2.out (by omega) s3.out ?_;rw [←hW.out]);go_wp2;go_ret;have h1:=hW.out;rw [qT,hN.out] at h1;exact ⟨by rw [show i+(n-(i+1))=n-1 by omega];rfl,by rw [h1]⟩
section
variable {h:GH} {φ:Nat→Value} {w:World} {T:aH}
def PS:∀ (M:List Id),∀ v∈M.flatMap Id.K,v.oneCell'=true:=by
 intro M v hv;obtain ⟨x,_,hx⟩:=JT.1 hv;simp only [Id.K,jB,qS,or_false] at hx;rcases hx with rfl | rfl | rfl<;>rfl
def aBC (M:List Id):(M.flatMap Id.K).length=M.length*3:=JB (enc:=Id.K) (k:=3) (λ_=>rfl) M
def Rl (M:List Id):(M.map Id.A).flatten=(M.flatMap Id.K).map .v:=FB Id.K M
def aA4 (L:List Id):∀ d∈L.map Id.A,d.length=3∧∀ c∈d,aO c=true:=by
 intro d hd;obtain ⟨x,_,rfl⟩:=cZ.1 hd;refine ⟨rfl,λc hc=>?_⟩;simp only [Id.A,jB,qS,or_false] at hc;rcases hc with rfl | rfl | rfl<;>rfl
def VV (hI:Inv h φ w T) {k g c o:Nat} {L M:List Id} {cur:Array Value} {E:TypeId} (hk:T[k]?=some (some (.arr 3 (L.map Id.A)))) (hφ:φ k=.slice (some ⟨g,0,none⟩) L.length (c+1)) (hw:w.heap[g]?=some (.cells cur E (0,0))) (hL:L.length≤c+1) (hc:c+1≤maxLen) (hs:cur.size=(c+1)*3) (hg:h g=none)
  (hr:bQ h (L.map Id.A).flatten (cur.toList.take (L.length*3))) (ho:o+M.length≤L.length) :
  (Inv h φ (w.setCells g (o*3) (M.flatMap Id.K)) (T.set k (some (.arr 3 ((L.take o++M++L.drop (o+M.length)).map Id.A))))∧Evo h φ T w h φ (T.set k (some (.arr 3 ((L.take o++M++L.drop (o+M.length)).map Id.A)))) (w.setCells g (o*3) (M.flatMap Id.K))) ∧
   ∃ cur',(w.setCells g (o*3) (M.flatMap Id.K)).heap[g]?=some (.cells cur' E (0,0))∧cur'.size=(c+1)*3∧bQ h ((L.take o++M++L.drop (o+M.length)).map Id.A).flatten (cur'.toList.take ((L.take o++M++L.drop (o+M.length)).length*3)):=by
 have hm:=aBC M;have hle:o*3+(M.flatMap Id.K).length≤cur.size:=by rw [hm,hs];omega
 have r1:=run_storeCells_at Tryz.prog g (o*3) E (M.flatMap Id.K) 0 cur w hw (by simpa using hle) (PS M)
 have r2:=run_storeCells_cells (P:=Tryz.prog) g (o*3) (M.flatMap Id.K) 0 w (λj hj=>by
  rw [(GD hw).1,Nw (by omega)];rfl) (λj hj=>(GD (o:=o*3+0+j) hw).2) (PS M)
 simp only [wK] at r1 r2;have e:w.setCells g (o*3) (M.flatMap Id.K)=w.setRow g (cur.toList.take (o*3)++M.flatMap Id.K++cur.toList.drop (o*3+(M.flatMap Id.K).length)).toArray:=by
  have:=r2.symm.trans r1;injection this
 rw [e];have hlen:(L.take o++M++L.drop (o+M.length)).length=L.length:=by
  simp only [gK,kM,xS];omega
 have hcur:cur.toList.length=(c+1)*3:=by rw [Dx,hs]
 have hl':∀ d∈L.map Id.A,d.length=3:=λd hd=>(aA4 L d hd).1;have hflat:((L.take o++M++L.drop (o+M.length)).map Id.A).flatten=(L.map Id.A).flatten.take (o*3)++(M.flatMap Id.K).map .v++(L.map Id.A).flatten.drop (o*3+M.length*3):=by
  rw [jA,jA,PZ,PZ,Rl M,UB,List.map_drop,DZ hl',DY hl',CM]
 have hrp:bQ h ((L.take o++M++L.drop (o+M.length)).map Id.A).flatten ((cur.toList.take (o*3)++M.flatMap Id.K++cur.toList.drop (o*3+(M.flatMap Id.K).length)).take (L.length*3)):=by
  rw [hflat,hm,Jk cur.toList (M.flatMap Id.K) (o*3) (M.length*3) (L.length*3) (by omega) (by omega) hm];exact ((hr.take _).app (OB h _)).app (hr.drop _)
 have hsz:(cur.toList.take (o*3)++M.flatMap Id.K++cur.toList.drop (o*3+(M.flatMap Id.K).length)).toArray.size=(c+1)*3:=by
  rw [Lt];simp only [gK,kM,xS,hcur];omega
 refine ⟨Im hI hk hw (by rw [hφ];rfl) ⟨aA4 _,.inr ⟨g,c,_,E,by rw [aL,hlen];exact hφ,setRow_heap w g cur _ E _ hw,by rw [aL,hlen];exact hL,hc,hsz,hg,by rw [aL,hlen];exact hrp⟩⟩,_,setRow_heap w g cur _ E _ hw,hsz,by rw [hlen];exact hrp⟩
def aFB (L:List Id) (n i:Nat):List Id :=
 let M:=(L.take n).drop (i+1)
 let L1:=L.take i++M++L.drop (i+M.length)
 L1.take (n-1)++[⟨0,0,0⟩]++L1.drop (n-1+([⟨0,0,0⟩]:List Id).length)
def XL {G:Nat→Option (List AV)} {k n i:Nat} {L:List Id} {sl:AV} (hk:T[k]?=some (some (.arr 3 (L.map Id.A)))) (hn:n≤L.length) (hsl:sl=.vw k 3 0 n∨(sl=.own k∧n=L.length)) (hi:i<n) :
  aC PQ G dV [sl,iv i,iv (i+1:Nat)] T λr T'=>r=.vw k 3 0 (n-1)∧T'=T.set k (some (.arr 3 ((aFB L n i).map Id.A))):=by
 intro h φ w vals hG hI hA;refine .inl ⟨Go.Proofs.enters_of Tryz.func127 (by kernel_rfl) rfl _ _,?_⟩;simp only [bK] at hA;obtain ⟨u0,us0,hv0,hA0,u1,us1,rfl,hA1,u2,us2,rfl,hA2,rfl⟩:=hA;simp only [Rp] at hA1 hA2;subst hA1 hA2;obtain rfl:vals=#[u0,.int .i64 i,.int .i64 (i+1:Nat)]:=by apply CK.1;simpa using hv0
 have hkl:k<T.length:=(vE.1 hk).1;obtain ⟨hc,hobj⟩:=hI.obj k _ hk;rw [aL] at hobj;rcases hobj with ⟨A0,e0,hnil⟩ | ⟨g,c,cur,E,e0,e1,e2,e3,e4,e5,e6⟩
 ·have:L=[]:=by simpa using hnil
  subst this;simp at hn;omega
 have hu:∃ cap,u0=.slice (some ⟨g,0,none⟩) n cap∧n≤cap∧cap≤maxLen:=by
  rcases hsl with rfl | ⟨rfl,rfl⟩
  ·simp only [Rp] at hA0;obtain ⟨_,A,cc,rfl,h1,h2,h3⟩:=hA0;rcases h3 with h3 | ⟨g',l,c',h4,rfl,_⟩
   ·omega
   ·rw [e0] at h4;simp only [Value.slice.injEq,Option.some.injEq,Addr.mk.injEq,and_true] at h4;exact ⟨cc,by rw [←h4.1,Nat.zero_mul],h1,h2⟩
  ·simp only [Rp] at hA0;exact ⟨c+1,by rw [hA0.2.1,e0],e2,e3⟩
 obtain ⟨cap,rfl,hcap,hmx⟩:=hu;have hmul:n*3≤cur.toList.length:=by rw [Dx,e4];omega
 have hcell:cur.toList.take (L.length*3)=L.flatMap Id.K:=by
  rw [Rl] at e6;exact Og e6
 have hcn:cur.toList.take (n*3)=(L.take n).flatMap Id.K:=by
  have h1:(cur.toList.take (L.length*3)).take (n*3)=cur.toList.take (n*3):=by rw [List.take_take];congr 1;omega
  rw [←h1,hcell];have:=JB (enc:=Id.K) (k:=3) (λ_=>rfl) (L.take n)
  conv=>lhs;rw [←Lo n L]
  rw [List.flatMap_append,XW (by rw [this,kM];omega),xR (by rw [this,kM];omega)]
 have hF:(cur.toList.take (n*3)).toArray.size=n*3:=by rw [Lt,kM];omega
 refine (aA3 (cur.toList.take (n*3)).toArray g cap n i w hF (λv hv=>by rw [hcn] at hv;exact PS _ v (by simpa using hv)) ?_ hcap (by unfold maxLen at hmx;omega) hi).mono ?_
 ·intro t ht;rw [hF] at ht;obtain ⟨c1,c2⟩:=GD (o:=0+t) e1;refine ⟨?_,c2⟩;rw [c1,qT,id,getElem!_pos _ t (by rw [hF];exact ht),Nw (by omega)];simp
 ·rintro e w' ⟨rfl,rfl⟩;have hd:(cur.toList.take (n*3)).toArray.toList.drop ((i+1)*3)=((L.take n).drop (i+1)).flatMap Id.K:=by
   show (cur.toList.take (n*3)).drop ((i+1)*3)=_;rw [hcn]
   conv=>lhs;rw [←Lo (i+1) (L.take n)]
   have:=JB (enc:=Id.K) (k:=3) (λ_=>rfl) ((L.take n).take (i+1));rw [List.flatMap_append,aBP (by rw [this,kM,kM];omega),Ln (by rw [this,kM,kM];omega),gW]
  rw [hd];have hId:Inv h φ w.drew T:=⟨hI.gh,hI.obj,hI.dis⟩
  have hMl:((L.take n).drop (i+1)).length=n-(i+1):=by rw [xS,kM];omega
  obtain ⟨⟨i1,v1⟩,cur1,w1,z1,p1⟩:=VV hId (M:=(L.take n).drop (i+1)) (o:=i) hk e0 e1 e2 e3 e4 e5 e6 (by rw [hMl];omega);have hL1:(L.take i++(L.take n).drop (i+1)++L.drop (i+((L.take n).drop (i+1)).length)).length=L.length:=by
   simp only [gK,kM,xS];omega
  obtain ⟨⟨i2,v2⟩,_⟩:=VV i1 (M:=[⟨0,0,0⟩]) (o:=n-1) (by rw [List.getElem?_set_self hkl]) (by rw [hL1];exact e0) w1 (by rw [hL1];exact e2) e3 z1 e5 p1 (by rw [hL1];simp;omega);rw [List.set_set] at i2 v2;have vd:Evo h φ T w h φ T w.drew:=⟨rfl,rfl,rfl,cT _,λ_ _ _=>rfl,zG.refl _,λb cs e=>.inl e,λ_ _=>rfl,λi o b e1 e2=>.inr ⟨i,o,e1,e2⟩,cT _,Hk _⟩
  refine ⟨_,rfl,.vw k 3 0 (n-1),_,h,φ,⟨rfl,rfl⟩,(vd.trans v1).trans v2,i2,?_⟩
  ·simp only [Rp,gG];refine ⟨hkl,some ⟨g,0,none⟩,cap,rfl,by omega,hmx,.inr ⟨g,_,_,e0,by rw [Nat.zero_mul],by omega⟩⟩
end
end Hud
end
