import Derived.Test.YthlndebkfkanbaaGreatDoorLib33
set_option linter.all false
namespace Hud
open Go
section
def WV (a b:List Fq):(dm a b).2.length≤a.length:=by
 unfold dm;have la:=gP a;split
 ·simp
 ·split
  ·simpa using la
  ·refine nX (gP _) ?_;have key:∀ (b:List Fq) (v:Fq) (k:Nat) (q a:List Fq),(lE b v k (q,a)).2.length=a.length:=by
    intro b v k
    induction k with
    | zero=>intro q a;rfl
    | succ k ih=>intro q a;rw [lE,ih,lD]
   rw [key];exact la
def aGT {a b:List Fq} (h:aN b≠[]):(dm a b).2.length<(aN b).length:=(aGg (λhz=>h (FG.2 hz))).2.1
section
variable {G:Nat→Option (List AV)}
set_option maxHeartbeats 1000000
def Mq (a b:List Fq) (ha:a.length≤100000000) (hb:b.length≤100000000):aC PQ G fX [.ls 1 (fl a),.ls 1 (fl b)] [] λr T'=>r=.tup [.ls 1 (fl (dm a b).1),.ls 1 (fl (dm a b).2)]∧T'=[]:=by
 refine (YV a b ha hb).fin [0,1] ?_;rintro r T' ⟨Q,R,e1,e2,rfl,rfl⟩;have q1:=J1 Q;have q2:=gP Q;have r1:=J1 R;have r2:=gP R;rw [e1,e2];by_cases h1:(aN Q).length=Q.length
 ·rw [h1,pY (by simp)] at q1;by_cases h2:(aN R).length=R.length
  ·rw [h2,pY (by simp)] at r1;simp only [go_sem,QV,if_pos h1,if_pos h2,q1,r1]
  ·simp only [go_sem,QV,if_pos h1,if_neg h2,q1,rW,aL,r2,r1]
 ·by_cases h2:(aN R).length=R.length
  ·rw [h2,pY (by simp)] at r1;simp only [go_sem,QV,if_neg h1,if_pos h2,r1,rW,aL,q2,q1]
  ·simp only [go_sem,QV,if_neg h1,if_neg h2,rW,aL,q2,q1,r2,r1]
def aFq (md:List Fq) (f:Nat) (out a:List Fq):H8 md f 0 out a=out:=by cases f<;>simp [H8]
def WW (a b:List Fq):(BE a b).length≤a.length+b.length:=by
 rcases o6 a b with h | h
 ·rw [h];simp
 ·omega
def aDg (a md:List Fq) (n:Nat) (hn:n<2^61) (ha:a.length≤1000000) (hm:md.length≤1000000):aC PQ G sQ [.ls 1 (fl a),.v (.int .u64 (n:Int)),.ls 1 (fl md)] [] λr T'=>r=.ls 1 (fl (H8 md 61 n [1] a))∧T'=[]:=by
 refine aF JU (by decide) ?_;simp only [go_sem];refine bU (λf s=>∃ (m:Nat) (out x:List Fq),m<2^f∧m<18446744073709551616∧H8 md f m out x=H8 md 61 n [1] a∧out.length≤2000000∧x.length≤2000000∧s=⟨0,[(0,.ls 1 (fl x)),(1,.v (.int .u64 (m:Int))),(2,.ls 1 (fl md)),(7,.ls 1 (fl out))],[]⟩) 61
  ⟨n,[1],a,hn,by omega,rfl,by simp,by omega,by simp only [go_sem,fl];rfl⟩ ?_
 rintro f s ⟨m,out,x,hf,hm2,hp,lo,lx,rfl⟩;rcases Oh m with rfl | hpos
 ·simp only [go_sem,show decide (((0:Nat):Int)>0)=false by decide];rw [aFq] at hp;simp only [hp,and_self]
 ·cases f with
  | zero=>simp at hf;omega
  | succ f =>
   have a1:=OB m hm2;have hmx:=WW x x;have hd1:=WV (BE x x) md;have hmo:=WW out x;have hd2:=WV (BE out x) md;rw [H8,if_neg (by omega)] at hp;have key:∀ y md:List Fq,y.length≤4000000→md.length≤1000000→(dm y md).2.length≤1000000:=by
    intro y md h1 h2;by_cases hz:aN md=[]
    ·have:(dm y md).2=[]:=by rw [dm,if_pos hz]
     rw [this];simp
    ·have:=aGT (a:=y) hz;have:=gP md;omega
   simp only [go_sem,show decide ((m:Int)>0)=true by simpa using hpos,↓a1];refine aM (λhb=>?_) (λhb=>?_)
   ·have h3:m%2=1:=by simp at hb;omega
    rw [if_pos h3] at hp;simp only [go_sem];refine aB (aA _) rfl (Um out x (by omega) (by omega)) rfl ?_;simp only [go_sem];refine aB (aA _) rfl (Mq (BE out x) md (by omega) (by omega)) rfl ?_;simp only [go_sem];refine aB (aA _) rfl (Um x x (by omega) (by omega)) rfl ?_;simp only [go_sem];refine aB (aA _) rfl (Mq (BE x x) md (by omega) (by omega)) rfl ?_;simp only [go_sem,↓EM];exact ⟨f,Qk f,m/2,_,_,by omega,by omega,hp,nX (key _ _ (by omega) hm) (by omega),nX (key _ _ (by omega) hm) (by omega),rfl⟩
   ·have h3:m%2=0:=by simp at hb;omega
    rw [if_neg (by omega)] at hp;simp only [go_sem];refine aB (aA _) rfl (Um x x (by omega) (by omega)) rfl ?_;simp only [go_sem];refine aB (aA _) rfl (Mq (BE x x) md (by omega) (by omega)) rfl ?_;simp only [go_sem,↓EM];exact ⟨f,Qk f,m/2,_,_,by omega,by omega,hp,lo,nX (key _ _ (by omega) hm) (by omega),rfl⟩
end
end
section
open W
def arF (f:Nat) (args:List AV) (T:aQ):Option (AV×aQ):=match T,args with
 | [],[.v (.int .u64 (.ofNat x)),.v (.int .u64 (.ofNat y))] =>
  match Nat.blt x PP,Nat.beq f bQ,Nat.blt y PP,Nat.beq f oI,Nat.blt y 18446744073709551616 with
  | true,true,true,_,_=>some (uv (x*y%PP),[])
  | true,false,_,true,true=>some (uv (pwm PP 64 x y 1%PP),[])
  | _,_,_,_,_=>none
 | _,_=>none
def aFr {G:Nat→Option (List AV)}:∀ f args T r T',arF f args T=some (r,T')→aC PQ G f args T λr' T''=>r'=r∧T''=T':=by
 intro f args T r T' h;unfold arF at h;split at h
 ·rename_i x y;split at h
  ·rename_i h1 h2 h3;simp only [Option.some.injEq,Prod.mk.injEq] at h;obtain ⟨rfl,rfl⟩:=h;rw [Nat.blt_eq] at h1 h3;rw [KP h2];exact CP (⟨x,h1⟩:Fq) ⟨y,h3⟩
  ·rename_i h1 h2 h4 h5;simp only [Option.some.injEq,Prod.mk.injEq] at h;obtain ⟨rfl,rfl⟩:=h;rw [Nat.blt_eq] at h1 h5;rw [KP h4];have e:=OC (G:=G) (⟨x,h1⟩:Fq) y h5;have e2:(((⟨x,h1⟩:Fq)^y).val)=pwm PP 64 x y 1%PP:=by
    rw [Z7,PO PP 64 x y 1 (by simpa using h5),GJ]
   simp only [fu,e2] at e;exact e
  ·simp at h
 ·simp at h
def FK:HFun:=⟨25,[(2,none)],S [R0 2 1 [M z],S [R0 5 3 [A 0 (c1 wL (c1 iK v0))],.shut 0],S [R0 8 2 [ls (n v0) w2],If 10 [0] (S [S [iz 2,ow 2 1],.ret])],S [S [S [S [E 12 [A 11 t0,j2 zUU (u 0) (u 1)],.shut 12],E 14 [A 13 t0,A 0 (c2 xN (t 11) (c2 Bj (c3 sQ (t 12) (u 2305843009213693951) (t 13)) (j2 zUU (u 0) (u 2305843009213693950))))]],.kill [17,16,15,14,13,12,11]],.shut 0],S [E 3 [al [zS]],oc 3 0 1],E 4 [al [.nilFunc]],R0 18 1 [s 1 t4 (x (.clo xQ [zt 3,zt 4]))],R 19 3 [4,0] [d2 (l t4) v0 (u 0)],R0 22 2 [c1 fJ (l t3)],S [R 24 1 [3] [A 2 (l t3)],ow 2 1],.ret]⟩
def IQ:cF Bw [(2,none,1),(3,some 0,1),(0,none,0),(12,none,1000)]=some FK:=by kernel_rfl
def aGU:List (Nat×HFun):=[(nS,zQ),(fM,qY),(mI,DZ),(rH,Db),(uU,Iq),(cK,De),(oH,DX),(kR,vR),(sO,zR),(nR,sV),(Bj,L6),(Bl,G5),(fX,AU),(xN,L5),(tU,Fy),(Bw,FK),(xQ,Dq),(iK,Dl),(qE,AW),(dD,kQ),(wL,G2),(xP,Dp),(kV,Dn),(jQ,FE),(gR,Ip),(nQ,zM),(pS,vX),(sK,zL),(Bs,Gu),(sL,DT),(xM,DR),(uA,BA),(bV,eU),(aW,mJ),(dK,fS),(fJ,mZ),(eR,jE),(cT,lV),(iT,sU),(mW,vQ),(rJ,H3),(bL,FF),(xL,DU),(tZ,BC),(cA,CN),(sJ,zP),(gW,lG),(dV,iO),(bN,dN),(bA,cE),(fC,jS),(bF,dZ),(cD,dQ),(aY,fT),(aV,fE)]
def aDh:TOk PQ aGU:=⟨⟨_,DW⟩,⟨_,tS⟩,⟨_,Da⟩,⟨_,Dc⟩,⟨_,Lr⟩,⟨_,Df⟩,⟨_,DY⟩,⟨_,xZ⟩,⟨_,Dg⟩,⟨_,vE⟩,⟨_,NM⟩,⟨_,JV⟩,⟨_,BK⟩,⟨_,NL⟩,⟨_,FH⟩,⟨_,IQ⟩,⟨_,G4⟩,⟨_,Dm⟩,⟨_,BL⟩,⟨_,nC⟩,⟨_,JT⟩,⟨_,G3⟩,⟨_,Do⟩,⟨_,Hy⟩,⟨_,Lk⟩,⟨_,DS⟩,⟨_,B6⟩,⟨_,DQ⟩,⟨_,JM⟩,⟨_,Gv⟩,⟨_,Gt⟩,⟨_,Eo⟩,⟨_,iE⟩,⟨_,sR⟩,⟨_,jD⟩,⟨_,tM⟩,⟨_,nY⟩,⟨_,rR⟩,⟨_,vC⟩,⟨_,xY⟩,⟨_,Gw⟩,⟨_,H4⟩,⟨_,Gx⟩,⟨_,Ep⟩,⟨_,Fp⟩,⟨_,DV⟩,⟨_,qX⟩,⟨_,mY⟩,⟨_,fU⟩,⟨_,dH⟩,⟨_,oN⟩,⟨_,gS⟩,⟨_,gH⟩,⟨_,jF⟩,⟨_,iN⟩,trivial⟩
def clF (f:Nat) (args:List AV) (T:aQ):Option (AV×aQ):=match T,args with
 | [],[.ls k es]=>match Nat.beq f aK,Nat.beq k 1,Nat.ble es.length 1000000 with
  | true,true,true=>some (.own 0,[some (.arr 1 es)])
  | _,_,_=>none
 | _,_=>none
def aFs {G:Nat→Option (List AV)}:∀ f args T r T',clF f args T=some (r,T')→aC PQ G f args T λr' T''=>r'=r∧T''=T':=by
 intro f args T r T' h;unfold clF at h;split at h
 ·rename_i k es;split at h
  ·rename_i h1 h2 h3;simp only [Option.some.injEq,Prod.mk.injEq] at h;obtain ⟨rfl,rfl⟩:=h;rw [KP h1,KP h2];exact tD es (Nat.le_of_ble_eq_true h3)
  ·simp at h
 ·simp at h
def YW:List Fq:=[⟨2107193139138015854,by decide⟩,1]
def pwJ:List (Nat×List AV×AV):=[(qF,[.ag [iv 1,iv 1,uv 5]],uv 198649870075678097),(qF,[.ag [iv 2,iv 1,uv 6]],uv 85720691986520107),(sQ,[.ls 1 [[uv 0],[uv 1]],.v (.int .u64 2305843009213693951),.ls 1 [[uv 2107193139138015854],[uv 1]]],.ls 1 [[uv 198649870075678097]])]
def aJo:inv (1:Fq)=1:=by
 have h:=Vy (a:=(1:Fq)) (by decide);have e:(1:Fq)*inv 1=inv 1:=Fin.one_mul _;rw [e] at h;exact h
def dmJ (a:List Fq):List Fq :=
 if (aN a).length<2 then aN a else aN (lE YW 1 ((aN a).length-2+1) (List.replicate ((aN a).length-2+1) 0,aN a)).2
def aBE (a:List Fq):(dm a YW).2=dmJ a:=by
 have e1:aN YW=YW:=by decide +kernel
 have e2:YW≠[]:=by decide
 have e3:YW.length=2:=rfl;have e4:YW.getD (2-1) 0=1:=rfl;unfold dm dmJ;rw [e1,if_neg e2,e3,e4,aJo];split
 ·rfl
 ·rfl
def pwQ:Nat→Nat→List Fq→List Fq→List Fq
 | 0,_,out,_=>out
 | f+1,n,out,a=>if n=0 then out else pwQ f (n/2) (if n%2=1 then dmJ (BE out a) else out) (dmJ (BE a a))
def aBF:∀ (f n:Nat) (out a:List Fq),H8 YW f n out a=pwQ f n out a
 | 0,_,_,_=>rfl
 | f+1,n,out,a=>by rw [H8,pwQ,aBE,aBE,aBF f]
def aFt:(H8 YW 61 2305843009213693951 [1] [0,1]).map (·.val)=[198649870075678097]:=by
 rw [aBF];decide +kernel
def aFu {G:Nat→Option (List AV)}:aFe PQ G pwJ:=by
 refine ⟨?_,?_,?_,trivial⟩
 ·have h:=aBC (G:=G) 1 1 5 (by decide);have e:(aBB 1 1 5).val=198649870075678097:=by decide +kernel
  simp only [fu,e] at h;exact h
 ·have h:=aBC (G:=G) 2 1 6 (by decide);have e:(aBB 2 1 6).val=85720691986520107:=by decide +kernel
  simp only [fu,e] at h;exact h
 have h:=aDg (G:=G) [0,1] YW 2305843009213693951 (by decide) (by decide) (by decide);have e:fl (H8 YW 61 2305843009213693951 [1] [0,1])=[[uv 198649870075678097]]:=by
  have:fl (H8 YW 61 2305843009213693951 [1] [0,1])=((H8 YW 61 2305843009213693951 [1] [0,1]).map (·.val)).map λn=>[uv n]:=by simp [fl]
  rw [this,aFt];rfl
 rw [e] at h;exact h
def Sr:EvT:=⟨lkF aGU,λf args T=>match prF pwJ f args T with | some x=>some x | none=>match arF f args T with | some x=>some x | none=>clF f args T⟩
def rC {G:Nat→Option (List AV)}:Sr.Ok PQ G:=⟨aBc aDh,λf args T r T' e=>by
 simp only [Sr] at e;split at e
 ·rename_i x hx;injection e with e;subst e;exact aBd aFu f args T r T' hx
 ·split at e
  ·rename_i x hx;injection e with e;subst e;exact aFr f args T r T' hx
  ·exact aFs f args T r T' e⟩
end
section
section
variable {G:Nat→Option (List AV)}
set_option maxHeartbeats 4000000
def aBG:aC PQ G AP [] [] λr T=>r=.cl vO []∧T=[]:=by
 refine aF H5 (by decide) ?_;simp only [go_sem]
abbrev aJq (W1 W2:List Id) (EA EB:List (List AV)) (p:Int) (r:Loop):aQ:=[some (.box [ids W1]),some (.box [ids W2]),some (.box [iv p]),some (.box [.ls 1 EA]),some (.box [.ls 1 EB]),some (.lp r [(8,.ptr 4 0),(7,.ptr 3 0),(6,.ptr 2 0),(5,.ptr 1 0),(4,.ptr 0 0)])]
def WX (a b W1 W2:List Id) (EA EB E1 E2:List (List AV)) (na nb:Int) (la lb:List (List AV))
  (hw1:aC PQ G cA [ids a,ids b] [] λr T=>r=ids W1∧T=[])
  (hw2:aC PQ G cA [ids b,ids a] [] λr T=>r=ids W2∧T=[])
  (he1:aC PQ G bL [ids a] [] λr T=>r=.ls 1 EA∧T=[])
  (he2:aC PQ G bL [ids b] [] λr T=>r=.ls 1 EB∧T=[])
  (hE1:aC PQ G bL [ids W1] [] λr T=>r=.ls 1 E1∧T=[])
  (hE2:aC PQ G bL [ids W2] [] λr T=>r=.ls 1 E2∧T=[])
  (hA:aC PQ G gR [.ls 1 EA,iv 4] [] λr T=>r=.ag [iv na,.ls 1 la]∧T=[])
  (hB:aC PQ G gR [.ls 1 EB,iv 4] [] λr T=>r=.ag [iv nb,.ls 1 lb]∧T=[])
  (hD:aC PQ G jQ [.ag [iv na,.ls 1 la],.ag [iv nb,.ls 1 lb]] [] λr T=>r=.tup [.ls 1 E1,.ls 1 E2,iv 0]∧T=[])
  (q1:aC PQ G aW [.ls 1 E1,.ls 1 E1] [] λr T=>r=.v (.bool true)∧T=[])
  (q2:aC PQ G aW [.ls 1 E2,.ls 1 E2] [] λr T=>r=.v (.bool true)∧T=[]) :
  aC PQ G pB [ids a,ids b] [] λr T=>r=.tup [ids W1,ids W2,iv 4]∧T=[]:=by
 refine aF JN (by decide) ?_;simp only [go_sem];refine aB (aA _) rfl hw1 rfl ?_;simp only [go_sem];refine aB (aA _) rfl hw2 rfl ?_;simp only [go_sem];refine aB (aA _) rfl he1 rfl ?_;simp only [go_sem];refine aB (aA _) rfl he2 rfl ?_;simp only [go_sem];refine aB (aA _) rfl aBG rfl ?_;simp only [go_sem];refine Im rfl (rF xW) λr k1 k2 hy hyR=>?_;simp only [go_sem];refine yU [0,1,2,3,4,5] (aA _) (by decide) (λi hi=>by simp at hi ⊢;omega) rfl rfl (aF xW (by decide) ?_);simp only [go_sem];refine bU (λm s=>s=⟨6,[(0,.yl 5),(2,iv 4)],aJq W1 W2 EA EB 0 r⟩) 1 (by simp only [go_sem]) ?_;rintro m s rfl;have t1:decide ((4:Int)≤64)=true:=rfl;simp only [go_sem,t1];refine hy _ _ _ _ _ rfl rfl ?_;simp only [go_sem];refine aB (aA _) rfl hA rfl ?_;simp only [go_sem];refine aB (aA _) rfl hB rfl ?_;simp only [go_sem];refine aB (aA _) rfl hD rfl ?_;simp only [go_sem];refine aB (aA _) rfl hE1 rfl ?_;simp only [go_sem];refine aB (aA _) rfl q1 rfl ?_;simp only [go_sem];refine aB (aA _) rfl hE2 rfl ?_;simp only [go_sem];refine aB (aA _) rfl q2 rfl ?_;simp only [go_sem,k1,k2,show IntKind.i64.wrap 4=4 from rfl]
end
end
section
abbrev jA:Id:=⟨1,1,5⟩
abbrev jB:Id:=⟨2,1,6⟩
def vS2:List (List AV):=[[uv 1110589950677315567],[uv 1394960512739513774],[uv 1679331074801711983],[uv 1963701636863910194]]
def vS1:List (List AV):=[[uv 2220122317227173843],[uv 2220122317227173842],[uv 2220122317227173841],[uv 2220122317227173840]]
section
variable {G:Nat→Option (List AV)}
def aGV:aC PQ G bL [ids [jA,jB]] [] λr T=>r=.ls 1 [[uv 85720691986520107],[uv 198649870075678097]]∧T=[]:=rB rC (show QH G Sr 300 bL [ids [jA,jB]] []=some (.own 0,[some (.arr 1 [[uv 85720691986520107],[uv 198649870075678097]])]) by kernel_rfl) (by kernel_rfl)
def aJr:aC PQ G bL [ids [jB,jA]] [] λr T=>r=.ls 1 [[uv 85720691986520107],[uv 198649870075678097]]∧T=[]:=rB rC (show QH G Sr 300 bL [ids [jB,jA]] []=some (.own 0,[some (.arr 1 [[uv 85720691986520107],[uv 198649870075678097]])]) by kernel_rfl) (by kernel_rfl)
def e_B:aC PQ G bL [ids [jB]] [] λr T=>r=.ls 1 [[uv 85720691986520107]]∧T=[]:=rB rC (show QH G Sr 300 bL [ids [jB]] []=some (.own 0,[some (.arr 1 [[uv 85720691986520107]])]) by kernel_rfl) (by kernel_rfl)
def e_A:aC PQ G bL [ids [jA]] [] λr T=>r=.ls 1 [[uv 198649870075678097]]∧T=[]:=rB rC (show QH G Sr 300 bL [ids [jA]] []=some (.own 0,[some (.arr 1 [[uv 198649870075678097]])]) by kernel_rfl) (by kernel_rfl)
def e_0:aC PQ G bL [ids []] [] λr T=>r=.ls 1 []∧T=[]:=rB rC (show QH G Sr 300 bL [ids []] []=some (.own 0,[some (.arr 1 [])]) by kernel_rfl) (by kernel_rfl)
def w_1:aC PQ G cA [ids [jA,jB],ids [jB,jA]] [] λr T=>r=ids []∧T=[]:=rB rC (show QH G Sr 300 cA [ids [jA,jB],ids [jB,jA]] []=some (.vw 0 3 0 0,[some (.arr 3 [[iv 0,iv 0,uv 0],[iv 0,iv 0,uv 0]])]) by kernel_rfl) (by kernel_rfl)
def w_2:aC PQ G cA [ids [jB,jA],ids [jA,jB]] [] λr T=>r=ids []∧T=[]:=rB rC (show QH G Sr 300 cA [ids [jB,jA],ids [jA,jB]] []=some (.vw 0 3 0 0,[some (.arr 3 [[iv 0,iv 0,uv 0],[iv 0,iv 0,uv 0]])]) by kernel_rfl) (by kernel_rfl)
def w_3:aC PQ G cA [ids [jA,jB],ids [jB]] [] λr T=>r=ids [jA]∧T=[]:=rB rC (show QH G Sr 300 cA [ids [jA,jB],ids [jB]] []=some (.vw 0 3 0 1,[some (.arr 3 [jA.A,[iv 0,iv 0,uv 0]])]) by kernel_rfl) (by kernel_rfl)
def w_4:aC PQ G cA [ids [jB],ids [jA,jB]] [] λr T=>r=ids []∧T=[]:=rB rC (show QH G Sr 300 cA [ids [jB],ids [jA,jB]] []=some (.vw 0 3 0 0,[some (.arr 3 [[iv 0,iv 0,uv 0]])]) by kernel_rfl) (by kernel_rfl)
def q_0:aC PQ G aW [.ls 1 [],.ls 1 []] [] λr T=>r=.v (.bool true)∧T=[]:=rB rC (show QH G Sr 300 aW [.ls 1 [],.ls 1 []] []=some (.v (.bool true),[]) by kernel_rfl) (by kernel_rfl)
def q_A:aC PQ G aW [.ls 1 [[uv 198649870075678097]],.ls 1 [[uv 198649870075678097]]] [] λr T=>r=.v (.bool true)∧T=[]:=rB rC (show QH G Sr 300 aW [.ls 1 [[uv 198649870075678097]],.ls 1 [[uv 198649870075678097]]] []=some (.v (.bool true),[]) by kernel_rfl) (by kernel_rfl)
def o_2:aC PQ G gR [.ls 1 [[uv 85720691986520107],[uv 198649870075678097]],iv 4] [] λr T=>r=.ag [iv 2,.ls 1 vS2]∧T=[]:=rB rC (show QH G Sr 300 gR [.ls 1 [[uv 85720691986520107],[uv 198649870075678097]],iv 4] []=some (.ag [iv 2,.own 0],[some (.arr 1 vS2)]) by kernel_rfl) (by kernel_rfl)
def o_1:aC PQ G gR [.ls 1 [[uv 85720691986520107]],iv 4] [] λr T=>r=.ag [iv 1,.ls 1 vS1]∧T=[]:=rB rC (show QH G Sr 300 gR [.ls 1 [[uv 85720691986520107]],iv 4] []=some (.ag [iv 1,.own 0],[some (.arr 1 vS1)]) by kernel_rfl) (by kernel_rfl)
def x_2:aC PQ G jQ [.ag [iv 2,.ls 1 vS2],.ag [iv 2,.ls 1 vS2]] [] λr T=>r=.tup [.ls 1 [],.ls 1 [],iv 0]∧T=[]:=rB rC (show QH G Sr 300 jQ [.ag [iv 2,.ls 1 vS2],.ag [iv 2,.ls 1 vS2]] []=some (.tup [.own 0,.own 1,iv 0],[some (.arr 1 []),some (.arr 1 [])]) by kernel_rfl) (by kernel_rfl)
def x_1:aC PQ G jQ [.ag [iv 2,.ls 1 vS2],.ag [iv 1,.ls 1 vS1]] [] λr T=>r=.tup [.ls 1 [[uv 198649870075678097]],.ls 1 [],iv 0]∧T=[]:=rB rC (show QH G Sr 300 jQ [.ag [iv 2,.ls 1 vS2],.ag [iv 1,.ls 1 vS1]] []=some (.tup [.own 0,.own 1,iv 0],[some (.arr 1 [[uv 198649870075678097]]),some (.arr 1 [])]) by kernel_rfl) (by kernel_rfl)
def aFv:aC PQ G pB [ids [jA,jB],ids [jB,jA]] [] λr T=>r=.tup [ids [],ids [],iv 4]∧T=[]:=WX _ _ _ _ _ _ _ _ _ _ _ _ w_1 w_2 aGV aJr e_0 e_0 o_2 o_2 x_2 q_0 q_0
def aFw:aC PQ G pB [ids [jA,jB],ids [jB]] [] λr T=>r=.tup [ids [jA],ids [],iv 4]∧T=[]:=WX _ _ _ _ _ _ _ _ _ _ _ _ w_3 w_4 aGV e_B e_A e_0 o_2 o_1 x_1 q_A q_0
def aBH:aC PQ G yV [] [] λr T=>r=.v (.bool true)∧T=[]:=by
 refine aF Ln (by decide) ?_;simp only [go_sem];refine V6 [2,3] [0,1] (aA _) (args3:=[ids [jA,jB],ids [jB,jA]]) (by decide) (by simp) rfl rfl (by simp only [go_sem];rfl) rfl (by simp only [go_sem]) aFv (by simp only [go_sem]) ?_;simp only [go_sem];refine V6 [4,5] [0,1] (aA _) (args3:=[ids [jA,jB],ids [jB]]) (by decide) (by simp) rfl rfl (by simp only [go_sem];rfl) rfl (by simp only [go_sem]) aFw (by simp only [go_sem]) ?_;simp only [go_sem];refine lN (aA _) (args2:=[ids [jA],ids [jA]]) (by simp only [go_sem];rfl) rfl (NI [jA] [jA] (by simp [maxLen])) ?_;simp only [go_sem]
end
end
end Hud
section

end
