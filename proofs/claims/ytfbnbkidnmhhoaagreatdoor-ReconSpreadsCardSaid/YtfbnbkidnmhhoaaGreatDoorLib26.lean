import Derived.Test.YtfbnbkidnmhhoaaGreatDoorLib25
set_option linter.all false
set_option maxHeartbeats 40000000
namespace Hud
open Go
section
variable{G:L_}
def aUG(E:GK G)(S:aA PQ G aM1 [] [] λr T=>r=.v (.bool true)/\T=[])(l j f a:O4)(hl:l.length<=2^63-1)(hi:∀n∈l,mZ n)(h1:j.length<=2^63-1)(W:∀n∈j,mZ n)(h2:f.length<=2^63-1)(V:∀n∈f,mZ n)(h3:a.length<=2^63-1)(U:∀n∈a,mZ n):
 aA PQ G aNI [rG l,rG j,rG f,rG a] [] λr T=>r=.v (.bool true)/\T=[]:=by
 apply aC aOK;simp only[go_sem];apply Jo (aU2 l hl hi);rintro r F ⟨⟨g,b,rfl⟩,rfl⟩;have e:=aPV;have gd:=b.good e;have u:=b.row e;have k:=gd.ok;have ad:=gd.n;simp only[go_sem];apply cX (aE7 g k j h1 W);simp only[go_sem];apply cX (aE7 g k f h2 V);simp only[go_sem];apply cX (aE7 g k a h3 U);have cA:=λx(M:x∈qI g j) y K=>aMU e b (m:=j) (x:=x) (y:=y) M K;have cB:=λx(M:x∈qI g f) y K=>aMU e b (m:=f) (x:=x) (y:=y) M K;have cC:=λx(M:x∈qI g a) y K=>aMU e b (m:=a) (x:=x) (y:=y) M K;have sA:=XW (g:=g) k.i j;have sB:=XW (g:=g) k.i f;have sC:=XW (g:=g) k.i a;have nA:=Sy (g:=g) k.i u.nd j;have nB:=Sy (g:=g) k.i u.nd f;have nC:=Sy (g:=g) k.i u.nd a;have lA:=XX k j;have lB:=XX k f;have lC:=XX k a;generalize qI g j=A at *
 generalize qI g f=B at *
 generalize qI g a=C at *
 simp only[go_sem];apply aBF (aQM E e b A o_ cA);simp only[go_sem,TG,MG];apply aBF (aQM E e b B o_ cB);simp only[go_sem,TG,MG];apply aBF (aQM E e b C o_ cC);have r1:=aPe e b cA;have r2:=aPe e b cB;have r3:=aPe e b cC;have R:=aPD e b sA;have Q:=aPD e b sB;have P:=aPD e b sC;generalize aKU g A g.L.length=R1 at *
 generalize aKU g B g.L.length=R2 at *
 generalize aKU g C g.L.length=R3 at *
 obtain⟨F1,G1,f1,g1,a1,b1,ac⟩:=aR1 (G:=G) E e b r1 r2 rfl rfl rfl rfl rfl rfl;obtain⟨z,t,_⟩:=aOx e b r1 r2 f1 g1 a1 b1;obtain⟨G2,H2,g2,D,a2,b2,ab⟩:=aR1 (G:=G) E e b g1 r3 rfl rfl rfl rfl rfl rfl;obtain⟨w,H,_⟩:=aOx e b g1 r3 g2 D a2 b2;obtain⟨F3,G3,f3,g3,a3,b3,aa⟩:=aR1 (G:=G) E e b f1 g2 rfl rfl rfl rfl rfl rfl;obtain⟨J,I,_⟩:=aOx e b f1 g2 f3 g3 a3 b3;have O:=aR4 (aR4 nA nB) nC;have l0:(Bs A B).length<=1000:=by unfold Bs;rw[dZ];have:=aJe A B;omega
 have lX:(Bs (Bs A B) C).length<=2000:=by have h:=aJe (Bs A B) C;rw[show Bs (Bs A B) C=aN (Bs A B) C++C from rfl,dZ];omega
 have eF:sQ (rid g F3)=sQ (Bs (Bs A B) C):=aP8 (aO5 (aOj e b f3) O λx=>by rw[J,z,w,t,aMD,aMD,R,Q,P];grind);have eG:sQ (rid g G3)=sQ (Bs (Bs A B) C):=aP8 (aO5 (aOj e b g3) O λx=>by rw[I,z,w,t,aMD,aMD,R,Q,P];grind);have eH:sQ (rid g H2)=sQ (Bs (Bs A B) C):=aP8 (aO5 (aOj e b D) O λx=>by rw[H,t,aMD,aMD,R,Q,P]);obtain⟨_,k1,j1,_,_⟩:=aQh e b f3;obtain⟨_,k2,j2,_,_⟩:=aQh e b g3;obtain⟨_,k3,j3,_,_⟩:=aQh e b D;have o1:=k1 F3.length;have o2:=k2 G3.length;have o3:=k3 H2.length;rw[dE]at o1 o2 o3;have gF:=aPn (G:=G) _ o1;have gG:=aPn (G:=G) _ o2;have gH:=aPn (G:=G) _ o3;rw[j1,eF]at gF;rw[j2,eG]at gG;rw[j3,eH]at gH;have hU:=aS1 (G:=G) A B o_ o_;have Z:=aS1 (G:=G) (Bs A B) C o_ o_;have hS:=aRy (G:=G) (Bs (Bs A B) C) o_;have N:=Pr (G:=G) (sQ (Bs (Bs A B) C)) (sQ (Bs (Bs A B) C)) (by rw[(hZ _).length_eq];unfold maxLen;omega);rw[decide_eq_true rfl]at N;clear z t w H J I a1 b1 a2 b2 a3 b3;generalize Bs (Bs A B) C=X at *
 generalize Bs A B=Y at *
 generalize aPU (sQ (rid g R1)) (sQ (rid g R2))=N1 at *
 generalize aPU (sQ (rid g G1)) (sQ (rid g R3))=N2 at *
 generalize aPU (sQ (rid g F1)) (sQ (rid g G2))=N3 at *
 generalize AM aIG (aIX g R1)=p at *
 generalize AM aIG (aIX g R2)=q at *
 generalize AM aIG (aIX g R3)=s at *
 generalize AM aIG (aIX g F1)=p1 at *
 generalize AM aIG (aIX g G1)=q1 at *
 generalize AM aIG (aIX g G2)=q2 at *
 generalize AM aIG (aIX g H2)=s2 at *
 generalize AM aIG (aIX g F3)=p3 at *
 generalize AM aIG (aIX g G3)=q3 at *
 simp only[go_sem,TG,MG];apply aG (T2:=TG 0 p++TG 3 q) [1,2,3,4,5,6] (aB _) s_ k_ rfl u_ ac;rintro r F ⟨rfl,c,d,rfl⟩;refine'(λ(o:(_:Prop))=>?_) ?_;rotate_left;cases c<;>cases d<;>(simp only[go_sem,T2,MG];exact o)
 apply aG (T2:=TG 0 q1++TG 3 s) [1,5,6,2,7,8] (aB _) s_ k_ rfl u_ ab;rintro r F ⟨rfl,c,d,rfl⟩;refine'(λ(o:(_:Prop))=>?_) ?_;rotate_left;cases c<;>cases d<;>(simp only[go_sem,T2,MG];exact o)
 apply aG (T2:=TG 0 p1++TG 3 q2) [0,3,4,1,5,6] (aB _) s_ k_ rfl u_ aa;rintro r F ⟨rfl,c,d,rfl⟩;refine'(λ(o:(_:Prop))=>?_) ?_;rotate_left;cases c<;>cases d<;>(simp only[go_sem,T2,MG];exact o)
 apply cX hU;simp only[go_sem];apply cX Z;simp only[go_sem];apply cX hS;simp only[go_sem];apply aG (T2:=TG 0 p3) [0,3,4] (aB _) s_ k_ rfl u_ gF;rintro r F ⟨rfl,rfl⟩;simp only[go_sem,TG,MG];apply cX N;simp only[go_sem];apply aG (T2:=TG 0 q3) [1,5,6] (aB _) s_ k_ rfl u_ gG;rintro r F ⟨rfl,rfl⟩;simp only[go_sem,TG,MG];apply cX N;simp only[go_sem];apply aG (T2:=TG 0 s2) [2,7,8] (aB _) s_ k_ rfl u_ gH;rintro r F ⟨rfl,rfl⟩;simp only[go_sem,TG,MG];apply cX N;simp only[go_sem];apply cX S;simp only[go_sem]
end
end Hud
