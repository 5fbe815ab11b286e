import Derived.Test.YtdichbeaekjibaaGreatDoorLib29
set_option linter.all false
set_option maxHeartbeats 40000000
namespace Hud
open Go
section
variable{G:L_}
def aOZ (hK:GK G) (hA:AK G) (n k:Int) (hn:mZ n) (hk:mZ k) (i q:Nat) (hi:i<3) (ei:pX n 3=(i:Int)) (eq:pX k 4=(q:Int)) (m1 m2 f:Bool) (t1:((q:Int).tmod 2==1)=m1) (t2:(IntKind.i64.wrap ((q:Int).tdiv 2)==1)=m2)
  {a b:Int} (gR:([[iv 1,iv 2],[iv 1,iv 3],[iv 2,iv 3]]:List (List AV))[i]?=some [iv a,iv b]) (hab:1≤a∧a≤3∧1≤b∧b≤3) {g5 g6 g7 g8:GM}
  (C:Cir (opD a 3 (if m1=true then 0 else b) (if m1=true then b else 0)) (opD b 3 (if m2=true then 0 else a) (if m2=true then a else 0)) a b (aM6 f) f g5 g6 g7 g8) :
  aA PQ G aEV [iv n,iv k,.v (.bool f)] [] λr T=>r=.v (.bool true)∧T=[]:=by
 have h3:=Dl (G:=G) n 3 hn.1 hn.2 (by decide) (by decide);have h4:=Dl (G:=G) k 4 hk.1 hk.2 (by decide) (by decide);rw [ei] at h3;rw [eq] at h4;obtain ⟨h5,h6,h7,h8,e8,c1,c2,c3,c4,c5,c6,r5,r6,r7,r8⟩:=C;have l5:4≤g5.I.length:=by have:=aJe h6;have:=aJe h7;have:=aJe h8;omega
 have l6:6≤g6.I.length:=by have:=aJe h7;have:=aJe h8;omega
 have l7:6≤g7.I.length:=by have:=aJe h8;omega
 have hgg:=r8.ggood rY JP;have hnd8:=r8.nd rY;have hs8:∀ x∈g8.I,x∈(AM bQ g8.L).I:=λx hx=>by rw [(r8.good rY).sim.i];exact hx
 have gi:∀ j,j<8→(g8.I.map Id.A)[j]?=some (g8.I.getD j default).A:=λj hj=>by
  have h:j<g8.I.length:=by omega
  rw [aO _ g8.I j h];simp [rH,h]
 have hH:=λx=>uJ (G:=G) (kW (AM bQ g8.L) g8.I) x (by
  have h:=(Aa (g:=AM bQ g8.L) (V:=sU (AM bQ g8.L) (eO (AM bQ g8.L) g8.I) (zH g8.I)) (eO (AM bQ g8.L) g8.I) []).length_le;rw [dM,aDM] at h;have h2:(kW (AM bQ g8.L) g8.I).length≤g8.I.length:=h
  unfold maxLen;omega)
 have hLV:=aBl hK (aIS hA);have d5:∀ g:GM,g.A.drop 5=[]:=λ_=>rfl;cases m1<;>cases m2<;>cases f
 all_goals
  simp only [aM6,jJ,↓reduceIte,Nat.reduceSub] at h5 h6 h7 h8 c1 c2
  have b5:=aKI (G:=G) lR4 (by omega) (by omega) (by omega) (by omega) 3 (by decide) h5
  have b6:=aKI (G:=G) r5 (by omega) (by omega) (by omega) (by omega) 3 (by omega) h6
  have b7:=aKI (G:=G) r6 (by omega) (by omega) (by omega) (by omega) _ (by omega) h7
  have b8:=aKI (G:=G) r7 (by omega) (by omega) (by omega) (by omega) _ (by omega) h8
  refine aC aID ?_
  simp only [go_sem]
  refine cX h3 ?_
  simp only [go_sem,gR,hi]
  refine cX h3 ?_
  simp only [go_sem,gR,hi]
  refine cX aIH ?_
  simp only [go_sem]
  refine cX h4 ?_
  simp only [go_sem,t1,t2]
  refine Sb [4] [0] (aB _) (args3:=[_,.ag (gD _ dK dK dK dK dK),_]) (by decide) (by simp) rfl rfl (by simp only [go_sem];rfl) rfl (by simp only [go_sem]) b5 (by simp only [go_sem]) ?_
  simp only [go_sem,d5]
  refine Sb [5] [0] (aB _) (args3:=[_,.ag (gD _ dK dK dK dK dK),_]) (by decide) (by simp) rfl rfl (by simp only [go_sem];rfl) rfl (by simp only [go_sem]) b6 (by simp only [go_sem]) ?_
  simp only [go_sem,d5]
  refine Sb [6] [0] (aB _) (args3:=[_,.ag (gD _ dK dK dK dK dK),_]) (by decide) (by simp) rfl rfl (by simp only [go_sem];rfl) rfl (by simp only [go_sem]) b7 (by simp only [go_sem]) ?_
  simp only [go_sem,d5]
  refine Sb [7] [0] (aB _) (args3:=[_,.ag (gD _ dK dK dK dK dK),_]) (by decide) (by simp) rfl rfl (by simp only [go_sem];rfl) rfl (by simp only [go_sem]) b8 (by simp only [go_sem]) ?_
  simp only [go_sem,d5]
  refine cX (VZ g8 r8.hyp6.1) ?_
  simp only [go_sem]
  refine kM (RS hK r8) ?_
  simp only [go_sem,TG,MG,aP,e8]
  refine cI (Vj hA (p:=(8,9,10)) ⟨rfl,rfl,rfl,by decide,by decide,by decide⟩ hgg hs8 hnd8) ?_
  simp only [go_sem,TG,MG,aP,e8]
  refine jA (aOU hA (p:=(8,9,10)) ⟨rfl,rfl,rfl,by decide,by decide,by decide⟩ hgg hs8 hnd8) ?_
  rintro r T' ⟨s,rfl,hR⟩
  have a1:T'[1]?=some (some (.box g8.A)):=by obtain ⟨X,hX⟩:=hR.ext;rw [hX];rfl
  have hRo:=hR.at'
  clear hR
  have d3:=decide_eq_true c3
  have d4:=decide_eq_false c4
  have d5':=decide_eq_true c5
  have d6:=decide_eq_false c6
  have d1:=decide_eq_true c1
  have d2:=decide_eq_false c2
  generalize aJ7 (AM bQ g8.L) (kW (AM bQ g8.L) g8.I)=R at *
  generalize kW (AM bQ g8.L) g8.I=Cn at *
  simp only [go_sem,a1,gi 4 (by decide),gi 5 (by decide),gi 6 (by decide),gi 7 (by decide)]
  refine cX (hH _) ?_
  simp only [go_sem,a1,gi 4 (by decide),gi 5 (by decide),gi 6 (by decide),gi 7 (by decide),d1,d2,d3,d4,d5',d6]
  refine cX (hH _) ?_
  simp only [go_sem,a1,gi 4 (by decide),gi 5 (by decide),gi 6 (by decide),gi 7 (by decide),d1,d2,d3,d4,d5',d6]
  refine cI (aJG hRo a) ?_
  simp only [go_sem,a1,gi 4 (by decide),gi 5 (by decide),gi 6 (by decide),gi 7 (by decide),d1,d2,d3,d4,d5',d6]
  refine cI (aJG hRo b) ?_
  simp only [go_sem,a1,gi 4 (by decide),gi 5 (by decide),gi 6 (by decide),gi 7 (by decide),d1,d2,d3,d4,d5',d6]
  refine cX (hH _) ?_
  simp only [go_sem,a1,gi 4 (by decide),gi 5 (by decide),gi 6 (by decide),gi 7 (by decide),d1,d2,d3,d4,d5',d6]
  refine cX (hH _) ?_
  simp only [go_sem,a1,gi 4 (by decide),gi 5 (by decide),gi 6 (by decide),gi 7 (by decide),d1,d2,d3,d4,d5',d6]
  refine cX hLV ?_
  simp only [go_sem,aIW]
def aK5(h:GK G)(j:AK G)(n k:Int)(e:mZ n)(g:mZ k)(f:Bool):aA PQ G aEV [iv n,iv k,.v (.bool f)] [] λr T=>r=.v (.bool true)/\T=[]:=by
 obtain⟨i,b,m⟩:∃i:Nat,i<3/\pX n 3=(i:Int):=by have:=BJ n 3 d_;exact⟨(pX n 3).toNat,o_,o_⟩
 obtain⟨q,d,eq⟩:∃q:Nat,q<4/\pX k 4=(q:Int):=by have:=BJ k 4 d_;exact⟨(pX k 4).toNat,o_,o_⟩
 have l:([[iv 1,iv 2],[iv 1,iv 3],[iv 2,iv 3]]:N_)[i]?=some [iv (prA i),iv (prB i)]:=by rcases(o_:i=0\/i=1\/i=2) with rfl|rfl|rfl<;>rfl
 have a:1<=prA i/\prA i<=3/\1<=prB i/\prB i<=3:=sg;obtain⟨g5,g6,g7,g8,C⟩:=aOC a (aOX b d f);refine aOZ h j n k e g i q b m eq (decide (q%2=1)) (decide (q/2=1)) f ?_ ?_ l a (g5:=g5) (g6:=g6) (g7:=g7) (g8:=g8) ?_;rcases(o_:q=0\/q=1\/q=2\/q=3) with rfl|rfl|rfl|rfl<;>rfl;rcases(o_:q=0\/q=1\/q=2\/q=3) with rfl|rfl|rfl|rfl<;>rfl;have p:aM4 (prA i) (prB i) q=opD (prA i) 3 (if decide (q%2=1)=true then 0 else prB i) (if decide (q%2=1)=true then prB i else 0):=by unfold aM4;by_cases c:q%2=1<;>simp[c]
 have o:aM5 (prA i) (prB i) q=opD (prB i) 3 (if decide (q/2=1)=true then 0 else prA i) (if decide (q/2=1)=true then prA i else 0):=by unfold aM5;by_cases c:q/2=1<;>simp[c]
 rw[<-p,<-o];exact C
end
end Hud
