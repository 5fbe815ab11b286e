import Derived.Test.YtdichbeaekjibaaGreatDoorLib33
set_option linter.all false
set_option maxHeartbeats 40000000
namespace Hud
open Go
variable{G:L_}
def aQ7(g:GM)(a:g.ok):aA PQ G AU [.ag g.A] [] λr T=>r=.own 0/\T=[some (.arr 3 ((jI g.I).map Id.A))]:=by refine aC SB ?_;have b:=a.n;have c:=a.i;simp only[go_sem];apply kM (AD g.I o_);simp only[go_sem]
def aPe(K:uE bQ=bQ)(D:GK G)(E:AK G)(l m:B_)(x:Id)(C:l.length<=2^63-1)(e:∀n∈l,mZ n)(M:m.length<=2^63-1)(o:∀n∈m,mZ n):
 aA PQ G aK5 [rG l,rG m,.ag x.A] [] λr T=>r=.v (.bool true)/\T=[]:=by
 apply aC aLU;simp only[go_sem];apply Jo (aBj l C e 12 d_);rintro r X ⟨⟨g,d,q,rfl⟩,rfl⟩;have b:=d.hyp6.1;have V:=d.good rY;have s:=d.ggood rY JP;simp only[go_sem];apply cX (VZ g b);simp only[go_sem];apply kM (RS D d);have j:(AM bQ g.L).I=g.I:=V.sim.i;have k:=d.nd rY;have f:=XW b.i m;have h:=Sy b.i k m;have N:=XX b m;have R:=λy=>aQV (G:=G) rY JP K d f h y;generalize AM bQ g.L=p at *
 have Q:GAt (TG 0 p) (0,1,2) p:=⟨rfl,rfl,rfl,d_,d_,d_⟩
 have P:=λy=>aHg E Q s (l:=qI g m) (λx J=>by rw[j];exact f x J) h y;simp only[go_sem,TG,MG];apply cX (aE7 g b m M o);have U:(jI g.I).length<=1000:=by rw[Qn];have:=b.i;have:=b.n;omega
 have c:=aQ7 (G:=G) g b;generalize qI g m=S at *
 generalize jI g.I=A at *
 obtain⟨Y,u⟩:∃Y,Y=A++[x]:=⟨_,rfl⟩
 have t:A.map Id.A++[x.A]=Y.map Id.A:=by rw[u,bZ];rfl
 have O:Y.length=A.length+1:=by rw[u];simp
 have z:=aBl D (aIS E);clear q d e C u;obtain⟨B,a⟩:∃B:aK,B=[some (.box g.A),some (.box [.ls 5 (p.cards.map CardM.A),.mp 3,.own 4]),some (.arr 3 (Y.map Id.A)),some (MG p.I),some (.arr 35 (p.nodes.map ND.A))]:=⟨_,rfl⟩
 simp only[go_sem];refine⟨kM c ?_,kM c ?_⟩
 all_goals (
  simp only[go_sem,aP,t,(o_:(A.length+1)*24<=140737488355328),(g_:A.length+1<=maxLen)])
 all_goals (
  refine aQ Y.length (λi=>⟨0,[(7,.ptr 0 0),(8,.ptr 1 0),(9,ids S),(10,.own 2),(11,iv i)],B⟩) (λ_=>True) (by simp only[go_sem,a,MG]) trivial ?_ ?_
  intro i e _
  have H:=fQ i o_
  have F:(Y.map Id.A)[i]?=some Y[i].A:=aO _ Y i e
  have h1:=P Y[i]
  have h2:=R Y[i]
  generalize Y[i]=y at *
  generalize Gk p S (zH S) y=w at *
  have W:(w==w)=true:=s_
  simp only[go_sem,a,MG,aP,aT e,e,F]
  apply aG (T2:=TG 0 p) [1,3,4] (aB _) d_ s_ rfl v_ h1
  rintro r X ⟨rfl,rfl⟩
  simp only[go_sem,TG,MG,aP,e,F]
  apply cX h2
  simp only[go_sem,a,MG,H,W]
  intro _
  simp only[go_sem,a,MG,aP,aS (bP _)]
  apply cX z
  simp only[go_sem])
end Hud
