import Derived.Test.YtdichbeaekjibaaGreatDoorLib32
set_option linter.all false
namespace Hud
open Go
section
def aFC:(lQ 6).ok:=aA5 ▸ (lR6.ggood oF Gf).ok
def aFD:aC PQ DS iI A0 (TG 0 (lQ 6)) λr T=>r=ids Am.I∧T=TG 0 (lQ 6):=by
 refine (FG (FI (ps:=[]) trivial) aIF).fin [3] ?_;rintro r T' ⟨rfl,rfl⟩;simp only [go_sem,TG,MG]
def aIJ:aC PQ DS nB A0 (TG 0 (lQ 6)) λr T=>r=uK [1,2,3,4]∧T=TG 0 (lQ 6):=by
 have h:=aDK (G:=DS) (p:=(0,1,2)) (T:=TG 0 (lQ 6)) (g:=lQ 6) ⟨rfl,rfl,rfl,by decide,by decide,by decide⟩ aFC Am.I Am.I aFD (λx hx=>hx) (by decide);rw [show Am.I.foldl (jH (lQ 6)) []=[1,2,3,4] by kernel_rfl] at h;exact h
def aA6 {G:Nat→Option (List AV)}:∀ l:List OpM,(∀ o∈l,o.ok)→Sx PQ G (l.map λo=>(iQ,[.ag o.A],[],.ag o.A,[]))
 | [],_=>trivial
 | o::l,h=>⟨PD o (h o (by simp)),aA6 l λx hx=>h x (by simp [hx])⟩
def Rm:Sx PQ DS p1:=⟨aFD,aIJ,XL (T:=[some (.arr 3 (aBD.map Id.A))]) (k:=0) (n:=2) (i:=0) (L:=aBD) rfl (by decide) (.inl rfl) (by decide),aA6 _ lR6.hyp6.1.ops⟩
def aFE:Sx PQ DS p2:=⟨FG (FI Rm) aDN,Rm⟩
def aCo:Sx PQ DS p3:=⟨FG (FI Rm) ofE,FG (FI aFE) aIG,FG (FI Rm) aDO,Rm⟩
def aDP:LivesP DS where
 counts:=by
  rw [aA5];refine (FG (FI aCo) aIH).fin [3] ?_;rintro r T' ⟨rfl,rfl⟩;simp only [go_sem,TG,MG]
 why:=by
  rw [aA5];exact FG (FI aCo) aII
end
section
section
variable {G:Nat→Option (List AV)}
set_option maxHeartbeats 4000000
def aA7 (g:GM) (hg:g.ok):aC PQ G qK [.ag g.A] [] λr T=>r=.own 0∧T=[some (.arr 3 ((fR g.I).map Id.A))]:=by
 refine aD F7 (by decide) ?_;have hn:=hg.n;have hi:=hg.i;simp only [go_sem];refine aQ (aA _) rfl (rN g.I (by omega)) ?_;simp only [go_sem]
def Rn (hK:GK G) (hP:LivesP G) (l:List Int) (hl:l.length≤9223372036854775807) (hi:∀ n∈l,kZ n) (z:Id) :
  aC PQ G Bx [uK l,.ag z.A] [] λr T=>r=.v (.bool true)∧T=[]:=by
 refine aD FR (by decide) ?_;simp only [go_sem];refine mD (aA _) rfl (XI l hl hi 14 (by decide)) ?_;rintro r T' ⟨⟨g,hr,hgl,rfl⟩,rfl⟩;have hg:=hr.hyp6.1;have hk:=hr.kill oF;have hpk:=(hr.ggood oF Gf).ok;simp only [go_sem];refine aB (aA _) rfl (Rh g hg) rfl ?_;simp only [go_sem];refine aQ (aA _) rfl (Nt hK hr) ?_;generalize Aj bN g.L=p at *
 have hK16:=XA (G:=G) g hg;have hA:=aA7 (G:=G) g hg;have hl2:(fR g.I).length≤1000:=by rw [(eU _).length_eq,hg.i];omega
 have hLV:=XK hK hP;generalize fR g.I=X at *
 obtain ⟨Y,hY⟩:∃ Y,Y=X++[z]:=⟨_,rfl⟩
 have hYA:X.map Id.A++[z.A]=Y.map Id.A:=by rw [hY,jA];rfl
 have hYl:Y.length=X.length+1:=by rw [hY];simp
 clear hgl hr hi hl hY;obtain ⟨T0,hT0⟩:∃ T0:aH,T0=[some (.box g.A),some (.box [.ls 5 (p.cards.map CardM.A),.mp 3,.own 4]),some (.arr 3 (Y.map Id.A)),some (MG p.I),some (.arr 35 (p.nodes.map ND.A))]:=⟨_,rfl⟩
 have hKp:∀ x y:Id,aC PQ G gH [.ptr 0 0,.ag x.A,.ag y.A] (TG 0 p) λr T'=>r=.v (.bool (H4 g x y))∧T'=TG 0 p:=λx y=>by
  rw [←hk];exact VJ (p:=(0,1,2)) ⟨rfl,rfl,rfl,by decide,by decide,by decide⟩ hpk x y
 simp only [go_sem,TG,MG];refine And.intro ?_ ?_
 all_goals (
  refine aQ (aA _) rfl hA ?_
  simp only [go_sem,aL,hYA,show (X.length+1)*24≤140737488355328 by omega,show X.length+1≤maxLen by unfold maxLen;omega]
  refine aJ Y.length (λi=>⟨0,[(5,.ptr 0 0),(6,.ptr 1 0),(7,.own 2),(8,iv i)],T0⟩) (λ_=>True) (by simp only [go_sem,hT0,MG]) trivial ?_ ?_
  ·intro i hi _
   have ws:=aF (show i<9223372036854775807 by omega)
   have g0:(Y.map Id.A)[i]?=some Y[i].A:=aI _ Y i hi
   have a0:=hT0
   simp only [go_sem,hT0,MG,aL,bG hi]
   refine aJ Y.length (λk=>⟨0,[(5,.ptr 0 0),(6,.ptr 1 0),(7,.own 2),(8,iv i),(9,iv k)],T0⟩) (λ_=>True) (by simp only [go_sem,hT0,MG]) trivial ?_ ?_
   ·intro k hk2 _
    have ws:=aF (show k<9223372036854775807 by omega)
    have g1:(Y.map Id.A)[k]?=some Y[k].A:=aI _ Y k hk2
    have h1:=hKp Y[i] Y[k]
    have h2:=hK16 Y[i] Y[k]
    generalize Y[i]=x at *
    generalize Y[k]=y at *
    simp only [go_sem,hT0,MG,aL,bG hk2,hi,hk2,g0,g1]
    refine aG (T2:=TG 0 p) [1,3,4] (aA _) (by decide) (by simp) rfl (by simp only [go_sem,TG,MG]) h1 ?_
    rintro r T' ⟨rfl,rfl⟩
    simp only [go_sem,TG,MG,aL,hi,hk2,g0,g1]
    refine aB (aA _) rfl h2 rfl ?_
    cases H4 g x y
    ·simp only [go_sem,hT0,MG,ws]
    ·simp only [go_sem,hT0,MG,ws]
   ·intro _
    simp only [go_sem,hT0,MG,aL,aX (cN _),ws]
  ·intro _
   simp only [go_sem,hT0,MG,aL,aX (cN _)]
   refine aB (aA _) rfl hLV rfl ?_
   simp only [go_sem])
end
end
end Hud
