import Derived.Test.YtdichbeaekjibaaGreatDoorLib26
set_option linter.all false
namespace Hud
open Go
section
def XM {g:PGM} {o:OpM} (h:(oS g o).2=0) (hc:rK o=0):(oS g o).1=⟨g.cards,g.nodes++[⟨o,Ao o,xK g o,DO g o.Past⟩]⟩:=by
 grind [oS,LP,Ni]
def lQ:Nat→PGM
 | 0=>⟨lM,[]⟩
 | 1=>⟨lM,[⟨Ll,VR,[0,0,0,0],1⟩]⟩
 | 2=>⟨lM,[⟨Ll,VR,[0,0,0,0],1⟩,⟨PX,XT,[1,0,0,0],2⟩]⟩
 | 3=>⟨lM,[⟨Ll,VR,[0,0,0,0],1⟩,⟨PX,XT,[1,0,0,0],2⟩,⟨Tk,lI3,[3,0,0,0],3⟩]⟩
 | 4=>⟨lM,[⟨Ll,VR,[0,0,0,0],1⟩,⟨PX,XT,[1,0,0,0],2⟩,⟨Tk,lI3,[3,0,0,0],3⟩,⟨XU,lI4,[7,0,0,0],4⟩]⟩
 | 5=>⟨lM,[⟨Ll,VR,[0,0,0,0],1⟩,⟨PX,XT,[1,0,0,0],2⟩,⟨Tk,lI3,[3,0,0,0],3⟩,⟨XU,lI4,[7,0,0,0],4⟩,⟨lO5,lI5,[15,0,0,0],5⟩]⟩
 | _=>⟨lM,[⟨Ll,VR,[0,0,0,0],1⟩,⟨PX,XT,[1,0,0,0],2⟩,⟨Tk,lI3,[3,0,0,0],3⟩,⟨XU,lI4,[7,0,0,0],4⟩,⟨lO5,lI5,[15,0,0,0],5⟩,⟨lO6,o9,[15,0,0,0],5⟩]⟩
def Tl (g:PGM) (o:OpM):PGM:=⟨g.cards,g.nodes++[⟨o,Ao o,xK g o,DO g o.Past⟩]⟩
def lQ1:Tl (lQ 0) Ll=lQ 1:=by kernel_rfl
def lQ2:Tl (lQ 1) PX=lQ 2:=by kernel_rfl
def lQ3:Tl (lQ 2) Tk=lQ 3:=by kernel_rfl
def lQ4:Tl (lQ 3) XU=lQ 4:=by kernel_rfl
def lQ5:Tl (lQ 4) lO5=lQ 5:=by kernel_rfl
def lQ6:Tl (lQ 5) lO6=lQ 6:=by kernel_rfl
def lQ0:Aj bN []=lQ 0:=by
 show (⟨qH bN,[]⟩:PGM)=lQ 0;rw [qH,List.mergeSort_of_pairwise (by rw [Al];decide),Al];rfl
def pO1 {l:List OpM} {o:OpM} {g g':PGM} (h0:Aj bN l=g) (ha:(oS (Aj bN l) o).2=0) (hc:fS o=0) (h1:Tl g o=g'):Aj bN (l++[o])=g':=by
 rw [JO,XM ha ((wW o).trans hc),h0];exact h1
def aA5:Aj bN Am.L=lQ 6:=by
 have gd:=(lR6.good oF).all;have ck:=lR6.checked;have b1:(oS (Aj bN []) Ll).2=0:=gd 0 (by decide);have b2:(oS (Aj bN [Ll]) PX).2=0:=gd 1 (by decide);have b3:(oS (Aj bN [Ll,PX]) Tk).2=0:=gd 2 (by decide);have b4:(oS (Aj bN [Ll,PX,Tk]) XU).2=0:=gd 3 (by decide);have b5:(oS (Aj bN [Ll,PX,Tk,XU]) lO5).2=0:=gd 4 (by decide);have b6:(oS (Aj bN [Ll,PX,Tk,XU,lO5]) lO6).2=0:=gd 5 (by decide);have a1:=pO1 lQ0 b1 (ck Ll (by simp [Am])) lQ1;have a2:=pO1 a1 b2 (ck PX (by simp [Am])) lQ2;have a3:=pO1 a2 b3 (ck Tk (by simp [Am])) lQ3;have a4:=pO1 a3 b4 (ck XU (by simp [Am])) lQ4;have a5:=pO1 a4 b5 (ck lO5 (by simp [Am])) lQ5;exact pO1 a5 b6 (ck lO6 (by simp [Am])) lQ6
def DS:Nat→Option (List AV):=λg=>if g=0 then some aCj else if g=1 then some (nI.map λn:Nat=>iv (n:Int)) else none
abbrev A0:List AV:=[.ptr 0 0,ids Am.I]
def V0:Option AObj:=some (.map true [] [] [] 0)
def V1:Option AObj:=some (.map true [o9.K] [.v (.bool true)] [0] 1)
def XV (V:Option AObj):aH:=[some (.box [.ptr 1 0,ids Am.I,.mp 2,.mp 3]),some (.box [.ls 5 (lM.map CardM.A),.mp 4,.own 5]),V,V0,some (MG Am.I),some (.arr 35 ((lQ 6).nodes.map ND.A))]
def T1:aH:=TG 0 (lQ 6)++[some (.box [.ptr 0 0,ids Am.I,.mp 4,.mp 5]),V0,V0]
def aIF:evF DS (evU []) 300 iI A0 (TG 0 (lQ 6))=some (.own 3,TG 0 (lQ 6)++[some (.arr 3 (Am.I.map Id.A))]):=by kernel_rfl
def clP:List (Nat×List AV×aH×AV×aH):=Am.L.map λo=>(iQ,[.ag o.A],[],.ag o.A,[])
def aBD:List Id:=[lI5,o9,⟨0,0,0⟩,⟨0,0,0⟩,⟨0,0,0⟩,⟨0,0,0⟩]
def p1:List (Nat×List AV×aH×AV×aH):=(iI,A0,TG 0 (lQ 6),ids Am.I,TG 0 (lQ 6))::(nB,A0,TG 0 (lQ 6),uK [1,2,3,4],TG 0 (lQ 6)) ::
 (dV,[.vw 0 3 0 2,iv 0,iv 1],[some (.arr 3 (aBD.map Id.A))],.vw 0 3 0 1,[some (.arr 3 ((aFB aBD 2 0).map Id.A))])::clP
def ofE:evF DS (evU p1) 300 wE A0 (TG 0 (lQ 6))=some (.ptr 3 0,T1):=by kernel_rfl
end
end Hud
