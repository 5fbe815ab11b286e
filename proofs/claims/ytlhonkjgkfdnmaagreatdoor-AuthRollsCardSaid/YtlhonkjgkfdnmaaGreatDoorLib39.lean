import Derived.Test.YtlhonkjgkfdnmaaGreatDoorLib34
set_option linter.all false
set_option maxHeartbeats 40000000
namespace Hud
open Go
section
variable{G:L_}{T:aK}{p:Nat×Nat×Nat}{g:PGM}
def GQ (h:GAt T p g) (w:g.ok) (x y:Id):aA PQ G mI [.ptr p.1 0,.ag x.A,.ag y.A] T λr C=>r=.v (.bool (lA g x y))/\C=T:=by
 apply eH Lb;have B:=λX x y=>JO (G:=G) (h.app (X:=X)) w x y;have u:=Id.beq x y;have i:∀{X:aK}{a b c d:Option AObj},(T++a::b::c::d::X)[T.length+3]?=some d:=by intros;simp
 have t:∀{X:aK}{a b c d e:Option AObj},(T++a::b::c::d::X).set (T.length+3) e=T++a::b::c::e::X:=by intros;simp
 by_cases h1:x∈g.I
 ·have z:=λX=>S5 (G:=G) (h.app (X:=X)) w x h1;by_cases h2:y∈g.I
  ·have q:=λX=>S5 (G:=G) (h.app (X:=X)) w y h2;have n:=λX=>aIA (G:=G) (h.app (X:=X)) w (g.nd x).o (g.nd y).o.By;have s:lA g x y=(!decide (x=y)&&(!oH g y x&&(!oH g x y&&Oh g.cards (g.nd x).o (g.nd y).o))):=by grind[lA]
   rw[s];clear s;generalize(g.nd x).o=a at *
   generalize(g.nd y).o=b at *
   simp only[go_sem,aD,eB,jC,dM,Id.A_def];apply cI (z _);simp only[go_sem,aR,dH,dD,eB,jC,dM];apply cI (q _);cases c1:decide (x=y);rotate_left;simp only[go_sem,aD,aR,i,t,eB,jC,dM,u,c1,undef,aH];simp only[go_sem,aD,aR,i,t,eB,jC,dM,u,c1];apply cI (B _ y x);cases c2:oH g y x;rotate_left;simp only[go_sem,undef,aH];simp only[go_sem,aD,aR,jC,dM];apply cI (B _ x y);cases c3:oH g x y;rotate_left;simp only[go_sem,aH];simp only[go_sem,dH];unfold Oh;have l:=Id.beq a.Of b.Of;have j:=Id.beq b.Of a.Of;cases D:(a.Kind==3);cases f:(a.Kind==13);cases k:(a.Kind==12);simp only[go_sem,f,k,aH];cases m:(b.Kind==13);simp only[go_sem,i,f,k,m,undef,aH];cases q2:decide (b.Of=a.Of);simp only[go_sem,dH,i,Id.A_def,f,k,m,q2,j,undef,aH];simp only[go_sem,dH,i,Id.A_def,f,k,m,q2,j,aH];cases m:(b.Kind==12);simp only[go_sem,dH,i,jC,dM,f,m,undef];apply cI (n _);simp only[go_sem,aH,sF,mF,Ea,lR,EI,Ed];cases q2:decide (a.Of=b.Of);simp only[go_sem,dH,i,jC,dM,Id.A_def,f,m,q2,l];apply cI (n _);simp only[go_sem,aH,sF,mF,Ea,EI,Ed];simp only[go_sem,dH,i,Id.A_def,f,m,q2,l,undef,aH];have f:(a.Kind==13)=false:=t_;simp only[go_sem,dH,i,jC,dM,f,undef];apply cI (n _);simp only[go_sem,aH,sF,mF,EI,Ed];rw[f];rfl
  have q:=λX=>MW (G:=G) (h.app (X:=X)) y h2;have s:lA g x y=false:=by grind[lA]
  rw[s];generalize(g.nd x).o=a at *
  simp only[go_sem,aD,eB,jC,dM,Id.A_def];apply cI (z _);simp only[go_sem,aR,dH,dD,eB,jC,dM,undef];apply cI (q _);simp only[go_sem,i,t,eB,jC,dM,undef,aH,P1]
 have z:=λX=>MW (G:=G) (h.app (X:=X)) x h1;have s:lA g x y=false:=by grind[lA]
 rw[s];by_cases h2:y∈g.I;have q:=λX=>S5 (G:=G) (h.app (X:=X)) w y h2;generalize(g.nd y).o=b at *
 simp only[go_sem,aD,eB,jC,dM,Id.A_def];apply cI (z _);simp only[go_sem,aR,dH,dD,eB,jC,dM,undef,P1];apply cI (q _);simp only[go_sem,i,t,eB,jC,dM,undef,aH];have q:=λX=>MW (G:=G) (h.app (X:=X)) y h2;simp only[go_sem,aD,eB,jC,dM,Id.A_def];apply cI (z _);simp only[go_sem,aR,dH,dD,eB,jC,dM,undef,P1];apply cI (q _);simp only[go_sem,i,t,eB,jC,dM,undef,aH,P1]
end
end Hud
