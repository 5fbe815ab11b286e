import Derived.Test.YtlhonkjgkfdnmaaGreatDoorLib32
set_option linter.all false
set_option maxHeartbeats 40000000
namespace Hud
open Go
variable{G:L_}
def aA.lift{P:Program}{G:L_}{f:FuncId}{args args2:O_}{T T2:aK}{R:AV}(L:V_)(d:L.Nodup)(m:∀i∈L,i<T.length)(j:xF L args=args2)(k:GX L T=T2)(g:IF L T.length T L T2=T)(l:gF R=[])
 (e:aA P G f args2 T2 λr a=>r=R/\a=T2):aA P G f args T λr a=>r=R/\a=T:=by
 have c:IG P G f args T λr a=>r=R/\a=T:=by refine⟨args,aB _,.inl ⟨L,d,m,?_⟩⟩;subst j k;apply e.mono;rintro r a ⟨rfl,rfl⟩;exact⟨Yo l,g⟩
 exact λh p w b n hI o=>Ei c n hI o
structure GAt(T:aK)(p:Nat×Nat×Nat)(g:PGM):Prop where
 a:T[p.1]?=some (some (.box [.ls 5 (g.cards.map CardM.A),.mp p.2.1,.own p.2.2]))
 b:T[p.2.1]?=some (some (MG g.I))
 c:T[p.2.2]?=some (some (.arr 35 (g.nodes.map ND.A)))
 n1:p.1≠p.2.1
 n2:p.1≠p.2.2
 n3:p.2.1≠p.2.2
def GAt.app{T X:aK}{p:Nat×Nat×Nat}{g:PGM}(h:GAt T p g):GAt (T++X) p g:=⟨aF h.a,aF h.b,aF h.c,h.n1,h.n2,h.n3⟩
def GAt.mono{T T':aK}{p:Nat×Nat×Nat}{g:PGM}(h:GAt T p g)(d:∀i,i=p.1\/i=p.2.1\/i=p.2.2->T'[i]?=T[i]?):GAt T' p g :=
 ⟨by rw[d _ (.inl rfl)];exact h.a,by rw[d _ (.inr (.inl rfl))];exact h.b,by rw[d _ (.inr (.inr rfl))];exact h.c,h.n1,h.n2,h.n3⟩
def gL(p:Nat×Nat×Nat):V_:=[p.1,p.2.1,p.2.2]
def JN{T:aK}{i:Nat}{o:Option AObj}(h:T[i]?=some o):T.set i o=T:=by obtain⟨a,rfl⟩:=sV.1 h;simp
def aHc{p:Nat×Nat×Nat}(c:p.1≠p.2.1)(b:p.1≠p.2.2)(a:p.2.1≠p.2.2):TO (gL p) p.1=some 0/\TO (gL p) p.2.1=some 1/\TO (gL p) p.2.2=some 2:=by grind[gL,TO,List.idxOf?]
section
variable{P:Program}{G:L_}{f:FuncId}{args args2:O_}{T:aK}{p:Nat×Nat×Nat}{g:PGM}{R:AV}
def GAt.nd(h:GAt T p g):(gL p).Nodup:=by simp[gL,h.n1,h.n2,h.n3]
def GAt.lt(h:GAt T p g):∀i∈gL p,i<T.length:=by intro i d;simp only[gL,cS,pP,or_false]at d;rcases d with rfl|rfl|rfl;exact(sV.1 h.a).1;exact(sV.1 h.b).1;exact(sV.1 h.c).1
def aIx(L:V_)(f:Nat->Int)(l:V_):xF L (l.map λi=>iv (f i))=l.map λi=>iv (f i):=yM (Eu λ_=>rfl)
def aIy(L:V_)(n:Nat)(f:Nat->Int)(l:V_):EJ L n (l.map λi=>iv (f i))=l.map λi=>iv (f i):=HJ (Eu λ_=>rfl)
def GAt.rn(h:GAt T p g):GX (gL p) T=TG 0 g:=by obtain⟨m,f,d⟩:=aHc h.n1 h.n2 h.n3;have l:=kU h.a;have k:=kU h.b;have j:=kU h.c;have e:GX (gL p) T=[p.1,p.2.1,p.2.2].map λi=>(cR T i).bind (YQ (gL p)):=rfl;rw[e];simp only[fG,uP,l,k,j,H6,YQ,MG,xF,Bd,f,d,TG,aIx,pQ]
def GAt.bk(h:GAt T p g):IF (gL p) T.length T (gL p) (TG 0 g)=T:=by
 have e:IF (gL p) T.length T (gL p) (TG 0 g)=((T.set p.1 (DC (gL p) T.length (some (.box [.ls 5 (g.cards.map CardM.A),.mp (0+1),.own (0+2)])))).set p.2.1 (DC (gL p) T.length (some (MG g.I)))).set p.2.2 (DC (gL p) T.length (some (.arr 35 (g.nodes.map ND.A)))):=rfl;rw[e];have i:DC (gL p) T.length (some (.box [.ls 5 (g.cards.map CardM.A),.mp (0+1),.own (0+2)]))=some (.box [.ls 5 (g.cards.map CardM.A),.mp p.2.1,.own p.2.2]):=Y_;have f:DC (gL p) T.length (some (MG g.I))=some (MG g.I):=by simp only[DC,MG,aIy]
 have d:DC (gL p) T.length (some (.arr 35 (g.nodes.map ND.A)))=some (.arr 35 (g.nodes.map ND.A)):=rfl;rw[i,f,d,JN h.a,JN h.b,JN h.c]
def GAt.lift(h:GAt T p g)(c:xF (gL p) args=args2)(d:gF R=[])(b:aA P G f args2 (TG 0 g) λr a=>r=R/\a=TG 0 g):aA P G f args T λr a=>r=R/\a=T :=
 aA.lift (gL p) h.nd h.lt c h.rn h.bk d b
def gL0(h:GAt T p g):TO (gL p) p.1=some 0:=(aHc h.n1 h.n2 h.n3).1
end
section
variable{T:aK}{p:Nat×Nat×Nat}{g:PGM}
def JO(h:GAt T p g)(a:g.ok)(x y:Id):aA PQ G eZ [.ptr p.1 0,.ag x.A,.ag y.A] T λr b=>r=.v (.bool (oH g x y))/\b=T :=
 h.lift ky rfl (aDR g a x y)
def S4(h:GAt T p g)(a:g.ok):aA PQ G kJ [.ptr p.1 0] T λr b=>r=.ls 5 (g.cards.map CardM.A)/\b=T :=
 h.lift (by simp only[xF,Bd,gL0 h]) rfl (aAZ g a)
def S5(h:GAt T p g)(b:g.ok)(x:Id)(a:x∈g.I):aA PQ G bY [.ptr p.1 0,.ag x.A] T λr c=>r=.tup [.ag (g.nd x).o.A,.v (.bool true)]/\c=T :=
 h.lift ky (by simp only[gF,iZ,OpM.ids0,jO]) (aDQ g b x a)
def MW(h:GAt T p g)(x:Id)(a:x∉g.I):aA PQ G bY [.ptr p.1 0,.ag x.A] T λr b=>r=.tup [.ag P1,.v (.bool false)]/\b=T :=
 h.lift ky rfl (aAY g x a)
def aQ4(h:GAt T p g)(a:g.ok)(d:Int):aA PQ G oQ [.ptr p.1 0,iv d] T λr b=>r=.tup [.ag (gM g.cards d).1.A,.v (.bool (gM g.cards d).2)]/\b=T :=
 h.lift (by simp only[xF,Bd,gL0 h]) (by simp only[gF,iZ,CardM.A_def,jO]) (ZI g d (by have:=a.cn;omega))
def aG9(h:GAt T p g)(c:g.ok)(l:D_)(a:l.Nodup)(b:l.length<=60000):aA PQ G mJ [.ptr p.1 0,ids l] T λr d=>r=ids (eO g l)/\d=T :=
 h.lift (by simp only[xF,Bd,gL0 h,ids]) rfl (ZK g c l a b)
def aIA(h:GAt T p g)(a:g.ok)(o:OpM)(d:Int):aA PQ G Bj [.ptr p.1 0,.ag o.A,iv d] T λr b=>r=.v (.bool (U6 g.cards o d))/\b=T :=
 h.lift (by simp only[xF,Bd,gL0 h,yM o.ids0]) rfl (aFS g a o d)
end
section
variable{T:aK}{p:Nat×Nat×Nat}{g:PGM}
def GQ (h:GAt T p g) (w:g.ok) (x y:Id):aA PQ G aFd [.ptr p.1 0,.ag x.A,.ag y.A] T λr C=>r=.v (.bool (lA g x y))/\C=T:=by
 apply eH Lb;have B:=λX x y=>JO (G:=G) (h.app (X:=X)) w x y;have u:=Id.beq x y;have i:∀{X:aK}{a b c d:Option AObj},(T++a::b::c::d::X)[T.length+3]?=some d:=by intros;simp
 have t:∀{X:aK}{a b c d e:Option AObj},(T++a::b::c::d::X).set (T.length+3) e=T++a::b::c::e::X:=by intros;simp
 by_cases h1:x∈g.I
 ·have z:=λX=>S5 (G:=G) (h.app (X:=X)) w x h1;by_cases h2:y∈g.I
  ·have q:=λX=>S5 (G:=G) (h.app (X:=X)) w y h2;have n:=λX=>aIA (G:=G) (h.app (X:=X)) w (g.nd x).o (g.nd y).o.By;have s:lA g x y=(!decide (x=y)&&(!oH g y x&&(!oH g x y&&Oh g.cards (g.nd x).o (g.nd y).o))):=by grind[lA]
   rw[s];clear s;generalize(g.nd x).o=a at *
   generalize(g.nd y).o=b at *
   simp only[go_sem,aD,eB,jC,dM,Id.A_def];apply cI (z _);simp only[go_sem,aR,dH,dD,eB,jC,dM];apply cI (q _);cases c1:decide (x=y);rotate_left;simp only[go_sem,aD,aR,i,t,eB,jC,dM,u,c1,undef,aH];simp only[go_sem,aD,aR,i,t,eB,jC,dM,u,c1];apply cI (B _ y x);cases c2:oH g y x;rotate_left;simp only[go_sem,undef,aH];simp only[go_sem,aD,aR,jC,dM];apply cI (B _ x y);cases c3:oH g x y;rotate_left;simp only[go_sem,aH];simp only[go_sem,dH];unfold Oh;have l:=Id.beq a.Of b.Of;have j:=Id.beq b.Of a.Of;cases D:(a.Kind==3);cases f:(a.Kind==13);cases k:(a.Kind==12);simp only[go_sem,f,k,aH];cases m:(b.Kind==13);simp only[go_sem,i,f,k,m,undef,aH];cases q2:decide (b.Of=a.Of);simp only[go_sem,dH,i,Id.A_def,f,k,m,q2,j,undef,aH];simp only[go_sem,dH,i,Id.A_def,f,k,m,q2,j,aH];cases m:(b.Kind==12);simp only[go_sem,dH,i,jC,dM,f,m,undef];apply cI (n _);simp only[go_sem,aH,sF,mF,Ea,lR,EI,Ed];cases q2:decide (a.Of=b.Of);simp only[go_sem,dH,i,jC,dM,Id.A_def,f,m,q2,l];apply cI (n _);simp only[go_sem,aH,sF,mF,Ea,EI,Ed];simp only[go_sem,dH,i,Id.A_def,f,m,q2,l,undef,aH];have f:(a.Kind==13)=false:=h_;simp only[go_sem,dH,i,jC,dM,f,undef];apply cI (n _);simp only[go_sem,aH,sF,mF,EI,Ed];rw[f];rfl
  have q:=λX=>MW (G:=G) (h.app (X:=X)) y h2;have s:lA g x y=false:=by grind[lA]
  rw[s];generalize(g.nd x).o=a at *
  simp only[go_sem,aD,eB,jC,dM,Id.A_def];apply cI (z _);simp only[go_sem,aR,dH,dD,eB,jC,dM,undef];apply cI (q _);simp only[go_sem,i,t,eB,jC,dM,undef,aH,P1]
 have z:=λX=>MW (G:=G) (h.app (X:=X)) x h1;have s:lA g x y=false:=by grind[lA]
 rw[s];by_cases h2:y∈g.I;have q:=λX=>S5 (G:=G) (h.app (X:=X)) w y h2;generalize(g.nd y).o=b at *
 simp only[go_sem,aD,eB,jC,dM,Id.A_def];apply cI (z _);simp only[go_sem,aR,dH,dD,eB,jC,dM,undef,P1];apply cI (q _);simp only[go_sem,i,t,eB,jC,dM,undef,aH];have q:=λX=>MW (G:=G) (h.app (X:=X)) y h2;simp only[go_sem,aD,eB,jC,dM,Id.A_def];apply cI (z _);simp only[go_sem,aR,dH,dD,eB,jC,dM,undef,P1];apply cI (q _);simp only[go_sem,i,t,eB,jC,dM,undef,aH,P1]
end
end Hud
