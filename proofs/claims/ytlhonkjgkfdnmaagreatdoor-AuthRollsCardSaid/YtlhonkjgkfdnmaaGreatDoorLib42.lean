import Derived.Test.YtlhonkjgkfdnmaaGreatDoorLib40
set_option linter.all false
set_option maxHeartbeats 40000000
namespace Hud
open Go
def lGi:Nat->GM|0=>lG1|1=>lG2|2=>lG3|_=>lG4
def lRi(i:Nat):Reach bQ (lGi i):=by unfold lGi;split;exact lR1;exact lR2;exact lR3;exact lR4
def lBi(i:Nat)(a:i<3):bhM (lGi i) (G3 1 0 2 ((i+2:Nat):Int) 3 0) [i]=lGi (i+1):=by rcases(o_:i=0\/i=1\/i=2) with rfl|rfl|rfl;exact lB2;exact lB3;exact lB4
def lIi(i:Nat)(a:i<3):i<(lGi i).I.length:=by rcases(o_:i=0\/i=1\/i=2) with rfl|rfl|rfl<;>decide
def okL{n:Int}(h:0<=n/\n<=1000):mZ n:=⟨o_,o_⟩
section
variable{G:L_}
def aEA{g e:GM}(a:Reach bQ g){b k d rl:Int}(c:0<=b/\b<=1000)(l:0<=k/\k<=1000)(o:0<=d/\d<=1000)(j:0<=rl/\rl<=1000)(u:Nat)(f:u<g.I.length)(n:bhM g (G3 b 0 k d rl 0) [u]=e):
 aA PQ G rN [.ag g.A,.ag (gD (G3 b 0 k d rl 0) dK dK dK dK dK),.ls 1 [[iv u]]] [] λr T=>r=.ag e.A/\T=[]:=by
 obtain⟨m,_,i,_⟩:=a.hyp6;have h:=aEy (G:=G) g m i _ (GS (okL c) (okL l) (okL o) (okL j)) c.1 [u] ko s_ (GR a _);rw[n]at h;exact h
def aIH:aA PQ G HM [] [] λr T=>r=.ag lG4.A/\T=[]:=by
 apply aC P4;have c:=OX (G:=G) (G3 1 1 1 0 0 0) (Hs ⟨d_,d_⟩ ⟨d_,d_⟩ ⟨d_,d_⟩ ⟨d_,d_⟩ ⟨d_,d_⟩ ⟨d_,d_⟩) d_;have a:aA PQ G jK [.ag (gD (G3 1 1 1 0 0 0) dK dK dK dK dK)] [] λr T=>r=.ag PI.A/\T=[]:=by rw[<-lS1];exact aA.asub c (by simp only[pL];rfl)
 have l:aA PQ G mA [.ag lG0.A,.ag PI.A] [] λr T=>r=.tup [.ag lG1.A,iv 0]/\T=[]:=by
  have g:Reach bQ lG0:=by rw[lG0,<-C5];exact Reach.new
  have h:=So (G:=G) lG0 (cM lP1) g.hyp6.1 (BM (Hs (b:=1) (sq:=1) (k:=1) (d:=0) (rl:=0) (nd:=0) ⟨d_,d_⟩ ⟨d_,d_⟩ ⟨d_,d_⟩ ⟨d_,d_⟩ ⟨d_,d_⟩ ⟨d_,d_⟩));rw[lA1,lS1]at h;exact h
 simp only[go_sem];apply cX aP7;simp only[go_sem];apply cX VY;simp only[go_sem];apply cX ZW;simp only[go_sem];rw[C5,show(⟨qB,[],[],[],[]⟩:GM)=lG0 from rfl];apply cX a;simp only[go_sem];apply cX l;simp only[go_sem];refine aQ 3 (λi=>⟨0,[(0,.ptr 0 0),(1,.ptr 1 0),(2,iv (i+2:Nat))],[some (.box z5),some (.box (lGi i).A)]⟩) (λ_=>True) ?_ trivial ?_ ?_;simp only[go_sem,z5];rfl;intro i e _;have m:decide (((i+2:Nat):Int)<5)=true:=decide_eq_true o_;have w2:IntKind.i64.wrap (((i+2:Nat):Int)-2)=(i:Int):=k_;have w1:IntKind.i64.wrap (((i+2:Nat):Int)+1)=((i+1+2:Nat):Int):=k_;have j:=aEA (G:=G) (lRi i) (b:=1) (k:=2) (d:=((i+2:Nat):Int)) (rl:=3) d_ d_ o_ d_ i (lIi i e) (lBi i e);generalize lGi (i+1)=n at *
 generalize lGi i=f at *
 generalize((i+2:Nat):Int)=d at *
 simp only[go_sem,z5,m,w2];apply Sb [2] [0] (aB _) (args3:=[.ag f.A,.ag (gD (G3 1 0 2 d 3 0) dK dK dK dK dK),.ls 1 [[iv i]]]) d_ s_ rfl rfl (by simp only[go_sem];rfl) rfl m_ j m_;simp only[go_sem,z5,w1,show f.A.drop 5=[] from rfl];intro _;simp only[go_sem,z5];rfl
def RS(j:GK G){g:GM}(f:Reach bQ g):aA PQ G xO [.ag g.A,rG ((List.range g.L.length).map λ(i:Nat)=>(i:Int))] [] λr T=>r=.ptr 0 0/\T=TG 0 (AM bQ g.L):=by
 have c:=f.good rY;have a:=c.cards;have e:∀i,i<=g.L.length->KV g ((List.range g.L.length).take i)=g.L.take i:=by
  intro i b;refine Ki (by simp[KV]) λk h1 h2=>?_;simp only[KV,zL,List.getElem_take,List.getElem_range];have:k<g.L.length:=by simp at h2;omega
  rw[rH,jN this];rfl
 have d:=e g.L.length (cN _);rw[sG s_,dE]at d
 have h:=aGe (G:=G) j g c.ok (by rw[a];exact rY) c.ids (List.range g.L.length) (λi b=>uM.1 b) (by rw[QK];have:=c.n;omega) (λi b=>by
  rw[QK]at b;rw[e i o_,a,List.getElem_range,rH,jN b]
  exact c.all i b)
 rw[d,a]at h;exact h
structure LivesP(G:Nat->Option (List AV)):Prop where
 counts:aA PQ G pN [.ptr 0 0,ids BP.I] (TG 0 (AM bQ BP.L)) λr T=>r=ids Za.I/\T=TG 0 (AM bQ BP.L)
 why:aA PQ G wB [.ptr 0 0,ids BP.I,.ag lI6.A] (TG 0 (AM bQ BP.L)) λr T=>r=iv 15/\T=TG 0 (AM bQ BP.L)
 kill:lA (AM bQ BP.L) lI5 lI6=true
def aBl(m:GK G)(l:LivesP G):aA PQ G Ey [] [] λr T=>r=.v (.bool true)/\T=[]:=by
 have q:=aEA (G:=G) lR4 (b:=1) (k:=3) (d:=2) (rl:=0) d_ d_ d_ d_ 3 d_ lB5;have o:=aEA (G:=G) lR5 (b:=2) (k:=3) (d:=1) (rl:=0) d_ d_ d_ d_ 3 d_ lB6;apply aC Oq;simp only[go_sem];apply cX aIH;simp only[go_sem];apply Sb [1] [0] (aB _) (args3:=[.ag lG4.A,.ag (gD (G3 1 0 3 2 0 0) dK dK dK dK dK),.ls 1 [[iv 3]]]) d_ s_ rfl rfl (by simp only[go_sem];rfl) rfl m_ q m_;simp only[go_sem,show lG4.A.drop 5=[] from rfl];apply Sb [2] [0] (aB _) (args3:=[.ag Za.A,.ag (gD (G3 2 0 3 1 0 0) dK dK dK dK dK),.ls 1 [[iv 3]]]) d_ s_ rfl rfl (by simp only[go_sem];rfl) rfl m_ o m_;simp only[go_sem,show Za.A.drop 5=[] from rfl];apply cX (VZ BP lR6.hyp6.1);simp only[go_sem];apply kM (RS m lR6);simp only[go_sem,TG,MG];have g:BP.I.length=6:=rfl;simp only[go_sem,aP,g];obtain⟨n,j,a⟩:=l;have c:=λ(p:Nat×Nat×Nat)(T:aK)(h:GAt T p (AM bQ BP.L))(x y:Id)=>GQ (G:=G) h (lR6.ggood rY JP).ok x y;have e:aA PQ G mI [.ptr 0 0,.ag lI5.A,.ag lI6.A] (TG 0 (AM bQ BP.L)) λr T=>r=.v (.bool true)/\T=TG 0 (AM bQ BP.L):=by have h:=c (0,1,2) (TG 0 (AM bQ BP.L)) ⟨rfl,rfl,rfl,d_,d_,d_⟩ lI5 lI6;rw[a]at h;exact h
 clear a c;generalize AM bQ BP.L=p at *
 have s:(BP.I.map Id.A)[4]?=some lI5.A:=rfl;have f:(BP.I.map Id.A)[5]?=some lI6.A:=rfl;have t5:(BP.I.map Id.A).take 5=Za.I.map Id.A:=rfl;apply aG (T2:=TG 0 p) [3,4,5] (aB _) d_ s_ rfl y_ n;rintro r i ⟨rfl,rfl⟩;simp only[go_sem,TG,MG,g,aP,t5];apply cX (Pr Za.I Za.I d_);simp only[go_sem,decide_true,s,f];apply aG (T2:=TG 0 p) [3,4,5] (aB _) d_ s_ rfl y_ e;rintro r i ⟨rfl,rfl⟩;simp only[go_sem,TG,MG,f];apply aG (T2:=TG 0 p) [3,4,5] (aB _) d_ s_ rfl y_ j;rintro r i ⟨rfl,rfl⟩;simp only[go_sem,TG,MG]
end
def aII{g:PGM}{o:OpM}(h:(sR g o).2=0)(a:vF o=0):(sR g o).1=⟨g.cards,g.nodes++[⟨o,C7 o,BF g o,Fa g o.Past⟩]⟩:=by grind[sR,Oa,Q8]
def lQ:Nat->PGM|0=>⟨qB,[]⟩|1=>⟨qB,[⟨PI,ZZ,[0,0,0,0],1⟩]⟩|2=>⟨qB,[⟨PI,ZZ,[0,0,0,0],1⟩,⟨TQ,lI2,[1,0,0,0],2⟩]⟩|3=>⟨qB,[⟨PI,ZZ,[0,0,0,0],1⟩,⟨TQ,lI2,[1,0,0,0],2⟩,⟨Xo,lI3,[3,0,0,0],3⟩]⟩|4=>⟨qB,[⟨PI,ZZ,[0,0,0,0],1⟩,⟨TQ,lI2,[1,0,0,0],2⟩,⟨Xo,lI3,[3,0,0,0],3⟩,⟨lO4,lI4,[7,0,0,0],4⟩]⟩|5=>⟨qB,[⟨PI,ZZ,[0,0,0,0],1⟩,⟨TQ,lI2,[1,0,0,0],2⟩,⟨Xo,lI3,[3,0,0,0],3⟩,⟨lO4,lI4,[7,0,0,0],4⟩,⟨lO5,lI5,[15,0,0,0],5⟩]⟩|_=>⟨qB,[⟨PI,ZZ,[0,0,0,0],1⟩,⟨TQ,lI2,[1,0,0,0],2⟩,⟨Xo,lI3,[3,0,0,0],3⟩,⟨lO4,lI4,[7,0,0,0],4⟩,⟨lO5,lI5,[15,0,0,0],5⟩,⟨lO6,lI6,[15,0,0,0],5⟩]⟩
def Xp(g:PGM)(o:OpM):PGM:=⟨g.cards,g.nodes++[⟨o,C7 o,BF g o,Fa g o.Past⟩]⟩
def lQ1:Xp (lQ 0) PI=lQ 1:=g_
def lQ2:Xp (lQ 1) TQ=lQ 2:=g_
def lQ3:Xp (lQ 2) Xo=lQ 3:=g_
def lQ4:Xp (lQ 3) lO4=lQ 4:=g_
def lQ5:Xp (lQ 4) lO5=lQ 5:=g_
def lQ6:Xp (lQ 5) lO6=lQ 6:=g_
def lQ0:AM bQ []=lQ 0:=by show(⟨uE bQ,[]⟩:PGM)=lQ 0;rw[uE,List.mergeSort_of_pairwise (by rw[C5];decide),C5];rfl
def pO1{l:List OpM}{o:OpM}{g a:PGM}(h0:AM bQ l=g)(c:(sR (AM bQ l) o).2=0)(b:jB o=0)(h1:Xp g o=a):AM bQ (l++[o])=a:=by rw[MS,aII c ((Aq o).trans b),h0];exact h1
def Zb:AM bQ BP.L=lQ 6:=by have a:=(lR6.good rY).all;have b:=lR6.checked;have h:(sR (AM bQ []) PI).2=0:=a 0 d_;have g:(sR (AM bQ [PI]) TQ).2=0:=a 1 d_;have f:(sR (AM bQ [PI,TQ]) Xo).2=0:=a 2 d_;have e:(sR (AM bQ [PI,TQ,Xo]) lO4).2=0:=a 3 d_;have d:(sR (AM bQ [PI,TQ,Xo,lO4]) lO5).2=0:=a 4 d_;have c:(sR (AM bQ [PI,TQ,Xo,lO4,lO5]) lO6).2=0:=a 5 d_;have m:=pO1 lQ0 h (b PI (by simp[BP])) lQ1;have l:=pO1 m g (b TQ (by simp[BP])) lQ2;have k:=pO1 l f (b Xo (by simp[BP])) lQ3;have j:=pO1 k e (b lO4 (by simp[BP])) lQ4;have i:=pO1 j d (b lO5 (by simp[BP])) lQ5;exact pO1 i c (b lO6 (by simp[BP])) lQ6
def aGh:L_:=λg=>if g=1 then some lP else if g=0 then some (qY.map λn:Nat=>iv (n:Int)) else none
end Hud
