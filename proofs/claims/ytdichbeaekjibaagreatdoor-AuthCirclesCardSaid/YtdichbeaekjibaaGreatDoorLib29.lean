import Derived.Test.YtdichbeaekjibaaGreatDoorLib28
set_option linter.all false
set_option maxHeartbeats 40000000
namespace Hud
open Go
def LA{g:PGM}{V W:D_}(h:∀x,x∈V↔x∈W)(row:D_):mW g V row=mW g W row:=by unfold mW;congr 1;grind[iS]
theorem BR{V:D_}{x y:Id}:x∈AQ V y↔x∈V\/x=y:=by grind[AQ]
def PK{V W:D_}(h:∀x,x∈V↔x∈W)(y:Id):∀x,x∈AQ V y↔x∈AQ W y:=λx=>by rw[BR,BR,h]
def Fs{p:Id->Bool}:∀(row V W:D_),(∀x,x∈V↔x∈W)->∀x,x∈row.foldl (λV y=>if p y=true then AQ V y else V) V↔x∈row.foldl (λV y=>if p y=true then AQ V y else V) W|[],_,_,h=>h|y::row,V,W,h=>by rw[CW,CW];apply Fs row _ _;split;exact PK h y;exact h
def Ft{g:PGM}{row:D_}{S:List (Int×Int)}:∀(n:Nat)(V W left:D_),(∀x,x∈V↔x∈W)->∀x,x∈uL g row S n V left↔x∈uL g row S n W left
 |0,_,_,_,h=>h
 | n+1,V,W,left,h=>by
  have a:left.filter (λx=>!decide (x∈V))=left.filter λx=>!decide (x∈W):=List.filter_congr λx _=>by simp only[h]
  rw[uL,uL,a,LA h];dsimp only;split;exact h;split;exact Ft n _ _ _ (Fs (p:=λy=>aBF g _ y||(decide (y∈_)&&B7 g row _ y)) row V W h);exact Ft n _ _ _ (PK h _)
def Xw{g:PGM}{row V W:D_}(h:∀x,x∈V↔x∈W):∀x,x∈sU g row V↔x∈sU g row W:=Ft _ _ _ _ h
def zH(l:D_):D_:=l.filter (B8 l)
def kW(g:PGM)(l:D_):D_:=mW g (sU g (eO g l) (zH l)) (eO g l)
def Rc{l V:D_}(h:∀x,x∈V↔x∈l/\B8 l x=true):∀x,x∈V↔x∈zH l:=λx=>by rw[h,zH,aBD]
def PL{g:PGM}{l V:D_}(h:∀x,x∈V↔x∈l/\B8 l x=true):mW g (sU g (eO g l) V) (eO g l)=kW g l:=LA (Xw (Rc h)) _
def aGq{g:PGM}{l V:D_}(h:∀x,x∈V↔x∈l/\B8 l x=true)(x:Id):Gk g l V x=Gk g l (zH l) x:=by unfold Gk;rw[PL h];have h1:mW g (sU g (eO g l) (zH l)) (eO g l)=kW g l:=rfl;rw[h1];simp only[Rc h]
section
variable{G:L_}{T:aK}{p:Nat×Nat×Nat}{g:PGM}
def Vj(j:AK G)(h:GAt T p g)(f:GGood g){l:D_}(c:∀x∈l,x∈g.I)(e:l.Nodup):
 aA PQ G pN [.ptr p.1 0,ids l] T λr a=>r=ids (kW g l)/\a=T :=
 (aEN j (aEP G) h f c e).mono λr a ⟨⟨V,i,d⟩,b⟩=>⟨by rw[d,PL i],b⟩
def aHg(j:AK G)(h:GAt T p g)(f:GGood g){l:D_}(c:∀x∈l,x∈g.I)(e:l.Nodup)(x:Id):
 aA PQ G wB [.ptr p.1 0,ids l,.ag x.A] T λr a=>r=iv (Gk g l (zH l) x)/\a=T :=
 (aKN j (aEP G) h f c e x).mono λr a ⟨⟨V,i,d⟩,b⟩=>⟨by rw[d,aGq i],b⟩
def aOU(j:AK G)(h:GAt T p g)(f:GGood g){l:D_}(d:∀x∈l,x∈g.I)(e:l.Nodup):
 aA PQ G aGd [.ptr p.1 0,ids l] T λy b=>∃s:RP,y=.ptr s.root 0/\Above T b s (aJ7 g (kW g l)):=
 (aOT j (aEP G) h f d e).mono λy b ⟨V,s,i,c,a⟩=>⟨s,c,by rw[PL i]at a;exact a⟩
end
def sgF(o:OpM):OpM:={o with SR:=Xf PP 64 37 (vX (AG vW o.By.toNat) o.B) 1%PP,SS:=(vX (AG vW o.By.toNat) o.B+He (I8 (Xf PP 64 37 (vX (AG vW o.By.toNat) o.B) 1%PP) (Xf PP 64 37 (AG vW o.By.toNat) 1%PP) o.B).val (AG vW o.By.toNat))%lT}
def aOy(g:GM)(p:OpM):Option GM :=
 let o:=sgF p
 let c:=gM g.Cards o.By
 let w:=BA g o
 if c.2=true/\c.1.Sign=Xf PP 64 37 (AG vW p.By.toNat) 1%PP/\jB o=0/\aW g.I (C7 o)=-1/\g.L.length<200/\(o.Kind==1)=false/\w.1=0 then
  some ⟨g.Cards,g.L++[o],g.I++[C7 o],g.Up++[w.2],(g.In.map λr=>r++[false])++[oL g w.2++[false]]⟩
 else none
def aOz{g a:GM}{p:OpM}(h:aOy g p=some a):addM g (cM p)=(a,0):=by
 unfold aOy at h;dsimp only at h;split at h;rename_i c;obtain⟨c1,c2,c3,c4,c5,c6,d⟩:=c;have b:((sgF p).Kind==1&&decide (0<g.L.length))=false:=by rw[c6];rfl
 refine KX (o:=sgF p) (c:=(gM g.Cards (sgF p).By).1) (up:=(BA g (sgF p)).2) (wL p) (Prod.ext rfl c1) ?_ c3 c4 c5 b (Prod.ext d rfl) (Option.some.inj h);rw[c2,PH _ (lG _ _)];simp at h
def fBh(g:GM)(o:OpM)(u:Nat):Option GM:=aOy g (Xi g o [u])
def aIz{g a:GM}{o:OpM}{u:Nat}(h:fBh g o u=some a):bhM g o [u]=a:=Vb rfl (aOz h)
def opD(b k d m:Int):OpM:=⟨b,0,k,0,[],d,0,m,0,[],⟨0,0,0⟩,0,[],[],⟨0,0,0⟩,[],0,0,[],0,[],0,0⟩
def aM4(a b:Int)(k:Nat):OpM:=if k%2=1 then opD a 3 0 b else opD a 3 b 0
def aM5(a b:Int)(k:Nat):OpM:=if k/2=1 then opD b 3 0 a else opD b 3 a 0
def aM6(f:Bool):Nat:=if f=true then 4 else 5
def cir(a b:Int)(k:Nat)(f:Bool):Option (GM×GM×GM×GM):=
 (fBh lG4 (if f=true then aM4 a b k else aM5 a b k) 3).bind λe=>(fBh e (if f=true then aM5 a b k else aM4 a b k) 3).bind λd=>
  (fBh d (opD a 4 0 0) (aM6 f)).bind λc=>(fBh c (opD b 4 0 0) (9-aM6 f)).bind λg=>some (e,d,c,g)
def aM7(g:PGM)(x:Id):D_->D_|[]=>[x]|y::l=>if P0 g y x=true then y::aM7 g x l else x::y::l
def aJL(g:PGM):D_->D_|[]=>[]|x::l=>aM7 g x (aJL g l)
def aJd{g:PGM}{x:Id}:∀l,(aM7 g x l).Perm (x::l)|[]=>.refl _|y::l=>by unfold aM7;split;exact((aJd l).cons y).trans (.swap ..);exact .refl _
def aKH{g:PGM}:∀l,(aJL g l).Perm l|[]=>.refl _|x::l=>(aJd _).trans ((aKH l).cons x)
def aJu{g:PGM}{x:Id}:∀l,l.Pairwise (λx y=>P0 g y x=false)->(aM7 g x l).Pairwise λx y=>P0 g y x=false
 |[],_=>by simp[aM7]
 | y::l,h=>by
  unfold aM7;rw[H5]at h;split;rename_i c;rw[H5];refine⟨λz a=>?_,aJu l h.2⟩;rcases cS.1 ((aJd l).mem_iff.1 a) with rfl|a;exact aAX c;exact h.1 z a;rename_i c;have b:P0 g y x=false:=by simpa using c
  rw[H5,H5];refine⟨λz a=>?_,h⟩;rcases cS.1 a with rfl|a;exact b;exact XE b (h.1 z a)
def aJE{g:PGM}:∀l,(aJL g l).Pairwise λx y=>P0 g y x=false|[]=>.nil|x::l=>aJu _ (aJE l)
def aNL(g:PGM)(l:D_):eO g l=aJL g l:=aET ((mE g l).trans (aKH l).symm) (U4 g l) (aJE l)
def aLU(g:PGM)(l:D_):D_:=mW g (uL g (aJL g l) (Xu 0 ((aJL g (aJL g l)).foldl (kV g) []) (KZ g.cards)) (aJL g l).length (zH l) ((aJL g l).filter λx=>jM (g.nd x).o)) (aJL g l)
def aOA(g:PGM)(l:D_):kW g l=aLU g l:=by unfold kW sU aBt BQ aLU;simp only[aNL]
def pF(L:List OpM):PGM:=L.foldl Xp (lQ 0)
def aOL{g:GM}(a:Reach bQ g):AM bQ g.L=pF g.L:=by
 have b:=(a.good rY).all;have c:=a.checked;have h:∀i,i<=g.L.length->AM bQ (g.L.take i)=pF (g.L.take i):=by
  intro i
  induction i with
  |zero=>intro _;exact lQ0|succ i ih=>
   intro d;rw[lB o_];have e:=pO1 (ih o_) (b i o_) (c _ (eQ _)) rfl;rw[e,pF,pF,Hy];rfl
 have:=h g.L.length (cN _);rwa[dE]at this
def aLV(a b:Int)(k:Nat)(f:Bool):Bool:=match cir a b k f with
 |none=>false
 | some (_,_,_,g)=>
  g.I.length==8&&decide (g.I.getD (aM6 f) default∈aLU (pF g.L) g.I)&&!decide (g.I.getD (9-aM6 f) default∈aLU (pF g.L) g.I) &&
   decide (a∈(aJ7 (pF g.L) (aLU (pF g.L) g.I)).In)&&!decide (b∈(aJ7 (pF g.L) (aLU (pF g.L) g.I)).In)&&decide (g.I.getD 6 default∈aLU (pF g.L) g.I)&&!decide (g.I.getD 7 default∈aLU (pF g.L) g.I)
def prA:Nat->Int|2=>2|_=>1
def prB:Nat->Int|0=>2|_=>3
def aOB:((List.range 3).all λi=>(List.range 4).all λk=>aLV (prA i) (prB i) k true&&aLV (prA i) (prB i) k false)=true:=s_
def aOX{i k:Nat}(b:i<3)(a:k<4)(f:Bool):aLV (prA i) (prB i) k f=true:=by have h:=aBE.1 (aBE.1 aOB i (uM.2 b)) k (uM.2 a);rw[zJ]at h;cases f;exact h.2;exact h.1
section
open W
def aID:cF aEV []=some ⟨156,[(6,none)],S [R0 6 1 [M F],R0 18 4 [q2 [z0,z0] w1 w2,q2 [z0,z0] w1 w3,q2 [z0,z0] w2 w3,A 7 (x (.bsl 2 [z0,z0,z0,z0,z0,z0] [(0,(2,zt 18)),(2,(2,zt 19)),(4,(2,zt 20))] 3))],R0 22 6 [i 2 v7 (c2 uV v0 w3),A 8 (l (x (.iadA (zt 25) (zw 0) 2 1)))],R 28 6 [7,0] [i 2 v7 (c2 uV v0 w3),A 9 (l (x (.iadA (zt 31) (zw 1) 2 1)))],R0 34 1 [c0 HM,J 10 (s 5 (al zS5) (t 34))],R0 35 3 [v8,v9,x (.bld zO [(0,(1,zt 35)),(2,(1,zw 3)),(5,(1,zt 36))]),J 11 (s 27 (al zO) (t 37))],R0 38 3 [v9,v8,x (.bld zO [(0,(1,zt 38)),(2,(1,zw 3)),(5,(1,zt 39))]),J 12 (s 27 (al zO) (t 40))],R 41 2 [1] [A 13 (c2 uV v1 (w 4))],S [R0 43 2 [eq (rm v13 w2) w1],If 45 [] (S [R0 46 1 [s 1 (f 5 (t 11)) w0],R0 47 2 [v9,s 1 (f 7 (t 11)) (t 47)]])],S [R 49 2 [13] [eq (qu v13 w2) w1],If 51 [] (S [R0 52 1 [s 1 (f 5 (t 12)) w0],R0 53 2 [v8,s 1 (f 7 (t 12)) (t 53)]])],E0 [A 14 (w 4)],S [R 0 0 [2] [A 55 t2],Ie 55 [] (S [R 56 4 [11] [s 5 (t 10) (c3 rN (L 5 (t 10)) (L 27 (t 11)) (ba 1 [z0] w3))],R 60 4 [12] [s 5 (t 10) (c3 rN (L 5 (t 10)) (L 27 (t 12)) (ba 1 [z0] w3))]]) [14] (S [R 64 4 [12] [s 5 (t 10) (c3 rN (L 5 (t 10)) (L 27 (t 12)) (ba 1 [z0] w3))],R 68 4 [11] [s 5 (t 10) (c3 rN (L 5 (t 10)) (L 27 (t 11)) (ba 1 [z0] w3))],E0 [A 14 (w 5)]])],R0 72 6 [L 5 (t 10),v8,s 5 (t 10) (c3 rN (t 72) (x (.bld zO [(0,(1,zt 73)),(2,(1,zw 4))])) (ba 1 [z0] v14))],R0 78 7 [L 5 (t 10),v9,s 5 (t 10) (c3 rN (t 78) (x (.bld zO [(0,(1,zt 79)),(2,(1,zw 4))])) (ba 1 [z0] (sb (w 9) v14)))],D 85 4 [] [A 15 (c2 xO (L 5 (t 10)) (K [zv 85 5 10] (c1 zQ (L 5 (t 10)))))],S [R0 89 7 [v15,O (x (.nilS false 0 (zt 89))) (ne (n (l (f 2 (t 10)))) (w 8))],If 96 [15,10,14,8,9] (S [E0 [A 6 F],.ret])],R0 97 4 [A 16 (c2 pN v15 (l (f 2 (t 10))))],R 101 4 [15] [A 17 (c2 aGd v15 (l (f 2 (t 10))))],S [R0 105 1 [v17,x (.nilS false 0 (zt 105))],If 106 [16,10,14,17,8,9] (S [E0 [A 6 F],.ret])],R 107 49 [16,10,14,17,8,9] [A 6 (N (N (N (N (N (N (c2 oK v16 (L 3 (i 3 (l (f 2 (t 10))) v14))) (o (c2 oK v16 (L 3 (i 3 (l (f 2 (t 10))) (sb (w 9) v14)))))) (c2 aEQ v17 v8)) (o (c2 aEQ v17 v9))) (c2 oK v16 (L 3 (i 3 (l (f 2 (t 10))) (w 6))))) (o (c2 oK v16 (L 3 (i 3 (l (f 2 (t 10))) (w 7)))))) (c0 Ey))],.ret]⟩:=s_
end
def aKP:eO (lQ 6) BP.I=BP.I:=by unfold eO;exact List.mergeSort_of_pairwise oh
def aKQ(g:PGM)(l:D_):D_:=mW g (uL g l (Xu 0 (l.foldl (kV g) []) (KZ g.cards)) l.length (zH l) (l.filter λx=>jM (g.nd x).o)) l
def aGr{g:PGM}{l:D_}(h:eO g l=l):kW g l=aKQ g l:=by unfold kW sU aBt BQ aKQ;simp only[h]
def aHh:kW (lQ 6) BP.I=Za.I:=(aGr aKP).trans s_
def aKR:Gk (lQ 6) BP.I (zH BP.I) lI6=15:=by unfold Gk;have h:mW (lQ 6) (sU (lQ 6) (eO (lQ 6) BP.I) (zH BP.I)) (eO (lQ 6) BP.I)=Za.I:=aHh;rw[h];decide +kernel
section
variable{G:L_}
def aIS(e:AK G):LivesP G:=by
 have c:=lR6.ggood rY JP;have hI:(AM bQ BP.L).I=BP.I:=by rw[Zb];rfl
 have a:∀x∈BP.I,x∈(AM bQ BP.L).I:=λx f=>by rw[hI];exact f
 have b:BP.I.Nodup:=oh;have d:GAt (TG 0 (AM bQ BP.L)) (0,1,2) (AM bQ BP.L):=⟨rfl,rfl,rfl,d_,d_,d_⟩
 have h1:=Vj e d c a b;have h2:=aHg e d c a b lI6;have h:kW (AM bQ BP.L) BP.I=Za.I:=by rw[Zb];exact aHh
 have g:Gk (AM bQ BP.L) BP.I (zH BP.I) lI6=15:=by rw[Zb];exact aKR
 rw[h]at h1;rw[g]at h2;exact⟨h1,h2,by rw[Zb];kernel_rfl⟩
end
def aJ5{b k d m:Int}(h1:mZ b)(h3:mZ k)(h4:mZ d)(h5:mZ m):(opD b k d m).ok:=by
 have z:mZ 0:=⟨d_,d_⟩
 refine⟨?_,?_,id0,id0,⟨ke,ke⟩,aGb,xC,⟨ke,ke⟩,⟨ke,ke⟩,⟨ke,ke⟩,⟨ke,ke⟩⟩;simp_all[opD,cS,pP];grind[opD]
structure Cir(X Y:OpM)(a b:Int)(s:Nat)(f:Bool)(g5 g6 g7 g8:GM):Prop where
 h5:bhM lG4 (if f=true then X else Y) [3]=g5
 h6:bhM g5 (if f=true then Y else X) [3]=g6
 h7:bhM g6 (opD a 4 0 0) [s]=g7
 h8:bhM g7 (opD b 4 0 0) [9-s]=g8
 n:g8.I.length=8
 c1:g8.I.getD s default∈kW (AM bQ g8.L) g8.I
 c2:g8.I.getD (9-s) default∉kW (AM bQ g8.L) g8.I
 c3:a∈(aJ7 (AM bQ g8.L) (kW (AM bQ g8.L) g8.I)).In
 c4:b∉(aJ7 (AM bQ g8.L) (kW (AM bQ g8.L) g8.I)).In
 c5:g8.I.getD 6 default∈kW (AM bQ g8.L) g8.I
 c6:g8.I.getD 7 default∉kW (AM bQ g8.L) g8.I
 r5:Reach bQ g5
 r6:Reach bQ g6
 r7:Reach bQ g7
 r8:Reach bQ g8
def aOC{a b:Int}{k:Nat}{f:Bool}(J:1<=a/\a<=3/\1<=b/\b<=3)(h:aLV a b k f=true):∃y x w E,Cir (aM4 a b k) (aM5 a b k) a b (aM6 f) f y x w E:=by
 unfold aLV at h;split at h;simp at h;rename_i y x w g e;unfold cir at e;simp only[Option.bind_eq_some_iff,E_,Prod.mk.injEq]at e;obtain⟨o,I,m,H,l,G,j,F,rfl,rfl,rfl,rfl⟩:=e;have t:mZ a:=⟨o_,o_⟩
 have s:mZ b:=⟨o_,o_⟩
 have z:mZ 0:=⟨d_,d_⟩
 have v:mZ 3:=⟨d_,d_⟩
 have u:mZ 4:=⟨d_,d_⟩
 have r:(aM4 a b k).ok:=by unfold aM4;split<;>exact aJ5 t v (by assumption) (by assumption)
 have q:(aM5 a b k).ok:=by unfold aM5;split<;>exact aJ5 s v (by assumption) (by assumption)
 have D:=aIz I;have C:=aIz H;have B:=aIz G;have A:=aIz F;have i:Reach bQ o:=D ▸ Fr lR4 lR4.hyp6.1 (by split;exact r;exact q) _ (GR lR4 _);have d:Reach bQ m:=C ▸ Fr i i.hyp6.1 (by split;exact q;exact r) _ (GR i _);have c:Reach bQ l:=B ▸ Fr d d.hyp6.1 (aJ5 t u z z) _ (GR d _);have p:Reach bQ j:=A ▸ Fr c c.hyp6.1 (aJ5 s u z z) _ (GR c _);simp only[zJ,beq_iff_eq,decide_eq_true_eq,EX,decide_eq_false_iff_not,<-aOA,<-aOL p]at h;obtain⟨⟨⟨⟨⟨⟨n,c1⟩,c2⟩,c3⟩,c4⟩,c5⟩,c6⟩:=h;exact⟨o,m,l,j,D,C,B,A,n,c1,c2,c3,c4,c5,c6,i,d,c,p⟩
def aJe{g a:GM}{o:OpM}{U:V_}(h:bhM g o U=a):a.I.length<=g.I.length+1:=by rw[<-h,bhM];unfold addM;split;simp;simp
section
variable{G:L_}
def aKI{g e:GM}(a:Reach bQ g){b k d m:Int}(c:0<=b/\b<=1000)(l:0<=k/\k<=1000)(p:0<=d/\d<=1000)(j:0<=m/\m<=1000)(u:Nat)(f:u<g.I.length)(o:bhM g (opD b k d m) [u]=e):
 aA PQ G rN [.ag g.A,.ag (gD (opD b k d m) dK dK dK dK dK),.ls 1 [[iv u]]] [] λr T=>r=.ag e.A/\T=[]:=by
 obtain⟨n,_,i,_⟩:=a.hyp6;have h:=aEy (G:=G) g n i _ (aJ5 (okL c) (okL l) (okL p) (okL j)) c.1 [u] aj k_ (GR a _);rw[o]at h;exact h
end
def Rd{p:Id->Bool}:∀(row V:D_)(y:Id),y∈row.foldl (λV y=>if p y=true then AQ V y else V) V↔y∈V\/(y∈row/\p y=true)|[],V,y=>by simp|z::row,V,y=>by rw[CW,Rd row];split<;>grind[BR]
def Vk{g:PGM}{V:D_}{x:Id}:∀(row out:D_),x∈row.foldl (iS g V) out->x∈out\/(x∈row/\x∉V)|[],_,h=>.inl h|z::row,out,h=>by rcases Vk row _ h with h|h;grind[iS];simp_all
def Ac{g:PGM}{V row:D_}{x:Id}(h:x∈mW g V row):x∈row/\x∉V:=by simpa using Vk row [] h
def Reach.nd{cs:List CardM}(j:cardsOk cs){g:GM}(h:Reach cs g):g.I.Nodup:=by
 induction h with
 |new=>exact Mm| @add g o f i d ih=>
  by_cases h:(dV g o).1=0;rotate_left;grind[addM];have a:=Ff h;rw[yE a h,vQ];refine⟨ih,k_,?_⟩;intro x c y b e;rw[cA.1 b]at e;exact a.twice ((Cz g.I _).2 (e ▸ c))
section
variable{G:L_}
end
end Hud
