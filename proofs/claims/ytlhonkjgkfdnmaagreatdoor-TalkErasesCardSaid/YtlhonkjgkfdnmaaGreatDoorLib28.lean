import Derived.Test.YtlhonkjgkfdnmaaGreatDoorLib27
set_option linter.all false
set_option maxHeartbeats 40000000
namespace Hud
open Go
variable{G:L_}
def aDE(g:PGM)(l:D_)(r:AV)(T:aK):Prop:=(r=.own 0/\(l.filter λx=>!decide (x∈g.I))=l/\T=[some (.arr 3 (l.map Id.A)),some (.box [.ptr 2 0]),some (.box [.ls 5 (g.cards.map CardM.A),.mp 3,.own 4]),some (MG g.I),some (.arr 35 (g.nodes.map ND.A))]) \/
 ∃(L:D_)(n:Nat),n<=L.length/\L.length=l.length/\L.take n=(l.filter λx=>!decide (x∈g.I))/\r=.vw 0 3 0 n/\T=[some (.arr 3 (L.map Id.A)),some (.box [.ptr 2 0]),some (.box [.ls 5 (g.cards.map CardM.A),.mp 3,.own 4]),some (MG g.I),some (.arr 35 (g.nodes.map ND.A))]
def Sr(g:PGM)(l:D_)(d:l.length<=1000000):aA PQ G bB [.own 0,.cl dX [.ptr 1 0]] [some (.arr 3 (l.map Id.A)),some (.box [.ptr 2 0]),some (.box [.ls 5 (g.cards.map CardM.A),.mp 3,.own 4]),some (MG g.I),some (.arr 35 (g.nodes.map ND.A))] λr T=>
 ((r=iv (-1)/\∀x∈l,x∉g.I)\/(∃j:Nat,j<l.length/\r=iv j/\(∀x∈l.take j,x∉g.I)/\∃h:j<l.length,l[j]∈g.I))/\T=[some (.arr 3 (l.map Id.A)),some (.box [.ptr 2 0]),some (.box [.ls 5 (g.cards.map CardM.A),.mp 3,.own 4]),some (MG g.I),some (.arr 35 (g.nodes.map ND.A))]:=by
 apply aC cJ;simp only[go_sem,MG,aP];refine aQ l.length (λi=>⟨5,[(0,.own 0),(1,.cl dX [.ptr 1 0]),(7,iv l.length),(8,iv i)],[some (.arr 3 (l.map Id.A)),some (.box [.ptr 2 0]),some (.box [.ls 5 (g.cards.map CardM.A),.mp 3,.own 4]),some (MG g.I),some (.arr 35 (g.nodes.map ND.A))]⟩) (λi=>∀x∈l.take i,x∉g.I) ?_ s_ ?_ ?_;simp only[go_sem,MG];intro i a b;simp only[go_sem,MG,aP,aT a,a,aO Id.A l i a,Id.A_def];apply aG [1,2,3,4] (aB _) d_ s_ rfl y_ (Q5 g l[i]);rintro r e ⟨rfl,rfl⟩;simp only[go_sem,TG,MG];refine aL (λh=>?_) (λh=>?_)<;>simp only[go_sem,MG,fQ i o_];grind;refine λx c=>?_;rw[lB a]at c;grind;intro b;rw[dE]at b;simp only[go_sem,MG,aS (bP _)];exact .inl b
def Pz (g:PGM) (l:D_) (z:l.length<=1000000):aA PQ G bE [.own 0,.cl dX [.ptr 1 0]] [some (.arr 3 (l.map Id.A)),some (.box [.ptr 2 0]),some (.box [.ls 5 (g.cards.map CardM.A),.mp 3,.own 4]),some (MG g.I),some (.arr 35 (g.nodes.map ND.A))] (aDE g l):=by
 apply aC iD;simp only[go_sem,MG];apply aG [0,1,2,3,4] (aB _) d_ s_ rfl (by simp only[go_sem,MG]) (Sr g l z);rintro r E ⟨y,rfl⟩;rcases y with⟨rfl,c⟩|⟨b,q,rfl,c,_,t⟩
 simp only[go_sem,MG];refine .inl ⟨rfl,?_,rfl⟩;simp_all;have D:((b:Int)==-1)=false:=Y_;simp only[go_sem,MG,D,fQ b o_];refine cO (λm s=>∃(i j:Nat)(L:D_),m=l.length-j/\i<j/\j<=l.length/\L.length=l.length/\L.take i=((l.take j).filter λx=>!decide (x∈g.I))/\L.drop j=l.drop j/\s=⟨5,[(0,.own 0),(1,.cl dX [.ptr 1 0]),(5,iv i),(6,iv j)],[some (.arr 3 (L.map Id.A)),some (.box [.ptr 2 0]),some (.box [.ls 5 (g.cards.map CardM.A),.mp 3,.own 4]),some (MG g.I),some (.arr 35 (g.nodes.map ND.A))]⟩) (l.length-(b+1))
  ⟨b,b+1,l,rfl,o_,o_,rfl,?_,rfl,by simp only[go_sem,MG]⟩ ?_
 rw[lB q,Mf,Gm.2 (λx w=>by simp[c x w])];simp[t];rintro m s ⟨i,j,L,rfl,B,F,k,n,u,rfl⟩;by_cases a:j<l.length;have p:j<L.length:=o_;have e:i<L.length:=o_;have C:L[j]=l[j]:=by
  have h1:(L.drop j)[0]?=(l.drop j)[0]?:=by rw[u]
  grind
 have f:L.drop (j+1)=l.drop (j+1):=by have:=congrArg (List.drop 1) u;grind[List.drop_drop]
 simp only[go_sem,MG,aP,k,aT a,a,aO Id.A L j p,Id.A_def];apply aG [1,2,3,4] (aB _) d_ s_ rfl y_ (Q5 g L[j]);rintro r E ⟨rfl,rfl⟩;simp only[go_sem,TG,MG];refine aL (λh=>?_) (λh=>?_);have o:L[j]∉g.I:=w_;simp only[go_sem,MG,aP,k,(o_:i<l.length),aO Id.A L i e,Id.A_def,fQ i o_,fQ j o_];refine⟨l.length-(j+1),o_,i+1,j+1,L.set i L[j],rfl,o_,o_,by simpa using k,?_,?_,?_⟩;rw[lB X_,lB a,Mf,<-n,YC,List.take_set_of_le (cN i)];simp_all;rw[List.drop_set_of_lt o_,f];rw[Ba];rfl;have o:L[j]∈g.I:=w_;simp only[go_sem,MG,fQ j o_];refine⟨l.length-(j+1),o_,i,j+1,L,rfl,o_,o_,k,?_,f,rfl⟩;rw[lB a,Mf,<-n];simp_all;obtain rfl:j=l.length:=o_;rw[dE]at n;have d:i<=l.length:=o_;simp only[go_sem,MG,aP,k,aS a,d,(o_:i+(l.length-i)=l.length),QE,eC,vY,Kj d,YN];refine .inr ⟨L.take i++List.replicate (l.length-i) ⟨0,0,0⟩,i,c_,c_,?_,rfl,?_⟩;grind;simp only[bZ,QN,YH,Id.A_zero];rw[LB c_,jO];rfl
@[go_sem] def aDF{α:Type}(i k:Nat)(es:N_)(f:α->Value):∀l:List α,IB i k es (l.map λx=>.v (f x))=l.map λx=>.v (f x)|[]=>rfl|x::l=>by show CB i k es (.v (f x))::IB i k es (l.map λx=>.v (f x))=_;rw[aDF i k es f l];rfl
def CQ(g:PGM)(o:OpM):D_:=o.Past.filter λx=>!decide (x∈g.I)
def aDG(g:PGM)(o:OpM)(b:o.ok):aA PQ G nB [.ptr 0 0,.ag o.A] (TG 0 g) λr T=>(r=.own 3/\T=TG 0 g++[some (.arr 3 ((CQ g o).map Id.A))])\/∃(L:D_)(n:Nat),n<=L.length/\L.take n=CQ g o/\r=.vw 3 3 0 n/\T=TG 0 g++[some (.arr 3 (L.map Id.A))]:=by refine aC Dj ?_;have e:=b.past.1;simp only[go_sem,TG,MG];apply kM (MO o.Past o_);simp only[go_sem];apply aG [5,3,0,1,2] (aB _) d_ s_ rfl (by simp only[go_sem,MG]) (Pz g o.Past o_);rintro r h (⟨rfl,d,rfl⟩|⟨L,n,c,f,a,rfl,rfl⟩);simp only[go_sem,MG];left;rw[CQ,d];simp only[go_sem,MG];exact .inr ⟨L,n,c,a,rfl,rfl⟩
def aFN(g:PGM)(o:OpM)(b:o.ok):aA PQ G nB [.ptr 0 0,.ag o.A] (TG 0 g) λr T=>r=ids (CQ g o)/\T=TG 0 g:=by
 refine(aDG g o b).fin [3] ?_;rintro r d (⟨rfl,rfl⟩|⟨L,n,c,a,rfl,rfl⟩);simp only[go_sem,TG,MG];have h1:(L.map Id.A).take n=(CQ g o).map Id.A:=by rw[<-QN,a]
 have h2:n<=(L.map Id.A).length:=ox;generalize L.map Id.A=E at h1 h2;simp only[go_sem,TG,MG,h2,h1]
def PGM.at(g:PGM)(x:Id):Nat:=(g.I.findIdx? λy=>decide (y=x)).getD 0
def z4:V_:=[0,0,0,0]
def XD:ND:=⟨default,⟨0,0,0⟩,z4,0⟩
def PGM.nd(g:PGM)(x:Id):ND:=g.nodes.getD (g.at x) XD
def Hg(g:PGM)(l:D_):V_:=l.foldl (λW x=>Py W (g.at x)) z4
def Hh(g:PGM)(l:D_):V_:=l.foldl (λW x=>Kz W (g.nd x).W) z4
def G0(g:PGM)(l:D_):Int:=l.foldl (λm x=>max m (g.nd x).o.At) 0
def Fa(g:PGM)(l:D_):Int:=l.foldl (λm x=>max m ((g.nd x).lv+1)) 1
def Cu(W V:V_):V_:=List.zipWith (λa b=>a &&& b) W V
def BY(a:List ND)(o:OpM)(W:V_):Nat->Int×Bool|0=>(0,false)|i+1=>if((a.getD i XD).o.By==o.By)&&qK W i then(max (BY a o W i).1 (a.getD i XD).o.Seq,(BY a o W i).2||((a.getD i XD).o.Seq==o.Seq-1)) else BY a o W i
def BF(g:PGM)(o:OpM):V_:=Kz (Hh g o.Past) (Hg g o.Past)
def MQ(g:PGM)(o:OpM):Bool :=
 decide (o.Seq<=(BY g.nodes o (BF g o) g.nodes.length).1)||(decide (1<o.Seq)&&!(BY g.nodes o (BF g o) g.nodes.length).2)
def Q8(g:PGM)(o:OpM):PGM×Int :=
 if !(Cu (Hg g o.Past) (Hh g o.Past)==z4&&!decide (o.At<G0 g o.Past)) then(g,6)
 else if MQ g o then(g,11)
 else(⟨g.cards,g.nodes++[⟨o,C7 o,BF g o,Fa g o.Past⟩]⟩,0)
def Oa(g:PGM)(o:OpM):PGM×Int :=
 if C7 o∈g.I then(g,5)
 else if 200<=g.nodes.length then(g,3)
 else if(gM g.cards o.By).2=false then(g,17)
 else if((o.By==(gM g.cards o.By).1.Device)&&BW (gM g.cards o.By).1.Sign o.B o.SR o.SS)=false then(g,12)
 else if((o.Kind==1)&&decide (0<g.nodes.length))=true then(g,1)
 else if 0<(CQ g o).length then(g,10)
 else Q8 g o
def sR(g:PGM)(o:OpM):PGM×Int:=if vF o≠0 then(g,vF o) else Oa g o
structure PGM.ok(g:PGM):Prop where
 n:g.nodes.length<=200
 cn:g.cards.length<=1000
 cs:∀c∈g.cards,c.ok
 ops:∀x∈g.nodes,x.o.ok
 ids:∀x∈g.nodes,x.id.ok
 ws:∀x∈g.nodes,Hu x.W
 lv:∀x∈g.nodes,0<=x.lv/\x.lv<=g.nodes.length
def ND.Alen(x:ND)(h:x.W.length=4):x.A.length=35:=by simp only[ND.A,dZ,aP,h,OpM.len];rfl
def TA(g:PGM)(o:OpM):aK:=[some (.box [.ls 5 (g.cards.map CardM.A),.mp 1,.own 2]),some (.map true (g.I.map Id.K) ((List.range g.I.length).map λi:Nat=>iv (i:Int)) (List.range g.I.length) g.I.length),some (.arr 35 (g.nodes.map ND.A)),some (.box o.A)]
def TN(o:OpM)(W:V_)(a:Int):Option AObj:=some (.box (o.A++((C7 o).A++(oC W++[iv a]))))
def Ob:Hu z4:=⟨rfl,λw a=>by simp[z4]at a;omega⟩
def Q9{g:PGM}(a:g.ok)(x:Id):Hu (g.nd x).W:=by unfold PGM.nd;rw[rH];rcases eD (g.at x) g.nodes.length with h|h;rw[jN h];exact a.ws _ (eQ h);rw[sX h];exact Ob
def aDH(g:PGM)(l:D_)(x:Id):Hg g (l++[x])=Py (Hg g l) (g.at x):=by simp[Hg]
def aDI(g:PGM)(l:D_)(x:Id):Hh g (l++[x])=Kz (Hh g l) (g.nd x).W:=by simp[Hh]
def aAU(g:PGM)(l:D_)(x:Id):G0 g (l++[x])=max (G0 g l) (g.nd x).o.At:=by simp[G0]
def aDJ(g:PGM)(l:D_)(x:Id):Fa g (l++[x])=max (Fa g l) ((g.nd x).lv+1):=by simp[Fa]
def Ss{α:Type}(p:V_->Prop)(f:V_->α->V_)(a:∀W x,p W->p (f W x)):∀(l:List α)(W:V_),p W->p (l.foldl f W)|[],_,h=>h|x::l,W,h=>Ss p f a l (f W x) (a W x h)
def JB(g:PGM)(l:D_):Hu (Hg g l):=Ss Hu _ (λW x h=>ZG h _) l z4 Ob
def JC{g:PGM}(a:g.ok)(l:D_):Hu (Hh g l):=Ss Hu _ (λW x h=>Sp h (Q9 a x)) l z4 Ob
def aKf(o:OpM)(i:Id)(X:O_):(o.A++(i.A++X)).drop 30=X:=Y_
def tk4(W:V_)(h:W.length=4)(X:O_):(oC W++X).take 4=oC W:=TY (by rw[aP,h])
def aDK(o:OpM)(X:O_)(k:Nat)(h:k<27):(o.A++X)[k]?=o.A[k]?:=mY (by rw[OpM.len];exact h)
def aId(o:OpM)(i:Id)(W:V_)(a:AV)(h:W.length=4):(o.A++(i.A++(oC W++[a]))).drop 34=[a]:=by rw[show 34=o.A.length+7 by rw[OpM.len],X3,show 7=i.A.length+4 from rfl,X3,show 4=(oC W).length by rw[aP,h]];simp
def aH6(o:OpM)(i:Id)(W:V_)(a:AV)(h:W.length=4):(o.A++(i.A++(oC W++[a])))[34]?=some a:=by have:=congrArg (λl=>l[0]?) (aId o i W a h);simpa using this
def aKg(o:OpM)(i:Id)(W:V_)(a:AV)(h:W.length=4):(o.A++(i.A++(oC W++[a]))).drop 35=[]:=by have:=congrArg (λl=>l.drop 1) (aId o i W a h);simpa using this
def aKh(o:OpM)(i:Id)(W:V_)(a:AV)(h:W.length=4):(o.A++(i.A++(oC W++[a]))).take 34=o.A++(i.A++oC W):=by rw[(s_:o.A++(i.A++(oC W++[a]))=(o.A++(i.A++oC W))++[a])];exact TY (by simp only[dZ,aP,h,OpM.len];rfl)
def U3{W V:V_}(a:Hu W)(b:Hu V):(Cu W V).length=4:=by unfold Cu;rw[aGC,a.1,b.1];rfl
def aAV(W V:V_)(c:V.length=W.length)(i:Nat)(h:i<W.length):(Cu W V).take (i+1)++W.drop (i+1)=((Cu W V).take i++W.drop i).set i (W.getD i 0 &&& V.getD i 0):=by
 have b:(Cu W V).length=W.length:=by grind[Cu,List.length_zipWith]
 have a:((Cu W V).take i).length=i:=p_;have e:(Cu W V)[i]'o_=W.getD i 0 &&& V.getD i 0:=by grind[Cu]
 rw[lB o_,eB,e,Kc h,aBL _ _ o_,a,YN];rfl
def aNy(o:OpM)(X:O_):(o.A++X).take 27=o.A:=TY (OpM.len o)
def aNz(o:OpM)(a b c:AV)(X:O_):(o.A++(a::b::c::X)).drop 30=X:=Y_
def aNA(o:OpM)(i:Id)(a b c d e:AV):(o.A++i.A++[a,b,c,d,e]).take 34=o.A++(i.A++[a,b,c,d]):=Y_
def aNB(o:OpM)(i:Id)(a b c d e:AV):(o.A++i.A++[a,b,c,d,e]).drop 35=[]:=Y_
def aFO(o:OpM)(X:O_):(o.A++X).drop 27=X:=List.drop_left' (OpM.len o)
def tk3(i:Id)(X:O_):(i.A++X).take 3=i.A:=TY rfl
def TL(g:PGM)(o:OpM)(i:Nat):aK:=TA g o++[TN o z4 (Fa g (o.Past.take i)),some (.box (oC (Hg g (o.Past.take i)))),some (.box (oC (Hh g (o.Past.take i))))]
def mx(a b:Int):(if b>a then b else a)=max a b:=o_
def aNC(o:OpM)(i:Id)(X:O_):(o.A++(i.A++X)).take 30=o.A++i.A:=Y_
def aAW{o:OpM}(h:vF o=0):1<=o.Seq:=(Dv (by rw[<-Aq];exact h)).1
def aKi(o:OpM)(i:Id)(W:V_)(a:AV)(h:W.length=4):(o.A++(i.A++(oC W++[a]))).take 35=o.A++(i.A++(oC W++[a])):=
 sG (by simp only[dZ,aP,h,OpM.len];exact cN _)
def aKj(o:OpM)(i:Id)(W:V_)(a:Int):(o.A++(i.A++(oC W++[iv a]))).all gS=true:=by simp only[YK,OpM.one,mF];simp[Id.A,oC,gS]
def ZJ(o:OpM)(i:Id)(W:V_)(a:Int):(o.A++(i.A++(oC W++[iv a]))).all aX=true:=by simp only[YK,OpM.closed,mF];simp[Id.A,oC,aX]
def TH(g:PGM):aK:=[some (.box [.ls 5 (g.cards.map CardM.A),.mp 1,.own 3]),some (MG g.I),none,some (.arr 35 (g.nodes.map ND.A))]
def aDL(g:PGM)(n:ND):TH ⟨g.cards,g.nodes++[n]⟩=[some (.box [.ls 5 (g.cards.map CardM.A),.mp 1,.own 3]),some (.map true (g.I.map Id.K++[n.id.K]) ((List.range g.I.length).map (λx:Nat=>AV.v (Value.int IntKind.i64 (x:Int)))++[AV.v (Value.int IntKind.i64 (g.nodes.length:Int))]) (List.range g.I.length++[g.I.length]) (g.I.length+1)),none,some (.arr 35 (g.nodes.map ND.A++[n.A]))]:=by
 have hI:PGM.I ⟨g.cards,g.nodes++[n]⟩=g.I++[n.id]:=by simp[PGM.I]
 have a:g.I.length=g.nodes.length:=by simp[PGM.I]
 simp only[TH,MG,hI,dZ,GT,bZ,QH,fG,uP,a]
def aIe(U:GK G)(g:PGM)(o:OpM)(N:g.ok)(M:o.ok):aA PQ G uW [.ptr 0 0,.ag o.A] (TG 0 g) λr T=>r=iv (sR g o).2/\((T=TG 0 (sR g o).1/\(sR g o).1=g)\/T=TH (sR g o).1):=by
 apply aC FL;have hn:=N.n;have aw:=M.past.1;simp only[go_sem,TG,MG];apply cX (Wp U o M);simp only[go_sem];refine aL (λh=>?_) (λh=>?_);simp only[bne_iff_ne,ne_eq]at h;simp only[go_sem,sR,h,true_or];simp only[bne_eq_false_iff_eq]at h;have k1:=h;have e:sR g o=Oa g o:=by grind[sR]
 unfold Oa at e;clear h;apply cB (λs=>s=⟨3,[(3,.ptr 3 0),(0,.ptr 0 0)],TA g o⟩) (by simp only[go_sem,TA]);rintro s rfl;rw[bC];refine cB (λs=>s=⟨3,[(0,.ptr 0 0),(3,.ptr 3 0),(6,.ptr 4 0)],TA g o++[TN o z4 1]⟩) ?_ ?_
 ·simp only[go_sem,TA];refine And.intro ?_ ?_
  all_goals refine cX (ZH o M) ?_
  all_goals simp only[go_sem]
  all_goals try with_reducible refine And.intro ?_ ?_
  all_goals refine cX (aFD o M) ?_
  all_goals simp only[go_sem,aNy,aNz,aNA,aNB,TN,jO,YK,aBY,gS]
  all_goals rfl
 rintro s rfl;have l:z4.length=4:=rfl;have q:30<=27+(3+(4+1)):=d_;have hk:=AL (C7 o);have F:=qH (C7 o) g.I 0;by_cases hx:C7 o∈g.I;rw[e,if_pos hx];obtain⟨j,h1,h2,_⟩:=dG hx;rw[h1]at F;have gv:=yC g.I.length j h2;simp only[iX,mG]at F;simp only[go_sem,TA,TN,aFO,tk3,l,q,F,gv,true_or];rw[eG hx]at F;rw[if_neg hx]at e;simp only[xD]at F;rw[bC];refine cB (λs=>s=⟨3,[(0,.ptr 0 0),(3,.ptr 3 0),(6,.ptr 4 0)],TA g o++[TN o z4 1]⟩) ?_ ?_;simp only[go_sem,TA,TN,aFO,tk3,l,q,F];rintro s rfl;have H:decide ((200:Int)<=(g.nodes.length:Int))=decide (200<=g.nodes.length):=m_;simp only[go_sem,TA,TN,aP,ge_iff_le,H];refine aL (λh=>?_) (λh=>?_)<;>simp only[decide_eq_true_eq,decide_eq_false_iff_not]at h;rw[e,if_pos h];simp only[go_sem,true_or];rw[if_neg h]at e;have au:=h;clear h H;simp only[go_sem];apply aG [0,1,2] (aB _) d_ s_ rfl y_ (ZI g o.By N.cn);rintro r T' ⟨rfl,rfl⟩;simp only[go_sem,TG,MG,CardM.A_def];cases hc:(gM g.cards o.By).2;rw[e,if_pos hc];simp only[go_sem,true_or];rw[if_neg (by simp[hc])]at e;have aq:=Uw (d:=o.By) N.cs;generalize(gM g.cards o.By).1=c at *
 simp only[go_sem];apply cX (aDq c o M aq);simp only[go_sem];cases aa:((o.By==c.Device)&&BW c.Sign o.B o.SR o.SS);rw[e,if_pos aa];simp only[go_sem,true_or];rw[if_neg (by simp[aa])]at e;have E:decide ((g.nodes.length:Int)>0)=decide (0<g.nodes.length):=s_;refine cB (λs=>s=⟨3,[(0,.ptr 0 0),(3,.ptr 3 0),(6,.ptr 4 0)],TA g o++[TN o z4 1,some (.box [iv c.Device,iv c.Member,uv c.Lead,uv c.Keep,uv c.Sign])]⟩) ?_ ?_;rfl;rintro s rfl;rw[bC];refine cB (λs=>s=⟨3,[(0,.ptr 0 0),(3,.ptr 3 0),(6,.ptr 4 0)],TA g o++[TN o z4 1,some (.box [iv c.Device,iv c.Member,uv c.Lead,uv c.Keep,uv c.Sign])]⟩/\((o.Kind==1)&&decide (0<g.nodes.length))=false) ?_ ?_;cases U:(o.Kind==1);simp only[go_sem,TA,TN,U,undef];cases h2:decide (0<g.nodes.length);simp only[go_sem,TA,TN,aP,E,U,h2];rw[e,if_pos (by rw[U,h2];rfl)];simp only[go_sem,TA,TN,aP,E,U,h2,true_or];rintro s ⟨rfl,ap⟩;rw[if_neg (by simp[ap])]at e;simp only[go_sem,TA,TN];apply aG [0,1,2] (aB _) d_ s_ rfl y_ (aFN g o M);rintro r T' ⟨rfl,rfl⟩;have dl:decide (((CQ g o).length:Int)>0)=decide (0<(CQ g o).length):=s_;simp only[go_sem,TG,MG,aP,dl];refine aL (λh=>?_) (λh=>?_)<;>simp only[decide_eq_true_eq,decide_eq_false_iff_not]at h;rw[e,if_pos h];simp only[go_sem,true_or];rw[if_neg h]at e;have ao:∀x∈o.Past,x∈g.I:=by intro x al;have h0:CQ g o=[]:=Ae o_;have:=List.filter_eq_nil_iff.1 h0 x al;simpa using this
 clear h dl;simp only[go_sem];refine aQ o.Past.length (λi=>⟨3,[(0,.ptr 0 0),(3,.ptr 3 0),(6,.ptr 4 0),(11,.ptr 5 0),(12,.ptr 6 0),(13,iv (G0 g (o.Past.take i))),(80,ids o.Past),(81,iv o.Past.length),(82,iv i)],TL g o i⟩) (λ_=>True) ?_ trivial ?_ ?_;simp only[go_sem,TA,TN,TL,uQ,Hg,Hh,G0,Fa,Kk,z4];rfl;intro i p _;have C:=fQ i o_;have g0:(o.Past.map Id.A)[i]?=some o.Past[i].A:=aO _ o.Past i p;have am:=ao _ (eQ p);obtain⟨j,f1,f2,_⟩:=dG am;have ft:=lB p;have ax:=AL o.Past[i];have O:=qH o.Past[i] g.I 0;rw[f1]at O;simp only[iX,mG]at O;have gv:=yC g.I.length j f2;have u:j<g.nodes.length:=by grind[PGM.I]
 have ac:g.at o.Past[i]=j:=by grind[PGM.at]
 have ab:g.nd o.Past[i]=g.nodes[j]:=by grind[PGM.nd]
 have Q:(g.nodes.map ND.A)[j]?=some (g.nodes[j].o.A++(g.nodes[j].id.A++(oC g.nodes[j].W++[iv g.nodes[j].lv]))):=aO _ g.nodes j u;have av:=N.lv _ (eQ u);have Z:=N.ws _ (eQ u);have eP:=aDH g (o.Past.take i) o.Past[i];have eA:=aDI g (o.Past.take i) o.Past[i];have eL:=aAU g (o.Past.take i) o.Past[i];have eV:=aDJ g (o.Past.take i) o.Past[i];rw[<-ft,ac]at eP;rw[<-ft,ab]at eA eL eV;have J:=JB g (o.Past.take i);have K:=JC N (o.Past.take i);simp only[TL];generalize Hg g (o.Past.take i)=f at *
 generalize Hh g (o.Past.take i)=k at *
 generalize G0 g (o.Past.take i)=la at *
 generalize Fa g (o.Past.take i)=t at *
 clear ac ab;generalize g.nodes[j]=x at *
 have w1:IntKind.i64.wrap (x.lv+1)=x.lv+1:=aJ o_ o_;have L:=Z.1;simp only[go_sem,TA,TN,aP,aT p,g0,O,gv,u];apply aG (T2:=[some (.box (oC f))]) [5] (aB _) d_ s_ rfl i_ (aAP f j J o_);rintro r T' rfl;have ak:34<=27+(3+(4+1)):=d_;simp only[go_sem,aP,Q,aKf,tk4 _ L,L,ak];apply aG (T2:=[some (.box (oC k))]) (args2:=[.ptr 0 0,.ag (oC x.W)]) [6] (aB _) d_ s_ i_ i_ (W8 k x.W K Z);rintro r T' rfl;simp only[go_sem,TA,TN,l,TL,aP,Q,aDK,aH6 _ _ _ _ L,aH6 _ _ _ _ l,aKh _ _ _ _ l,aKg _ _ _ _ l,w1,C,eP,eA,eL,eV,mx,eB];intro _;rw[dE];have J:=JB g o.Past;have K:=JC N o.Past;unfold Q8 MQ BF at e;have ad:TL g o o.Past.length=TA g o++[TN o z4 (Fa g o.Past),some (.box (oC (Hg g o.Past))),some (.box (oC (Hh g o.Past)))]:=by rw[TL,dE]
 rw[ad];clear ad;generalize Hg g o.Past=f at *
 generalize Hh g o.Past=k at *
 generalize Fa g o.Past=t at *
 generalize G0 g o.Past=la at *
 have P:=J.1;have af:=K.1;have tP:(oC f).take 4=oC f:=sG (by rw[aP,P];decide);have tA:(oC k).take 4=oC k:=sG (by rw[aP,af];decide);have ai:(oC f).all gS=true:=by simp[oC,gS]
 simp only[go_sem,TA,TN,aP,aS (bP _),P,tP,ai];have an:=U3 J K;refine aQ 4 (λi=>⟨3,[(0,.ptr 0 0),(3,.ptr 3 0),(6,.ptr 4 0),(11,.ptr 5 0),(12,.ptr 6 0),(13,iv la),(17,.ptr 7 0),(127,iv i)],TA g o++[TN o z4 t,some (.box (oC f)),some (.box (oC k)),some (.box (oC ((Cu f k).take i++f.drop i)))]⟩) (λ_=>True) ?_ trivial ?_ ?_;simp only[go_sem,TA,TN,uQ,TZ,dM];intro i p _;have C:=fQ i o_;have hX:((Cu f k).take i++f.drop i).length=4:=p_;have gX:((Cu f k).take i++f.drop i).getD i 0=f.getD i 0:=m_;have eX:=aAV f k o_ i o_;have a1:=J5 (f.getD i 0) (k.getD i 0) (AJ J _) (AJ K _);have gv:=Dw k i o_;generalize az:(Cu f k).take i++f.drop i=X at *
 have gx:=Dw X i o_;rw[gX]at gx;have es:(oC X).take i++[uv (f.getD i 0 &&& k.getD i 0)]++(oC X).drop (i+1)=oC (X.set i (f.getD i 0 &&& k.getD i 0)):=by show _=(X.set i (f.getD i 0 &&& k.getD i 0)).map λw=>uv w;rw[Ba,aGB,if_pos (by rw[aP,hX];exact p),eB];rfl
 have d1:decide ((i:Int)<4)=true:=decide_eq_true o_;have i1:(i:Int)<4:=o_;simp only[go_sem,TA,TN,aP,i1,hX,gx,gv,↓a1,es,C,eX,Bb,pQ,(o_:i<=3)];intro _;rw[sG o_,LB o_,jO];obtain⟨b0,b1,b2,V,hb⟩:∃a b c d:Nat,Cu f k=[a,b,c,d]:=by
  match h:Cu f k,an with
  |[a,b,c,d],_=>exact⟨a,b,c,d,rfl⟩
 rw[hb]at e⊢;have e4:((b0:Int)==0&&((b1:Int)==0&&((b2:Int)==0&&(V:Int)==0)))=([b0,b1,b2,V]==z4):=by rw[CT];simp[z4]
 cases R:([b0,b1,b2,V]==z4);rw[e,if_pos (by rw[R];rfl)];simp only[go_sem,TA,TN,e4,R,undef,true_or];cases hl:decide (o.At<la);rotate_left;rw[e,if_pos (by rw[R,hl];rfl)];simp only[go_sem,TA,TN,e4,R,hl,true_or];rw[if_neg (by rw[R,hl];decide)]at e;have aj:(oC k).all gS=true:=by simp[oC,gS]
 simp only[go_sem,TA,TN,l,e4,R,hl,af,tA,aId _ _ _ _ l,aNC,aj,P,tP];apply aG (T2:=[some (.box ((o.A++(C7 o).A)++(oC k++[iv t])))]) (args2:=[.ptr 0 30,.ag (oC f)]) [4] (aB _) d_ s_ i_ (by simp only[go_sem,eB]) (K1 (o.A++(C7 o).A) [iv t] 30 (by rw[dZ,OpM.len];rfl) k f K J i_ rfl);rintro r T' rfl;have ae:=Sp K J;generalize Kz k f=m at *
 simp only[go_sem,eB];have z:=ae.1;have w2:IntKind.i64.wrap (o.Seq-1)=o.Seq-1:=aJ (by have:=aAW k1;omega) (by have:=(M.ints o.Seq s_).2;omega);refine aQ g.nodes.length (λi=>⟨3,[(0,.ptr 0 0),(3,.ptr 3 0),(6,.ptr 4 0),(19,iv (BY g.nodes o m i).1),(20,.v (.bool (BY g.nodes o m i).2)),(157,iv g.nodes.length),(158,iv i)],TA g o++[TN o m t]⟩) (λ_=>True) ?_ trivial ?_ ?_;simp only[go_sem,TA,TN,BY];intro i p _;have C:=fQ i o_;have Q:(g.nodes.map ND.A)[i]?=some (g.nodes[i].o.A++(g.nodes[i].id.A++(oC g.nodes[i].W++[iv g.nodes[i].lv]))):=aO _ g.nodes i p;have gd:g.nodes.getD i XD=g.nodes[i]:=by rw[rH,jN p];rfl
 have D:BY g.nodes o m (i+1)=if((g.nodes[i].o.By==o.By)&&qK m i) then(max (BY g.nodes o m i).1 g.nodes[i].o.Seq,(BY g.nodes o m i).2||(g.nodes[i].o.Seq==o.Seq-1)) else BY g.nodes o m i:=by rw[BY,gd]
 generalize BY g.nodes o m (i+1)=S1 at *
 generalize BY g.nodes o m i=S at *
 obtain⟨Y,ah⟩:=S;clear gd;generalize g.nodes[i]=x at *
 cases y:(x.o.By==o.By);rw[y,lR,if_neg d_]at D;simp only[go_sem,TA,TN,aP,aT p,p,Q,aDK,y,undef,C,D];rw[y,mF]at D;simp only[go_sem,TA,TN,aP,aT p,p,Q,aDK,y];apply aG (T2:=[some (.box ((o.A++(C7 o).A)++(oC m++[iv t])))]) (args2:=[.ptr 0 30,iv i]) [4] (aB _) d_ s_ i_ (by simp only[go_sem,eB]) (aAQ (o.A++(C7 o).A) [iv t] 30 (by rw[dZ,OpM.len];rfl) m i ae o_ i_ rfl);rintro r T' ⟨rfl,rfl⟩;cases hh:qK m i;rw[hh,if_neg d_]at D;simp only[go_sem,TA,TN,eB,C,D];rw[hh,if_pos rfl]at D;cases ah;simp only[go_sem,TA,TN,eB,Q,aDK,C,D,w2,mx];simp only[go_sem,TA,TN,eB,Q,aDK,C,D,mx,undef];intro _;generalize BY g.nodes o m g.nodes.length=S at *
 obtain⟨Y,ah⟩:=S;have ay:(g.nodes.map ND.A).length=g.nodes.length:=aP _;cases h1:decide (o.Seq<=Y);rotate_left;rw[if_pos s7]at e;rw[e];simp only[go_sem,TA,TN,aS (bP _),ge_iff_le,h1,undef,true_or];have ar:∀V:Bool,decide (1<o.Seq)=V->(V=true->ah=false)->True:=λ_ _ _=>trivial;clear ar;cases h2:decide (1<o.Seq);rw[if_neg (by simp[h1,h2])]at e;rw[e];simp only[go_sem,TA,TN,aFO,tk3,q,aP,aS (bP _),ge_iff_le,gt_iff_lt,h1,h2,undef,z,F,aKi _ _ _ _ z,aKj,ZJ,(g_:g.nodes.length+1<=maxLen),(o_:(g.nodes.length+1)*392<=140737488355328)];exact .inr (aDL g ⟨o,C7 o,m,t⟩).symm;cases ah;rw[if_pos (by simp[h1,h2])]at e;rw[e];simp only[go_sem,TA,TN,aS (bP _),ge_iff_le,gt_iff_lt,h1,h2,true_or];rw[if_neg (by simp[h1,h2])]at e;rw[e];simp only[go_sem,TA,TN,aFO,tk3,q,aP,aS (bP _),ge_iff_le,gt_iff_lt,h1,h2,undef,z,F,aKi _ _ _ _ z,aKj,ZJ,(g_:g.nodes.length+1<=maxLen),(o_:(g.nodes.length+1)*392<=140737488355328)];exact .inr (aDL g ⟨o,C7 o,m,t⟩).symm
def CardM.K(c:CardM):C_:=[.int .i64 c.Device,.int .i64 c.Member,.int .u64 c.Lead,.int .u64 c.Keep,.int .u64 c.Sign]
def aIf(x y:CardM):Int:=x.Device-y.Device
def uE(l:List CardM):List CardM:=l.mergeSort λx y=>decide (x.Device<=y.Device)
structure cardsOk(l:List CardM):Prop where
 n:l.length<=1000
 ne:l≠[]
 cs:∀c∈l,c.ok
 dv:∀c∈l,0<=c.Device/\c.Device<=1000
 un:∀c∈l,∀d∈l,c.Device=d.Device->c=d
def BI{l:List CardM}{c:CardM}:c∈uE l↔c∈l:=(H4 l _).mem_iff
def XJ(l:List CardM):(uE l).length=l.length:=(H4 l _).length_eq
def VA{l:List CardM}(h:∀c∈l,∀d∈l,c.Device=d.Device->c=d)(x:Int)(c:CardM):l.find? (λc=>c.Device==x)=some c↔(c∈l/\c.Device=x):=by
 constructor;grind;rintro⟨a,b⟩
 cases e:l.find? (λc=>c.Device==x) with
 |none=>exact absurd (Eb.1 e c a) (by simp[b])|some d=>
  grind
def XK{l:List CardM}(h:cardsOk l)(d:Int):gM (uE l) d=gM l d:=by
 have:(uE l).find? (λc=>c.Device==d)=l.find? (λc=>c.Device==d):=by
  cases e:l.find? (λc=>c.Device==d) with
  |none=>
   rw[Eb]at e⊢;intro c a;exact e c (BI.1 a)
  |some c=>
   rw[VA h.un]at e;rw[VA (λc a d b=>h.un c (BI.1 a) d (BI.1 b))];exact⟨BI.2 e.1,e.2⟩
 grind[gM]
def aFU(x y:CardM)(b:0<=x.Device/\x.Device<=1000)(a:0<=y.Device/\y.Device<=1000):aA PQ G tG [.ag x.A,.ag y.A] [] λr T=>r=iv (aIf x y)/\T=[]:=by refine aC Jv ?_;have w:IntKind.i64.wrap (x.Device-y.Device)=x.Device-y.Device:=aJ o_ o_;simp only[go_sem,CardM.A_def,w,aIf]
def aFV(l:List CardM)(e:cardsOk l):aA PQ G kK [.own 0,.cl tG []] [some (.arr 5 (l.map CardM.A))] λr T=>r=.tup []/\T=[some (.arr 5 ((uE l).map CardM.A))]:=by
 let α:={c:CardM // c∈l}
 have:Inhabited α:=⟨⟨l.head e.ne,List.head_mem e.ne⟩⟩
 let cf:α->α->Int:=λx y=>aIf x.1 y.1;have d:∀x y:α,Go.Proofs.ltOf cf x y=decide (x.1.Device<y.1.Device):=by intro x y;unfold Go.Proofs.ltOf;show decide (x.1.Device-y.1.Device<0)=_;simp_all;omega
 have f:=SW (α:=α) (k:=5) (enc:=λc=>c.1.K) Go.Proofs.Tryz.laysSortC Go.Proofs.Tryz.isAgg103 Go.Proofs.Tryz.sizeOf103 (λ_=>rfl) (λx v h=>by simp[CardM.K]at h;rcases h with rfl|rfl|rfl|rfl|rfl<;>rfl)
  (λx c i=>by simp[cellsOf,CardM.K]at i;rcases i with rfl|rfl|rfl|rfl|rfl<;>rfl) (cf:=cf)
  ⟨λx=>by rw[d];simp,λx y z h1 h2=>kf,λx y z h1 h2=>kf⟩
  (λx y h1 h2=>by rw[d]at *;simp at h1 h2;exact Subtype.ext (e.un _ x.2 _ y.2 o_)) (g:=tG) (Go.Proofs.enters_of Go.Proofs.Tryz.func65 k_ rfl) (Go.Proofs.enters_of Go.Proofs.Tryz.func64 k_ rfl) (G:=G) (λx y=>aFU x.1 y.1 (e.dv _ x.2) (e.dv _ y.2)) l.attach (by rw[List.length_attach];have:=e.n;omega)
 have o:l.attach.map (cellsOf λc:α=>c.1.K)=l.map CardM.A:=by rw[show(cellsOf λc:α=>c.1.K)=CardM.A∘Subtype.val from rfl,<-rI,X4]
 have m:(l.attach.mergeSort λx y=>!(Go.Proofs.ltOf cf y x)).map (cellsOf λc:α=>c.1.K)=(uE l).map CardM.A:=by
  rw[show(cellsOf λc:α=>c.1.K)=CardM.A∘Subtype.val from rfl,<-rI];congr 1;have j:(λx y:α=>!(Go.Proofs.ltOf cf y x))=λx y:α=>decide (x.1.Device<=y.1.Device):=m_;rw[j,List.map_mergeSort (s:=λx y:CardM=>decide (x.Device<=y.Device)) (λa _ b _=>rfl),X4];rfl
 rw[o,m]at f;exact f
def aIg(l:List CardM)(a:cardsOk l):aA PQ G Bi [.ls 5 (l.map CardM.A)] [] λr T=>r=.ptr 0 0/\T=[some (.box [.own 1,.mp 2,.v (.slice none 0 0)]),some (.arr 5 ((uE l).map CardM.A)),some (MG [])]:=by refine aC Ny ?_;have b:=a.n;simp only[go_sem];apply kM (rE (l.map CardM.A) M_);simp only[go_sem];apply aG (T2:=[some (.arr 5 (l.map CardM.A))]) [0] (aB _) d_ s_ rfl i_ (aFV l a);rintro r c ⟨rfl,rfl⟩;simp only[go_sem,MG,uP,Mk,gQ]
def aKl(l:List CardM)(a:cardsOk l):aA PQ G Bi [.ls 5 (l.map CardM.A)] [] λr T=>r=.ptr 0 0/\T=[some (.box [.ls 5 ((uE l).map CardM.A),.mp 1,.v (.slice none 0 0)]),some (MG [])]:=by refine(aIg l a).fin [1] ?_;rintro r b ⟨rfl,rfl⟩;simp only[go_sem,MG,uP,Mk]
def aFW {g:PGM} (b:g.ok) (l:D_):0<=Fa g l/\Fa g l<=g.nodes.length+1:=by
 have a:∀(l:D_)(m:Int),0<=m->m<=g.nodes.length+1->0<=l.foldl (λm x=>max m ((g.nd x).lv+1)) m/\l.foldl (λm x=>max m ((g.nd x).lv+1)) m<=g.nodes.length+1:=by
  intro l
  induction l with
  |nil=>exact λm h0 h1=>⟨h0,h1⟩| cons x l ih=>
   intro m h0 h1;have c:0<=(g.nd x).lv/\(g.nd x).lv<=g.nodes.length:=by unfold PGM.nd;rw[rH];rcases eD (g.at x) g.nodes.length with h|h;rw[jN h];exact b.lv _ (eQ h);grind[XD]
   grind
 exact a l 1 o_ o_
def aDU{g:PGM}(a:g.ok)(o:OpM):Hu (BF g o):=Sp (JC a _) (JB _ _)
def XL(g:PGM)(o:OpM):(sR g o).1=g\/(sR g o).1=⟨g.cards,g.nodes++[⟨o,C7 o,BF g o,Fa g o.Past⟩]⟩/\g.nodes.length<200:=by grind[sR,Oa,Q8]
def aFX{g:PGM}{o:OpM}(a:g.ok)(d:o.ok)(c:(C7 o).ok):(sR g o).1.ok:=by rcases XL g o with h|⟨h,f⟩<;>rw[h];exact a;have e:=aFW a o.Past;refine⟨c_,a.cn,a.cs,?_,?_,?_,?_⟩<;>intro x b<;>simp only[cG,cA]at b<;>rcases b with b|rfl;exact a.ops x b;exact d;exact a.ids x b;exact c;exact a.ws x b;exact aDU a o;have:=a.lv x b;simp_all;omega;simp_all
def AM(cs:List CardM)(l:List OpM):PGM:=l.foldl (λp o=>(sR p o).1) ⟨uE cs,[]⟩
theorem MS(cs:List CardM)(l:List OpM)(o:OpM):AM cs (l++[o])=(sR (AM cs l) o).1:=by simp[AM]
def XM{cs:List CardM}(d:cardsOk cs):∀(l:List OpM),(∀o∈l,o.ok/\(C7 o).ok)->(AM cs l).ok:=by
 have h0:(⟨uE cs,[]⟩:PGM).ok:=⟨s_,by show(uE cs).length<=1000;rw[XJ];exact d.n,λc h=>d.cs c (BI.1 h),s_,s_,s_,s_⟩
 have b:∀(l:List OpM)(p:PGM),p.ok->(∀o∈l,o.ok/\(C7 o).ok)->(l.foldl (λp o=>(sR p o).1) p).ok:=by
  intro l
  induction l with
  |nil=>exact λp h _=>h|cons o l ih=>exact λp h a=>ih _ (aFX h (a o s_).1 (a o s_).2) (λx e=>a x az)
 exact λl a=>b l _ h0 a
inductive RU(Up:List (List Nat))(up:List Nat):Nat->Prop
 |base {k:Nat}:k∈up->RU Up up k|step {j k:Nat}:RU Up up j->k∈Up.getD j []->RU Up up k
theorem RU.tail{a:List V_}{up:V_}{k:Nat}:RU a up k↔k∈up\/∃j,RU a up j/\k∈a.getD j []:=by
 constructor;intro h
 cases h with
 |base h=>exact .inl h|step h1 h2=>exact .inr ⟨_,h1,h2⟩
 rintro(h|⟨j,h1,h2⟩);exact .base h;exact .step h1 h2
def RU.head{b:List V_}{up:V_}{k:Nat}:RU b up k↔k∈up\/∃i∈up,RU b (b.getD i []) k:=by
 constructor;intro h
 induction h with
 |base h=>exact .inl h|step h1 h2 ih=>
  rcases ih with ih|⟨i,a,ih⟩
  exact .inr ⟨_,ih,.base h2⟩;exact .inr ⟨i,a,.step ih h2⟩
 rintro(h|⟨i,a,h⟩);exact .base h
 induction h with
 |base h=>exact .step (.base a) h|step h1 h2 ih=>exact .step ih h2
def RU.lt{a:List V_}{up:V_}{n:Nat}(b:∀k∈up,k<n)(c:∀i,∀k∈a.getD i [],k<i){k:Nat}(h:RU a up k):k<n:=by
 induction h with
 |base h=>exact b _ h|step h1 h2 ih=>have:=c _ _ h2;omega
def aB1(u:V_)(a:List Bool)(h:∀k∈u,k<a.length)(k:Nat):(u.foldl (λb k=>b.set k true) a).getD k false=(decide (k∈u)||a.getD k false):=by
 induction u generalizing a with
 |nil=>simp|cons x u ih=>
  grind
def XN(c:List V_)(up:V_)(a:List Bool)(i:Nat)(j:i<a.length)(h:∀k∈c.getD i [],k<i)(k:Nat):
 ((OG c up a i).getD k false=true)↔(a.getD k false=true\/(k=i/\i∈up)\/((a.getD i false=true\/i∈up)/\k∈c.getD i [])):=by
 have d:∀k,((if decide (i∈up) then a.set i true else a).getD k false=true)↔(a.getD k false=true\/(k=i/\i∈up)):=m_;have e:(if decide (i∈up) then a.set i true else a).length=a.length:=by split<;>simp
 unfold OG;generalize(if decide (i∈up) then a.set i true else a)=b at *
 by_cases g:b.getD i false=true;rw[if_pos g,aB1 _ _ (λk f=>by rw[e];have:=h k f;omega),Ec,d,decide_eq_true_eq];grind;grind
def Oj (b:List V_) (up:V_) (n:Nat) (g:∀k∈up,k<n) (f:∀i,∀k∈b.getD i [],k<i):∀(i:Nat)(a:List Bool),a.length=n->i<=n ->
 (∀k,i<=k->((a.getD k false=true)↔RU b up k))->(∀k,k<i->((a.getD k false=true)↔∃j,i<=j/\RU b up j/\k∈b.getD j []))->∀k,((Kx b up i a).getD k false=true)↔RU b up k
 |0,a,_,_,h1,_=>λk=>h1 k o_| i+1,a,m,p,h1,h2=>by
  have l:=XN b up a i o_ (f i);have e:(a.getD i false=true\/i∈up)↔RU b up i:=by grind[RU.tail]
  refine Oj b up n g f i (OG b up a i) (by rw[Q1];exact m) o_ ?_ ?_;grind;intro k o;rw[l,h2 k o_,e];constructor;rintro(⟨j,h3,d,c⟩|h3|h3);exact⟨j,o_,d,c⟩;omega;exact⟨i,cN _,h3.1,h3.2⟩;rintro⟨j,h3,d,c⟩;rcases eD i j with h|h;exact .inl ⟨j,h,d,c⟩;obtain rfl:j=i:=o_;exact .inr (.inr ⟨d,c⟩)
def Ok(g:GM)(up:V_)(a:∀k∈up,k<g.L.length)(b:∀i,∀k∈g.Up.getD i [],k<i)(k:Nat):((oL g up).getD k false=true)↔RU g.Up up k:=by refine Oj g.Up up g.L.length a b _ _ s_ (cN _) ?_ ?_ k;intro k c;constructor;intro h;rw[rH,sX c_]at h;exact absurd h d_;intro h;have:=h.lt a b;omega;intro k c;constructor;intro h;rw[rH,List.getElem?_replicate,if_pos c]at h;exact absurd h d_;rintro⟨j,h1,h2,_⟩;have:=h2.lt a b;omega
def RU.more{a:List V_}{u up:V_}{k:Nat}(b:∀k∈up,k<a.length)(d:∀i,∀k∈a.getD i [],k<i):RU (a++[u]) up k↔RU a up k:=by
 have c:∀j,j<a.length->(a++[u]).getD j []=a.getD j []:=λj e=>m_;constructor;intro h
 induction h with
 |base h=>exact .base h|step h1 h2 ih=>exact .step ih (by rwa[c _ (ih.lt b d)]at h2)
 intro h
 induction h with
 |base h=>exact .base h|step h1 h2 ih=>exact .step ih (by rwa[c _ (h1.lt b d)])
def aDV(W V:V_)(h:W.length=V.length)(i:Nat):(Kz W V).getD i 0=W.getD i 0 ||| V.getD i 0:=by grind[Kz]
def aB2(W V:V_)(h:W.length=V.length)(i:Nat):(Cu W V).getD i 0=W.getD i 0 &&& V.getD i 0:=by grind[Cu]
def ZM{W V:V_}(a:Hu W)(b:Hu V)(k:Nat):qK (Kz W V) k=(qK W k||qK V k):=by unfold qK;rw[aDV W V (by rw[a.1,b.1]),YP]
def ZN(k:Nat):qK z4 k=false:=by grind[qK,z4]
def aDW{W:V_}(a:Hu W)(n k:Nat)(b:n<256):qK (Py W n) k=(decide (k=n)||qK W k):=by
 unfold qK Py;have c:n/64<W.length:=by rw[a.1];omega
 grind
def aB3{W V:V_}(c:Hu W)(f:Hu V)(h:∀k,k<256->qK W k=true->qK V k=false):Cu W V=z4:=by
 have j:=U3 c f;refine Ki (by rw[j];rfl) λi l _=>?_;have a:i<4:=o_;have g:z4[i]'(by simpa[z4]using a)=0:=by grind[z4]
 rw[g];have e:=aB2 W V (by rw[c.1,f.1]) i;rw[rH,jN l,Mi]at e;rw[e];refine Nat.eq_of_testBit_eq λb=>?_;rw[Nat.testBit_and,aBK];rcases eD b 64 with d|d;have h1:(64*i+b)/64=i:=o_;have h2:(64*i+b)%64=b:=o_;have:=h (64*i+b) o_;grind[qK];rw[Nat.testBit_lt_two_pow (CV (AJ c i) (show 18446744073709551616<=2^b from Gl (n:=2) (i:=64) o_ d))];rfl
def aDX(g:PGM)(f:g.nodes.length<=200)(l:D_)(e:∀x∈l,g.at x<256)(k:Nat):(qK (Hg g l) k=true)↔∃x∈l,g.at x=k:=by
 have a:∀(l:D_)(W:V_),Hu W->(∀x∈l,g.at x<256)->((qK (l.foldl (λW x=>Py W (g.at x)) W) k=true)↔(qK W k=true\/∃x∈l,g.at x=k)):=by
  intro l
  induction l with
  |nil=>intro W _ _;simp|cons x l ih=>
   intro W c b;rw[CW,ih _ (ZG c _) (λy d=>b y gf),aDW c _ _ (b x s_),Ec,decide_eq_true_eq];grind
 unfold Hg;rw[a l z4 Ob e,ZN];simp
def aDY{g:PGM}(b:g.ok)(l:D_)(k:Nat):(qK (Hh g l) k=true)↔∃x∈l,qK (g.nd x).W k=true:=by
 have a:∀(l:D_)(W:V_),Hu W->((qK (l.foldl (λW x=>Kz W (g.nd x).W) W) k=true)↔(qK W k=true\/∃x∈l,qK (g.nd x).W k=true)):=by
  intro l
  induction l with
  |nil=>intro W _;simp|cons x l ih=>
   intro W c;rw[CW,ih _ (Sp c (Q9 b x)),ZM c (Q9 b x),Ec];grind
 unfold Hh;rw[a l z4 Ob,ZN];simp
def aDZ(g:PGM)(x:Id):g.at x=(aW g.I x).toNat:=by grind[PGM.at,aW,qX]
def Cz(I:D_)(x:Id):0<=aW I x↔x∈I:=by have:=mN (λy=>decide (y=x)) I;grind[aW]
def aFY(g:PGM)(a:Int)(l:D_)(h0:0<=a)(h:∀x∈l,(g.nd x).o.At<=a):G0 g l<=a:=by
 have b:∀(l:D_)(m:Int),m<=a->(∀x∈l,(g.nd x).o.At<=a)->l.foldl (λm x=>max m (g.nd x).o.At) m<=a:=by
  intro l
  induction l with
  |nil=>exact λm h _=>h|cons x l ih=>
   grind
 exact b l 0 h0 h
def yW(g:GM)(o:OpM):V_:=o.Past.map λx=>(aW g.I x).toNat
structure Acc(g:GM)(o:OpM):Prop where
 check:jB o=0
 twice:¬0<=aW g.I (C7 o)
 full:g.L.length<200
 card:(gM g.Cards o.By).2=true
 sig:BW (gM g.Cards o.By).1.Sign o.B o.SR o.SS=true
 kind:((o.Kind==1)&&decide (0<g.L.length))=false
 there:∀x∈o.Past,0<=aW g.I x
 up:(dV g o).2=yW g o
 order:J0 g o (yW g o)=true
 right:FT g.L o (oL g (yW g o))=true
def Ff{g:GM}{o:OpM}(h:(dV g o).1=0):Acc g o:=by
 have h0:=h;unfold dV at h;split at h;omega;rename_i b;simp only[ne_eq,Decidable.not_not]at b;have l:dV g o=Du g o:=by grind[dV]
 unfold Du at h;split at h;simp at h;rename_i h1;split at h;simp at h;rename_i h2;split at h;simp at h;rename_i h3;split at h;simp at h;rename_i f;split at h;simp at h;rename_i e;have k:Du g o=BA g o:=by rw[Du,if_neg h1,if_neg h2,if_neg h3,if_neg f,if_neg e]
 unfold BA at h;by_cases a:(o.Past.all λx=>decide (0<=aW g.I x))=true;rotate_left;have:Pu g.I o.Past=none:=by rw[Pu,if_neg a]
 rw[this]at h;simp at h;have i:Pu g.I o.Past=some (yW g o):=by rw[Pu,if_pos a];rfl
 have j:BA g o=CN g o (yW g o):=by rw[BA,i]
 rw[i]at h;simp only at h;unfold CN at h;split at h;simp at h;rename_i d;split at h;simp at h;rename_i c;exact⟨b,h1,o_,by simpa using h3,kj,X_,ov,by rw[l,k,j,CN,if_neg d,if_neg c],ke,ox⟩
def yE{g:GM}{o:OpM}(a:Acc g o)(h:(dV g o).1=0):(addM g o).1=⟨g.Cards,g.L++[o],g.I++[C7 o],g.Up++[yW g o],(g.In.map λr=>r++[false])++[oL g (yW g o)++[false]]⟩:=by rw[addM,if_neg (by simp[h]),a.up]
structure GM.wf(g:GM):Prop where
 un:g.Up.length=g.L.length
 inn:g.In.length=g.L.length
 i:g.I.length=g.L.length
 up:∀i,∀k∈g.Up.getD i [],k<i
 past:∀i,i<g.L.length->∀k,((g.In.getD i []).getD k false=true)↔RU g.Up (g.Up.getD i []) k
def aIh(cs:List CardM):(⟨cs,[],[],[],[]⟩:GM).wf:=⟨rfl,rfl,rfl,s_,s_⟩
def aE0{g:GM}{o:OpM}(w:g.wf)(a:Acc g o):∀k∈yW g o,k<g.L.length:=by intro k c;obtain⟨x,b,rfl⟩:=dF.1 c;have h1:=AZ g.I x;have h2:=a.there x b;have:=w.i;omega
def RC(l:List Bool)(k:Nat):(l++[false]).getD k false=l.getD k false:=m_
def Ol{α:Type}(l:List α)(x d:α)(k:Nat)(h:k<l.length):(l++[x]).getD k d=l.getD k d:=m_
def D2{α:Type}(l:List α)(x d:α):(l++[x]).getD l.length d=x:=s_
def XO{α:Type}(l:List α)(x d:α)(k:Nat)(h:l.length<k):(l++[x]).getD k d=d:=m_
def aE1{g:GM}(w:g.wf)(p:List Bool)(i:Nat)(h:i<g.L.length)(k:Nat):((((g.In.map λr=>r++[false])++[p]).getD i []).getD k false)=(g.In.getD i []).getD k false:=by
 have a:i<g.In.length:=by rw[w.inn];exact h
 grind
def aIi {g:GM} {o:OpM} (w:g.wf) (h:(dV g o).1=0):(addM g o).1.wf:=by
 have a:=Ff h;have c:=aE0 w a;rw[yE a h];have f:∀i,i<g.L.length->(g.Up++[yW g o]).getD i []=g.Up.getD i []:=λi d=>Ol _ _ _ _ (by rw[w.un];exact d);have e:(g.Up++[yW g o]).getD g.L.length []=yW g o:=by rw[<-w.un];exact D2 _ _ _
 refine⟨by simp[w.un],by simp[w.inn],by simp[w.i],?_,?_⟩;intro i k b;rcases aGJ i g.L.length with h1|h1|h1;rw[f i h1]at b;exact w.up i k b;rw[h1,e]at b;rw[h1];exact c k b;rw[XO _ _ _ _ (by rw[w.un];exact h1)]at b;simp at b;intro i d k;simp only[dZ,GT]at d;rcases eD i g.L.length with h1|h1;rw[f i h1,aE1 w _ i h1 k,RU.more (λk b=>by rw[w.un];have:=w.up i k b;omega) w.up];exact w.past i h1 k;obtain rfl:i=g.L.length:=o_;rw[e,RU.more (λk b=>by rw[w.un];exact c k b) w.up,<-Ok g _ c w.up];have:((g.In.map λr=>r++[false])++[oL g (yW g o)++[false]]).getD g.L.length []=oL g (yW g o)++[false]:=by
  have h2:g.L.length=(g.In.map λr=>r++[false]).length:=by simp[w.inn]
  rw[h2];exact D2 _ _ _
 rw[this,RC]
structure Sim(p:PGM)(g:GM):Prop where
 c:∀d,gM p.cards d=gM g.Cards d
 l:p.nodes.map (·.o)=g.L
 i:p.I=g.I
 w:∀i,i<g.L.length->∀k,k<256->qK (p.nodes.getD i XD).W k=(g.In.getD i []).getD k false
def aFZ{cs:List CardM}(a:cardsOk cs):Sim ⟨uE cs,[]⟩ ⟨cs,[],[],[],[]⟩:=⟨λd=>XK a d,rfl,rfl,s_⟩
def aB5{cs:List CardM}{d:Int}(h:(gM cs d).2=true):(gM cs d).1.Device=d:=by unfold gM at h⊢;grind
def aG0(a:List ND)(o:OpM)(W:V_)(n:Nat)(c:1<=o.Seq)(h:∀j,j<n->(a.getD j XD).o.By=o.By->qK W j=true->(a.getD j XD).o.Seq<o.Seq):(BY a o W n).1<o.Seq:=by
 induction n with
 |zero=>simp only[BY];omega|succ n ih=>
  have b:=ih λj d=>h j o_;unfold BY;grind
def XR(a:List ND)(o:OpM)(W:V_)(n j:Nat)(b:j<n)(h1:(a.getD j XD).o.By=o.By)(h2:qK W j=true)(h3:(a.getD j XD).o.Seq=o.Seq-1):(BY a o W n).2=true:=by
 induction n with
 |zero=>omega|succ n ih=>
  unfold BY;grind
def aE8{p:PGM}{g:GM}{o:OpM}(s:Sim p g)(y:p.ok)(w:g.wf)(h:(dV g o).1=0):(sR p o).2=0/\Sim (sR p o).1 (addM g o).1:=by
 have a:=Ff h;have S:p.nodes.length=g.L.length:=by rw[<-s.l,aP]
 have d:=aE0 w a;have Y:vF o=0:=(Aq o).trans a.check;have hI:∀x∈o.Past,x∈p.I:=λx b=>by rw[s.i];exact(Cz g.I x).1 (a.there x b)
 have W:C7 o∉p.I:=λb=>a.twice ((Cz g.I _).2 (s.i ▸ b));have Q:=s.c o.By;have V:((o.By==(gM p.cards o.By).1.Device)&&BW (gM p.cards o.By).1.Sign o.B o.SR o.SS)=true:=by rw[Q,a.sig,yH,aB5 a.card];simp
 have U:CQ p o=[]:=List.filter_eq_nil_iff.2 λx b=>by simp[hI x b]
 have M:∀x,p.at x=(aW g.I x).toNat:=λx=>by rw[aDZ,s.i]
 have m:∀x∈o.Past,p.at x∈yW g o:=λx b=>by rw[M];exact dF.2 ⟨x,b,rfl⟩
 have z:∀k∈yW g o,∃x∈o.Past,p.at x=k:=λk t=>by obtain⟨x,b,e⟩:=dF.1 t;grind
 have A:∀k,(qK (Hg p o.Past) k=true)↔k∈yW g o:=λk=>by rw[aDX p y.n o.Past (λx b=>by have:=d _ (m x b);have:=y.n;omega)];grind
 have D:∀k,k<256->((qK (Hh p o.Past) k=true)↔∃i∈yW g o,(g.In.getD i []).getD k false=true):=λk t=>by rw[aDY y];constructor;rintro⟨x,b,G⟩;refine⟨p.at x,m x b,?_⟩;rw[<-s.w _ (d _ (m x b)) k t];exact G;rintro⟨i,q,G⟩;obtain⟨x,b,rfl⟩:=z i q;refine⟨x,b,?_⟩;rw[<-s.w _ (d _ q) k t]at G;exact G
 have H:∀i,i<g.L.length->(p.nodes.getD i XD).o=g.L.getD i default:=λi q=>by
  have P:p.nodes.getD i XD=p.nodes[i]:=h_;have O:g.L.getD i default=g.L[i]:=h_;rw[P,O];have h1:(p.nodes.map (·.o))[i]?=g.L[i]?:=by rw[s.l]
  simp_all
 have v:=a.order;unfold J0 at v;rw[oD]at v;have T:Cu (Hg p o.Past) (Hh p o.Past)=z4:=by refine aB3 (JB p _) (JC y _) λk t h1=>?_;grind
 have u:=Dv a.check;have k9:G0 p o.Past<=o.At:=by refine aFY p o.At o.Past u.2.2.2 λx b=>?_;have q:=m x b;have h1:(p.nd x).o=g.L.getD (p.at x) default:=H _ (d _ q);grind
 have f:∀k,k<256->((qK (BF p o) k=true)↔((oL g (yW g o)).getD k false=true)):=λk t=>by rw[Ok g _ d w.up,RU.head,BF,ZM (JC y _) (JB p _),Ec,A,D k t];constructor;rintro(⟨i,q,h1⟩|h1);exact .inr ⟨i,q,(w.past i (d i q) k).1 h1⟩;exact .inl h1;rintro(h1|⟨i,q,h1⟩);exact .inr h1;exact .inl ⟨i,q,(w.past i (d i q) k).2 h1⟩
 have K:(oL g (yW g o)).length=g.L.length:=Cs g _;have E:=a.right;unfold FT at E;rw[zJ,oD]at E;have Z:(g.L.zip (oL g (yW g o))).length=g.L.length:=by simp[K]
 have R:∀j(F:j<g.L.length),(g.L.zip (oL g (yW g o)))[j]'o_=(g.L.getD j default,(oL g (yW g o)).getD j false):=λj F=>by rw[List.getElem_zip,rH,rH,jN F,jN o_];rfl
 have X:(BY p.nodes o (BF p o) p.nodes.length).1<o.Seq:=by refine aG0 _ _ _ _ u.1 λj F h1 h2=>?_;rw[H j o_]at h1⊢;have h3:=(f j (by have:=y.n;omega)).1 h2;have N:=E.1 _ (eQ (o_:j<(g.L.zip (oL g (yW g o))).length));rw[R j o_]at N;simp only[I0,h3,h1]at N;simpa using N
 have J:MQ p o=false:=by
  unfold MQ;rw[decide_eq_false o_,EH];rcases Ec _ _ ▸ E.2 with h1|h1;have:o.Seq=1:=by simpa using h1
  rw[decide_eq_false o_];rfl;rw[CX]at h1;obtain⟨e,he,h2⟩:=h1;obtain⟨j,F,rfl⟩:=CU he;rw[R j o_]at h2;simp only[I0,zJ,beq_iff_eq]at h2;rw[XR p.nodes o (BF p o) p.nodes.length j o_ (by rw[H j o_];exact h2.1.2) ((f j (by have:=y.n;omega)).2 h2.1.1) (by rw[H j o_];exact h2.2)];simp
 have C:sR p o=(⟨p.cards,p.nodes++[⟨o,C7 o,BF p o,Fa p o.Past⟩]⟩,0):=by rw[sR,if_neg (by simp[Y]),Oa,if_neg W,if_neg (by have:=a.full;omega),if_neg (by rw[Q,a.card];decide),if_neg (by rw[V];decide),if_neg (by rw[S,a.kind];decide),if_neg (by rw[U];decide),Q8,if_neg (by rw[T,decide_eq_false o_];decide),if_neg (by rw[J];decide)]
 rw[C,yE a h];refine⟨rfl,s.c,by simp[s.l],by simp only[PGM.I,bZ,fG,uP];rw[<-s.i];rfl,?_⟩;intro i q k t;simp only[dZ,GT]at q;rcases eD i g.L.length with h1|h1;rw[aE1 w _ i h1 k,Ol _ _ _ _ o_];exact s.w i h1 k t;obtain rfl:i=g.L.length:=o_;have P:((g.In.map λr=>r++[false])++[oL g (yW g o)++[false]]).getD g.L.length []=oL g (yW g o)++[false]:=by
  have h2:g.L.length=(g.In.map λr=>r++[false]).length:=by simp[w.inn]
  rw[h2];exact D2 _ _ _
 have O:(p.nodes++[(⟨o,C7 o,BF p o,Fa p o.Past⟩:ND)]).getD g.L.length XD=⟨o,C7 o,BF p o,Fa p o.Past⟩:=by rw[<-S];exact D2 _ _ _
 rw[P,O,RC,CT];exact f k t
inductive Reach(cs:List CardM):GM->Prop
 |new:Reach cs ⟨cs,[],[],[],[]⟩|add {g:GM} {o:OpM}:Reach cs g->o.ok->(C7 o).ok->Reach cs (addM g o).1
structure Good(cs:List CardM)(g:GM):Prop where
 ok:g.ok
 wf:g.wf
 cards:g.Cards=cs
 n:g.L.length<=200
 ids:∀o∈g.L,(C7 o).ok
 sim:Sim (AM cs g.L) g
 all:∀i(h:i<g.L.length),(sR (AM cs (g.L.take i)) g.L[i]).2=0
def Reach.good {cs:List CardM} (c:cardsOk cs) {g:GM} (h:Reach cs g):Good cs g:=by
 induction h with
 |new=>
  exact⟨⟨s_,c.n,c.cs,s_,rfl,s_,rfl,s_,rfl,s_⟩,aIh cs,rfl,s_,s_,aFZ c,s_⟩
 | @add g o _ k f ih=>
  by_cases h:(dV g o).1=0;have a:=Ff h;have e:=yE a h;have d:(AM cs g.L).ok:=XM c g.L λx b=>⟨ih.ok.ops x b,ih.ids x b⟩
  have m:=aE8 ih.sim d ih.wf h;have j:(addM g o).1.L=g.L++[o]:=by rw[e]
  have p:=a.full;refine⟨aFI ih.ok k o_ f,aIi ih.wf h,by rw[e];exact ih.cards,by rw[j];simp;omega,?_,?_,?_⟩;intro x b;rw[j]at b;rcases cG.1 b with b|b;exact ih.ids x b;simp_all;grind[MS];intro i l;simp only[j,dZ,GT]at l⊢;rcases eD i g.L.length with h1|h1;rw[Rf o_,List.getElem_append_left h1];exact ih.all i h1;grind;grind[addM]
def BK(d m:Nat):CardM:=⟨d,m,((37:Fq)^AG ZC d).val,((37:Fq)^AG ZD d).val,((37:Fq)^AG vW d).val⟩
def lG(a:V_)(d:Nat):AG a d<2^64:=J4 _ _
def BL(ow:V_):List CardM:=ow.mapIdx λi m=>BK (i+1) m
def XY(ow:V_)(i:Nat)(h:i<ow.length):BL (ow.take (i+1))=BL (ow.take i)++[BK (i+1) ow[i]]:=by rw[<-aBV h];grind[BL]
theorem Hk(ow:V_):(BL ow).length=ow.length:=by simp[BL]
def aG1{o:OpM}(h:o.ok)(a b:Nat)(e:a<2^64)(d:b<2^64):OpM.ok {o with SR:=a,SS:=b}:=by refine⟨h.ints,?_,h.epoch,h.of,h.past,h.path,h.body,h.refs,h.guards,h.boxes,h.hist⟩;intro n c;simp only[cS,pP,or_false]at c;rcases c with rfl|rfl|rfl;exact h.nums _ s_;exact e;exact d
def aEc(s:Nat)(b:V_):I9 s b<2^64:=QQ (zM _ d_) (by decide:lT<2^64)
def BM{o:OpM}(h:o.ok):(cM o).ok:=by unfold cM;exact aG1 h _ _ (Cr _) (aEc _ _)
def aEd(ow:V_)(f:ow.length<=1000)(h0:ow≠[])(d:∀m∈ow,m<=1000):cardsOk (BL ow):=by
 have a:∀c∈BL ow,∃i,∃h:i<ow.length,c=BK (i+1) ow[i]:=by intro c b;obtain⟨i,h,rfl⟩:=List.mem_mapIdx.1 b;grind
 refine⟨by rw[Hk];exact f,?_,?_,?_,?_⟩;intro e;have:=Hk ow;grind;intro c b;obtain⟨i,h,rfl⟩:=a c b;have:=d _ (eQ h);refine⟨⟨?_,?_⟩,⟨?_,?_⟩,?_,?_,?_⟩<;>simp only[BK];omega;omega;omega;omega;exact Cr _;exact Cr _;exact Cr _;grind[BK];grind[BK]
def aEe(ow:V_)(o:ow.length<=1000):aA PQ G xP [Sa ow] [] λr T=>r=.own 0/\T=[some (.arr 5 ((BL ow).map CardM.A))]:=by
 apply aC Na;simp only[go_sem];refine aQ ow.length (λi=>⟨0,[(0,Sa ow),(3,.own 0),(4,iv i)],[some (.arr 5 ((BL (ow.take i)).map CardM.A))]⟩) (λ_=>True) ?_ trivial ?_ ?_;rfl;intro i d _;have c:decide ((i:Int)<(ow.length:Int))=true:=decide_eq_true o_;have e:=fQ i o_;have a:(ow.map λn:Nat=>[iv (n:Int)])[i]?=some [iv (ow[i]:Int)]:=gf;have b:(BL (ow.take i)).length=i:=by grind[Hk]
 have m:=XY ow i d;have h:=AI (G:=G) (bs [108,101,97,100]) ZC (i+1) Y_ Y_ (Az d_) d_ o_;have g:=AI (G:=G) (bs [107,101,101,112]) ZD (i+1) Y_ Y_ (Az d_) d_ o_;have f:=AI (G:=G) (bs [115,105,103,110]) vW (i+1) Y_ Y_ (Az d_) d_ o_;have l:=GJ (G:=G) (AG ZC (i+1)) (lG _ _);have k:=GJ (G:=G) (AG ZD (i+1)) (lG _ _);have j:=GJ (G:=G) (AG vW (i+1)) (lG _ _);simp only[go_sem,aP,c,a,e];apply cX h;simp only[go_sem,a];apply cX l;simp only[go_sem,a];apply cX g;simp only[go_sem,a];apply cX k;simp only[go_sem,a];apply cX f;simp only[go_sem,a];apply cX j;simp only[go_sem,aP,b,m,bZ,fG,uP,(g_:i+1<=maxLen),(o_:(i+1)*40<=140737488355328)];simp_all[CardM.A_def,BK,fu];intro _;have c:decide ((ow.length:Int)<(ow.length:Int))=false:=decide_eq_false o_;simp only[go_sem,aP,c,dE]
def Xl(s:Nat)(b:V_):vX s b<2^64:=J4 _ _
def aEz(d m:Nat):BK d m=⟨d,m,Xf PP 64 37 (AG ZC d) 1%PP,Xf PP 64 37 (AG ZD d) 1%PP,Xf PP 64 37 (AG vW d) 1%PP⟩:=by unfold BK;rw[PH _ (lG _ _),PH _ (lG _ _),PH _ (lG _ _)]
def Xm:List CardM:=[BK 1 1,BK 2 2,BK 3 3,BK 4 1,BK 5 2,BK 6 3]
def qB:List CardM:=[⟨1,1,1858807316446646070,2294458496254976924,1058522930688824048⟩,⟨2,2,1810974450540283748,732551293757751401,86482453431610406⟩,⟨3,3,490180086995058983,1441871927598236410,1783630545573332436⟩,⟨4,1,1953319703317080786,881125215762738857,1828901513722737251⟩,⟨5,2,603255930034390424,1128020181934541352,1855458293155442097⟩,⟨6,3,681465322610182208,1458595129815633359,1877287273825605593⟩]
def aBk:Xm=qB:=by unfold Xm;simp only[aEz];kernel_rfl
def wL(o:OpM):cM o={o with SR:=Xf PP 64 37 (vX (AG vW o.By.toNat) o.B) 1%PP,SS:=(vX (AG vW o.By.toNat) o.B+He (I8 (Xf PP 64 37 (vX (AG vW o.By.toNat) o.B) 1%PP) (Xf PP 64 37 (AG vW o.By.toNat) 1%PP) o.B).val (AG vW o.By.toNat))%lT}:=by unfold cM I9 B1;rw[PH _ (Xl _ _),PH _ (lG _ _)]
def Xn(a:Nat)(o:OpM)(h:a=((37:Fq)^AG vW o.By.toNat).val):BW a (cM o).B (cM o).SR (cM o).SS=true:=by
 subst h;have c:(cM o).SR=(B1 (AG vW o.By.toNat) o.B).val:=by simp only[cM]
 have b:(cM o).SS=I9 (AG vW o.By.toNat) o.B:=by simp only[cM]
 rw[aAN,c,b,aIF]
def KX{g b:GM}{p o:OpM}{c:CardM}{up:V_}(f:cM p=o)(h:gM g.Cards o.By=(c,true))(e:c.Sign=((37:Fq)^AG vW p.By.toNat).val)(h1:jB o=0)(h2:aW g.I (C7 o)=-1)(h3:g.L.length<200)
 (k:(o.Kind==1&&decide (0<g.L.length))=false) (j:BA g o=(0,up)) (i:(⟨g.Cards,g.L++[o],g.I++[C7 o],g.Up++[up],(g.In.map λr=>r++[false])++[oL g up++[false]]⟩:GM)=b):addM g (cM p)=(b,0):=by
 have a:=Xn c.Sign p e;rw[f]at a⊢;have d:dV g o=(0,up):=by unfold dV Du;rw[if_neg s7,h2,if_neg d_,if_neg o_,h,if_neg s_,a,if_neg s_,k,if_neg s_,j]
 unfold addM;rw[d,if_neg s_,<-i]
end Hud
