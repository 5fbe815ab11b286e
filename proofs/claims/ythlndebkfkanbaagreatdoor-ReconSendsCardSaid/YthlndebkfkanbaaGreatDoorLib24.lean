import Derived.Test.YthlndebkfkanbaaGreatDoorLib23
set_option linter.all false
namespace Hud
open Go
section
section
variable {G:Nat→Option (List AV)}
set_option maxHeartbeats 4000000
def aAI (g:PGM) (l:List Id) (r:AV) (T:aQ):Prop:=(r=.own 0∧(l.filter λx=>!decide (x∈g.I))=l∧T=[some (.arr 3 (l.map Id.A)),some (.box [.ptr 2 0]),some (.box [.ls 5 (g.cards.map CardM.A),.mp 3,.own 4]),some (MG g.I),some (.arr 35 (g.nodes.map ND.A))]) ∨
 ∃ (L:List Id) (n:Nat),n≤L.length∧L.length=l.length∧L.take n=(l.filter λx=>!decide (x∈g.I))∧r=.vw 0 3 0 n∧T=[some (.arr 3 (L.map Id.A)),some (.box [.ptr 2 0]),some (.box [.ls 5 (g.cards.map CardM.A),.mp 3,.own 4]),some (MG g.I),some (.arr 35 (g.nodes.map ND.A))]
def P5 (g:PGM) (l:List Id) (hl:l.length≤1000000):aC PQ G bA [.own 0,.cl dL [.ptr 1 0]] [some (.arr 3 (l.map Id.A)),some (.box [.ptr 2 0]),some (.box [.ls 5 (g.cards.map CardM.A),.mp 3,.own 4]),some (MG g.I),some (.arr 35 (g.nodes.map ND.A))] λr T =>
  ((r=.v (.int .i64 (-1))∧∀ x∈l,x∉g.I)∨(∃ j:Nat,j<l.length∧r=.v (.int .i64 (j:Int))∧(∀ x∈l.take j,x∉g.I)∧∃ h:j<l.length,l[j]∈g.I))∧T=[some (.arr 3 (l.map Id.A)),some (.box [.ptr 2 0]),some (.box [.ls 5 (g.cards.map CardM.A),.mp 3,.own 4]),some (MG g.I),some (.arr 35 (g.nodes.map ND.A))]:=by
 refine aF dH (by decide) ?_;unfold cE;simp only [go_sem,TG,MG,aL];refine aO l.length (λi=>⟨5,[(0,.own 0),(1,.cl dL [.ptr 1 0]),(7,.v (.int .i64 l.length)),(8,.v (.int .i64 i))],[some (.arr 3 (l.map Id.A)),some (.box [.ptr 2 0]),some (.box [.ls 5 (g.cards.map CardM.A),.mp 3,.own 4]),some (MG g.I),some (.arr 35 (g.nodes.map ND.A))]⟩) (λi=>∀ x∈l.take i,x∉g.I) ?_ (by simp) ?_ ?_
 ·simp only [go_sem,TG,MG]
 ·intro i hi hj;simp only [go_sem,TG,MG,aL,aT hi,hi,aP Id.A l i hi,Id.A_def,aG (show i<9223372036854775807 by omega)];refine aI [1,2,3,4] (aA _) (by decide) (by simp) rfl (by simp only [go_sem,TG,MG]) (OQ g l[i]) ?_;rintro r T' ⟨rfl,rfl⟩;simp only [go_sem,TG,MG];refine aM (λh=>?_) (λh=>?_)<;>simp only [go_sem,TG,MG,aG (show i<9223372036854775807 by omega)]
  ·exact .inr ⟨i,hi,rfl,hj,hi,by simpa using h⟩
  ·refine λx hx=>?_;rw [oT hi] at hx;rcases eO.1 hx with hx | hx
   ·exact hj x hx
   ·rw [gZ.1 hx];simpa using h
 ·intro hj;rw [kH] at hj;simp only [go_sem,TG,MG,aL,aX (cZ _)];exact .inl hj
def NS (g:PGM) (l:List Id) (hl:l.length≤1000000):aC PQ G bN [.own 0,.cl dL [.ptr 1 0]] [some (.arr 3 (l.map Id.A)),some (.box [.ptr 2 0]),some (.box [.ls 5 (g.cards.map CardM.A),.mp 3,.own 4]),some (MG g.I),some (.arr 35 (g.nodes.map ND.A))] (aAI g l):=by
 refine aF fU (by decide) ?_;unfold dN;simp only [go_sem,TG,MG];refine aI [0,1,2,3,4] (aA _) (by decide) (by simp) rfl (by simp only [go_sem,TG,MG]) (P5 g l hl) ?_;rintro r T' ⟨hr,rfl⟩;rcases hr with ⟨rfl,hno⟩ | ⟨j0,hj0,rfl,hno,_,hin⟩
 ·simp only [go_sem,TG,MG];refine .inl ⟨rfl,?_,rfl⟩;rw [Yw];intro x hx;simp [hno x hx]
 ·have e1:(((j0:Nat):Int)==-1)=false:=by rw [beq_eq_false_iff_ne];omega
  simp only [go_sem,TG,MG,e1,aG (show j0<9223372036854775807 by omega)];refine bU (λm s=>∃ (i j:Nat) (L:List Id),m=l.length-j∧i<j∧j≤l.length∧L.length=l.length∧L.take i=((l.take j).filter λx=>!decide (x∈g.I))∧L.drop j=l.drop j∧s=⟨5,[(0,.own 0),(1,.cl dL [.ptr 1 0]),(5,.v (.int .i64 i)),(6,.v (.int .i64 j))],[some (.arr 3 (L.map Id.A)),some (.box [.ptr 2 0]),some (.box [.ls 5 (g.cards.map CardM.A),.mp 3,.own 4]),some (MG g.I),some (.arr 35 (g.nodes.map ND.A))]⟩) (l.length-(j0+1))
   ⟨j0,j0+1,l,rfl,by omega,by omega,rfl,?_,rfl,by simp only [go_sem,TG,MG]⟩ ?_
  ·rw [oT hj0,VA,Yw.2 (λx hx=>by simp [hno x hx])];simp [hin]
  rintro m s ⟨i,j,L,rfl,hij,hj,hL,ht,hd,rfl⟩;by_cases hlt:j<l.length
  ·have hjL:j<L.length:=by omega
   have hiL:i<L.length:=by omega
   have hLj:L[j]=l[j]:=by
    have h1:(L.drop j)[0]?=(l.drop j)[0]?:=by rw [hd]
    simpa [hlt,hjL] using h1
   have hd2:L.drop (j+1)=l.drop (j+1):=by
    have:=congrArg (List.drop 1) hd;simpa [GF] using this
   simp only [go_sem,TG,MG,aL,hL,aT hlt,hlt,aP Id.A L j hjL,Id.A_def,aG (show j<9223372036854775807 by omega)];refine aI [1,2,3,4] (aA _) (by decide) (by simp) rfl (by simp only [go_sem,TG,MG]) (OQ g L[j]) ?_;rintro r T' ⟨rfl,rfl⟩;simp only [go_sem,TG,MG];refine aM (λh=>?_) (λh=>?_)
   ·have hnb:L[j]∉g.I:=by simpa using h
    simp only [go_sem,TG,MG,aL,hL,show i<l.length by omega,aP Id.A L i hiL,Id.A_def,aG (show i<9223372036854775807 by omega),aG (show j<9223372036854775807 by omega)];refine ⟨l.length-(j+1),by omega,i+1,j+1,L.set i L[j],rfl,by omega,by omega,by simpa using hL,?_,?_,?_⟩
    ·rw [oT (by simpa using hiL),oT hlt,VA,←ht,Yk,List.take_set_of_le (fW i)];rw [hLj] at hnb ⊢;simp [hnb]
    ·rw [List.drop_set_of_lt (by omega),hd2]
    ·rw [GI];rfl
   ·have hnb:L[j]∈g.I:=by simpa using h
    simp only [go_sem,TG,MG,aG (show j<9223372036854775807 by omega)];refine ⟨l.length-(j+1),by omega,i,j+1,L,rfl,by omega,by omega,hL,?_,hd2,rfl⟩;rw [oT hlt,VA,←ht];rw [hLj] at hnb;simp [hnb]
  ·obtain rfl:j=l.length:=by omega
   rw [kH] at ht;have hil:i≤l.length:=by omega
   simp only [go_sem,TG,MG,aL,hL,aX hlt,hil,show i+(l.length-i)≤l.length by omega,show i+(l.length-i)=l.length by omega,KI,hZ,tT,KN hil,Nh];refine .inr ⟨L.take i++List.replicate (l.length-i) ⟨0,0,0⟩,i,by simp;omega,by simp;omega,?_,rfl,?_⟩
   ·rw [QY (by simp;omega),Qp,VN,ht]
   ·simp only [gQ,Qr,U7,Id.A_zero];rw [Og (by simp;omega),kT];rfl
end
end
section
@[go_sem] def aAJ {α:Type} (i k:Nat) (es:List (List AV)) (f:α→Value):∀ l:List α,Ib i k es (l.map λx=>.v (f x))=l.map λx=>.v (f x)
 | []=>rfl
 | x::l=>by show HK i k es (.v (f x))::Ib i k es (l.map λx=>.v (f x))=_;rw [aAJ i k es f l];rfl
section
variable {G:Nat→Option (List AV)}
set_option maxHeartbeats 4000000
def Ac (g:PGM) (o:OpM):List Id:=o.Past.filter λx=>!decide (x∈g.I)
def aAK (g:PGM) (o:OpM) (ho:o.ok):aC PQ G lJ [.ptr 0 0,.ag o.A] (TG 0 g) λr T=>(r=.own 3∧T=TG 0 g++[some (.arr 3 ((Ac g o).map Id.A))])∨∃ (L:List Id) (n:Nat),n≤L.length∧L.take n=Ac g o∧r=.vw 3 3 0 n∧T=TG 0 g++[some (.arr 3 (L.map Id.A))]:=by
 refine aF B4 (by decide) ?_;have hp:=ho.past.1;simp only [go_sem,TG,MG];refine aS (aA _) rfl (P4 o.Past (by omega)) ?_;simp only [go_sem];refine aI [5,3,0,1,2] (aA _) (by decide) (by simp) rfl (by simp only [go_sem,TG,MG]) (NS g o.Past (by omega)) ?_;rintro r T' (⟨rfl,he,rfl⟩ | ⟨L,n,hn,hL,ht,rfl,rfl⟩)
 ·simp only [go_sem,TG,MG];left;rw [Ac,he]
 ·simp only [go_sem,TG,MG];exact .inr ⟨L,n,hn,ht,rfl,rfl⟩
def aCP (g:PGM) (o:OpM) (ho:o.ok):aC PQ G lJ [.ptr 0 0,.ag o.A] (TG 0 g) λr T=>r=ids (Ac g o)∧T=TG 0 g:=by
 refine (aAK g o ho).fin [3] ?_;rintro r T' (⟨rfl,rfl⟩ | ⟨L,n,hn,ht,rfl,rfl⟩)
 ·simp only [go_sem,TG,MG]
 ·have h1:(L.map Id.A).take n=(Ac g o).map Id.A:=by rw [←Qr,ht]
  have h2:n≤(L.map Id.A).length:=by simpa using hn
  generalize L.map Id.A=E at h1 h2;simp only [go_sem,TG,MG,h2,h1]
end
end
section
def PGM.at (g:PGM) (x:Id):Nat:=(g.I.findIdx? λy=>decide (y=x)).getD 0
def z4:List Nat:=[0,0,0,0]
def P6:ND:=⟨default,⟨0,0,0⟩,z4,0⟩
def PGM.nd (g:PGM) (x:Id):ND:=g.nodes.getD (g.at x) P6
def F3 (g:PGM) (l:List Id):List Nat:=l.foldl (λW x=>NR W (g.at x)) z4
def Et (g:PGM) (l:List Id):List Nat:=l.foldl (λW x=>Iw W (g.nd x).W) z4
def FI (g:PGM) (l:List Id):Int:=l.foldl (λm x=>max m (g.nd x).o.At) 0
def yP (g:PGM) (l:List Id):Int:=l.foldl (λm x=>max m ((g.nd x).lv+1)) 1
def BQ (W V:List Nat):List Nat:=List.zipWith (λa b=>a &&& b) W V
def yQ (nodes:List ND) (o:OpM) (W:List Nat):Nat→Int×Bool
 | 0=>(0,false)
 | i+1=>if ((nodes.getD i P6).o.By==o.By)&&qJ W i then (max (yQ nodes o W i).1 (nodes.getD i P6).o.Seq,(yQ nodes o W i).2||((nodes.getD i P6).o.Seq==o.Seq-1)) else yQ nodes o W i
def wA (g:PGM) (o:OpM):List Nat:=Iw (Et g o.Past) (F3 g o.Past)
def J8 (g:PGM) (o:OpM):Bool :=
 decide (o.Seq≤(yQ g.nodes o (wA g o) g.nodes.length).1)||(decide (1<o.Seq)&&!(yQ g.nodes o (wA g o) g.nodes.length).2)
def SP (g:PGM) (o:OpM):PGM×Int :=
 if !(BQ (F3 g o.Past) (Et g o.Past)==z4&&!decide (o.At<FI g o.Past)) then (g,6)
 else if J8 g o then (g,11)
 else (⟨g.cards,g.nodes++[⟨o,Af o,wA g o,yP g o.Past⟩]⟩,0)
def OR (g:PGM) (o:OpM):PGM×Int :=
 if Af o∈g.I then (g,5)
 else if 200≤g.nodes.length then (g,3)
 else if (jT g.cards o.By).2=false then (g,17)
 else if ((o.By==(jT g.cards o.By).1.Device)&&CD (jT g.cards o.By).1.Sign o.B o.SR o.SS)=false then (g,12)
 else if ((o.Kind==1)&&decide (0<g.nodes.length))=true then (g,1)
 else if 0<(Ac g o).length then (g,10)
 else SP g o
def wS (g:PGM) (o:OpM):PGM×Int:=if xS o≠0 then (g,xS o) else OR g o
structure PGM.ok (g:PGM):Prop where
 n:g.nodes.length≤200
 cn:g.cards.length≤1000
 cs:∀ c∈g.cards,c.ok
 ops:∀ x∈g.nodes,x.o.ok
 ids:∀ x∈g.nodes,x.id.ok
 ws:∀ x∈g.nodes,HF x.W
 lv:∀ x∈g.nodes,0≤x.lv∧x.lv≤g.nodes.length
def ND.Alen (x:ND) (h:x.W.length=4):x.A.length=35:=by
 simp only [ND.A,dU,aL,h,OpM.len];rfl
def TA (g:PGM) (o:OpM):aQ:=[some (.box [.ls 5 (g.cards.map CardM.A),.mp 1,.own 2]),some (.map true (g.I.map Id.K) ((List.range g.I.length).map λi:Nat=>iv (i:Int)) (List.range g.I.length) g.I.length),some (.arr 35 (g.nodes.map ND.A)),some (.box o.A)]
def TN (o:OpM) (W:List Nat) (lv:Int):Option AObj:=some (.box (o.A++((Af o).A++(mK W++[iv lv]))))
def MR:HF z4:=⟨rfl,λw hw=>by simp [z4] at hw;omega⟩
def SQ {g:PGM} (hg:g.ok) (x:Id):HF (g.nd x).W:=by
 unfold PGM.nd;rw [fG];rcases bY (g.at x) g.nodes.length with h | h
 ·rw [fV h];exact hg.ws _ (jY h)
 ·rw [gV h];exact MR
def aAL (g:PGM) (l:List Id) (x:Id):F3 g (l++[x])=NR (F3 g l) (g.at x):=by simp [F3]
def aAM (g:PGM) (l:List Id) (x:Id):Et g (l++[x])=Iw (Et g l) (g.nd x).W:=by simp [Et]
def X2 (g:PGM) (l:List Id) (x:Id):FI g (l++[x])=max (FI g l) (g.nd x).o.At:=by simp [FI]
def aAN (g:PGM) (l:List Id) (x:Id):yP g (l++[x])=max (yP g l) ((g.nd x).lv+1):=by simp [yP]
def P7 {α:Type} (p:List Nat→Prop) (f:List Nat→α→List Nat) (hf:∀ W x,p W→p (f W x)):∀ (l:List α) (W:List Nat),p W→p (l.foldl f W)
 | [],_,h=>h
 | x::l,W,h=>P7 p f hf l (f W x) (hf W x h)
def HH (g:PGM) (l:List Id):HF (F3 g l):=P7 HF _ (λW x h=>WF h _) l z4 MR
def HI {g:PGM} (hg:g.ok) (l:List Id):HF (Et g l):=P7 HF _ (λW x h=>P3 h (SQ hg x)) l z4 MR
def aDV (o:OpM) (i:Id) (X:List AV):(o.A++(i.A++X)).drop 30=X:=by
 rw [show 30=o.A.length+3 by rw [OpM.len],Sw];rfl
def tk4 (W:List Nat) (h:W.length=4) (X:List AV):(mK W++X).take 4=mK W:=Ey (by rw [aL,h])
def X3 (o:OpM) (X:List AV) (k:Nat) (h:k<27):(o.A++X)[k]?=o.A[k]?:=Eb (by rw [OpM.len];exact h)
def drA (o:OpM) (X:List AV) (k:Nat) (h:k≤27):(o.A++X).drop k=o.A.drop k++X:=Ya (by rw [OpM.len];exact h)
def aAO (o:OpM) (i:Id) (W:List Nat) (lv:AV) (h:W.length=4):(o.A++(i.A++(mK W++[lv]))).drop 34=[lv]:=by
 rw [show 34=o.A.length+7 by rw [OpM.len],Sw,show 7=i.A.length+4 from rfl,Sw,show 4=(mK W).length by rw [aL,h]];exact Y7 rfl
def aDW (o:OpM) (i:Id) (W:List Nat) (lv:AV) (h:W.length=4):(o.A++(i.A++(mK W++[lv])))[34]?=some lv:=by
 have:=congrArg (λl=>l[0]?) (aAO o i W lv h);simpa using this
def aGF (o:OpM) (i:Id) (W:List Nat) (lv:AV) (h:W.length=4):(o.A++(i.A++(mK W++[lv]))).drop 35=[]:=by
 have:=congrArg (λl=>l.drop 1) (aAO o i W lv h);simpa using this
def aGG (o:OpM) (i:Id) (W:List Nat) (lv:AV) (h:W.length=4):(o.A++(i.A++(mK W++[lv]))).take 34=o.A++(i.A++mK W):=by
 rw [show o.A++(i.A++(mK W++[lv]))=(o.A++(i.A++mK W))++[lv] by simp];exact Ey (by simp only [dU,aL,h,OpM.len];rfl)
def ST {W V:List Nat} (hW:HF W) (hV:HF V):(BQ W V).length=4:=by unfold BQ;rw [Qg,hW.1,hV.1];rfl
def X4 (W V:List Nat) (hl:V.length=W.length) (i:Nat) (h:i<W.length):(BQ W V).take (i+1)++W.drop (i+1)=((BQ W V).take i++W.drop i).set i (W.getD i 0 &&& V.getD i 0):=by
 have hol:(BQ W V).length=W.length:=by unfold BQ;rw [Qg];omega
 have hlt:((BQ W V).take i).length=i:=by rw [hZ];omega
 have e:(BQ W V)[i]'(by omega)=W.getD i 0 &&& V.getD i 0:=by
  unfold BQ;rw [Yq,fG,fG,fV h,fV (by omega)];rfl
 rw [oT (by omega),eE,e,QZ h,Yj _ _ (by omega),hlt,Nh];rfl
end
section
def aJa (o:OpM) (X:List AV):(o.A++X).take 27=o.A:=Ey (OpM.len o)
def aJb (o:OpM) (a b c:AV) (X:List AV):(o.A++(a::b::c::X)).drop 30=X:=by
 rw [show 30=o.A.length+3 by rw [OpM.len],Sw];rfl
def aJc (o:OpM) (i:Id) (a b c d e:AV):(o.A++i.A++[a,b,c,d,e]).take 34=o.A++(i.A++[a,b,c,d]):=by
 rw [eE,show 34=o.A.length+7 by rw [OpM.len],Yb];rfl
def aJd (o:OpM) (i:Id) (a b c d e:AV):(o.A++i.A++[a,b,c,d,e]).drop 35=[]:=by
 rw [eE,show 35=o.A.length+8 by rw [OpM.len],Sw];rfl
def lZ (o:OpM) (X:List AV):(o.A++X).drop 27=X:=Y7 (OpM.len o)
def BR (i:Id) (X:List AV):(i.A++X).take 3=i.A:=Ey rfl
def TL (g:PGM) (o:OpM) (i:Nat):aQ:=TA g o++[TN o z4 (yP g (o.Past.take i)),some (.box (mK (F3 g (o.Past.take i)))),some (.box (mK (Et g (o.Past.take i))))]
def mx (a b:Int):(if b>a then b else a)=max a b:=by rw [Int.max_def];split<;>split<;>omega
def aJe (o:OpM) (i:Id) (X:List AV):(o.A++(i.A++X)).take 30=o.A++i.A:=by
 rw [←eE];exact Ey (by rw [dU,OpM.len];rfl)
def X5 {o:OpM} (h:xS o=0):1≤o.Seq:=(CF (by rw [←Li];exact h)).1
def aGH (o:OpM) (i:Id) (W:List Nat) (lv:AV) (h:W.length=4):(o.A++(i.A++(mK W++[lv]))).take 35=o.A++(i.A++(mK W++[lv])) :=
 pY (by simp only [dU,aL,h,OpM.len];exact fW _)
def aGI (o:OpM) (i:Id) (W:List Nat) (lv:Int):(o.A++(i.A++(mK W++[iv lv]))).all jU=true:=by
 simp only [VH,OpM.one,jG];simp [Id.A,mK,jU]
def WI (o:OpM) (i:Id) (W:List Nat) (lv:Int):(o.A++(i.A++(mK W++[iv lv]))).all bB=true:=by
 simp only [VH,OpM.closed,jG];simp [Id.A,mK,bB]
def TH (g:PGM):aQ:=[some (.box [.ls 5 (g.cards.map CardM.A),.mp 1,.own 3]),some (MG g.I),none,some (.arr 35 (g.nodes.map ND.A))]
def aAP (g:PGM) (n:ND):TH ⟨g.cards,g.nodes++[n]⟩=[some (.box [.ls 5 (g.cards.map CardM.A),.mp 1,.own 3]),some (.map true (g.I.map Id.K++[n.id.K]) ((List.range g.I.length).map (λx:Nat=>AV.v (Value.int IntKind.i64 (x:Int)))++[AV.v (Value.int IntKind.i64 (g.nodes.length:Int))]) (List.range g.I.length++[g.I.length]) (g.I.length+1)),none,some (.arr 35 (g.nodes.map ND.A++[n.A]))]:=by
 have hI:PGM.I ⟨g.cards,g.nodes++[n]⟩=g.I++[n.id]:=by simp [PGM.I]
 have hl:g.I.length=g.nodes.length:=by simp [PGM.I]
 simp only [TH,MG,hI,dU,QX,gQ,Nc,cN,eQ,hl]
section
variable {G:Nat→Option (List AV)}
set_option maxHeartbeats 8000000
def aF4 (hK:GK G) (g:PGM) (o:OpM) (hg:g.ok) (ho:o.ok):aC PQ G sF [.ptr 0 0,.ag o.A] (TG 0 g) λr T=>r=iv (wS g o).2∧((T=TG 0 (wS g o).1∧(wS g o).1=g)∨T=TH (wS g o).1):=by
 refine aF DP (by decide) ?_;dsimp only [go_sem];have hn:=hg.n;have hpl:=ho.past.1;simp only [go_sem,TG,MG,true_or];refine aB (aA _) rfl (T4 hK o ho) rfl ?_;simp only [go_sem,MG];refine aM (λh=>?_) (λh=>?_)
 ·simp only [bne_iff_ne,ne_eq] at h;simp only [go_sem,wS,h,TG,MG,true_or]
 simp only [bne_eq_false_iff_eq] at h;have k1:=h;have hW:wS g o=OR g o:=by rw [wS,if_neg (by simp [k1])]
 unfold OR at hW;clear h;refine eZ (λs=>s=⟨3,[(3,.ptr 3 0),(0,.ptr 0 0)],TA g o⟩) (by simp only [go_sem,MG,TA]) ?_;rintro s rfl;rw [cP];refine eZ (λs=>s=⟨3,[(0,.ptr 0 0),(3,.ptr 3 0),(6,.ptr 4 0)],TA g o++[TN o z4 1]⟩) ?_ ?_
 ·simp only [go_sem,TA];refine And.intro ?_ ?_
  all_goals refine aB (aA _) rfl (WH o ho) rfl ?_
  all_goals simp only [go_sem]
  all_goals try with_reducible refine And.intro ?_ ?_
  all_goals refine aB (aA _) rfl (WB o ho) rfl ?_
  all_goals simp only [go_sem,aJa,aJb,aJc,aJd,show 27≤min 27 35 by decide,TN,kT,VH,uO,GC,jU]
  all_goals (rw [eE,eE];rfl)
 rintro s rfl;have hWl:z4.length=4:=rfl;have n30:30≤27+(3+(4+1)):=by decide
 have hk:=HG (Af o);have hf:=EX (Af o) g.I 0;by_cases hx:Af o∈g.I
 ·rw [hW,if_pos hx];obtain ⟨j,h1,h2,_⟩:=pL hx;rw [h1] at hf;have gv:=Dx g.I.length j h2;simp only [kZ,yN] at hf;simp only [go_sem,TA,TN,lZ,BR,hk,hWl,n30,hf,gv,TG,MG,true_or]
 rw [CH hx] at hf;rw [if_neg hx] at hW;simp only [VF] at hf;rw [cP];refine eZ (λs=>s=⟨3,[(0,.ptr 0 0),(3,.ptr 3 0),(6,.ptr 4 0)],TA g o++[TN o z4 1]⟩) ?_ ?_
 ·simp only [go_sem,TA,TN,lZ,BR,hk,hWl,n30,hf]
 rintro s rfl;have d200:decide ((200:Int)≤(g.nodes.length:Int))=decide (200≤g.nodes.length):=by rw [oU];simp;omega
 simp only [go_sem,TA,TN,lZ,BR,hk,hWl,n30,aL,ge_iff_le,d200];refine aM (λh=>?_) (λh=>?_)<;>simp only [decide_eq_true_eq,decide_eq_false_iff_not] at h
 ·rw [hW,if_pos h];simp only [go_sem,TA,TN,lZ,BR,hk,hWl,n30,TG,MG,true_or]
 rw [if_neg h] at hW;have h200:=h;clear h d200;simp only [go_sem,TA,TN,lZ,BR,hk,hWl,n30];refine aI [0,1,2] (aA _) (by decide) (by simp) rfl (by simp only [go_sem,TA,TN,lZ,BR,hk,hWl,n30,TG,MG]) (aCO g o.By hg.cn) ?_;rintro r T' ⟨rfl,rfl⟩;simp only [go_sem,TA,TN,lZ,BR,hk,hWl,n30,TG,MG,CardM.A_def];cases hc:(jT g.cards o.By).2
 ·rw [hW,if_pos hc];simp only [go_sem,TA,TN,lZ,BR,hk,hWl,n30,TG,MG,true_or]
 rw [if_neg (by simp [hc])] at hW;have hcs:=SI (d:=o.By) hg.cs;generalize (jT g.cards o.By).1=c at *
 simp only [go_sem,TA,TN,lZ,BR,hk,hWl,n30];refine aB (aA _) rfl (aAv c o ho hcs) rfl ?_;simp only [go_sem,TA,TN,lZ,BR,hk,hWl,n30];cases hsg:((o.By==c.Device)&&CD c.Sign o.B o.SR o.SS)
 ·rw [hW,if_pos hsg];simp only [go_sem,TA,TN,lZ,BR,hk,hWl,n30,TG,MG,true_or]
 rw [if_neg (by simp [hsg])] at hW;have hpos:decide ((g.nodes.length:Int)>0)=decide (0<g.nodes.length):=by rw [oU];simp
 refine eZ (λs=>s=⟨3,[(0,.ptr 0 0),(3,.ptr 3 0),(6,.ptr 4 0)],TA g o++[TN o z4 1,some (.box [iv c.Device,iv c.Member,uv c.Lead,uv c.Keep,uv c.Sign])]⟩) ?_ ?_
 ·simp only [go_sem,TA,TN,lZ,BR,hk,hWl,n30]
 rintro s rfl;rw [cP];refine eZ (λs=>s=⟨3,[(0,.ptr 0 0),(3,.ptr 3 0),(6,.ptr 4 0)],TA g o++[TN o z4 1,some (.box [iv c.Device,iv c.Member,uv c.Lead,uv c.Keep,uv c.Sign])]⟩∧((o.Kind==1)&&decide (0<g.nodes.length))=false) ?_ ?_
 ·cases hK:(o.Kind==1)
  ·simp only [go_sem,TA,TN,lZ,BR,hk,hWl,n30,aL,hpos,hK,undef]
  ·cases h2:decide (0<g.nodes.length)
   ·simp only [go_sem,TA,TN,lZ,BR,hk,hWl,n30,aL,hpos,hK,h2]
   ·rw [hW,if_pos (by rw [hK,h2];rfl)];simp only [go_sem,TA,TN,lZ,BR,hk,hWl,n30,aL,hpos,hK,h2,TG,MG,true_or]
 rintro s ⟨rfl,hkn⟩;rw [if_neg (by simp [hkn])] at hW;simp only [go_sem,TA,TN,lZ,BR,hk,hWl,n30];refine aI [0,1,2] (aA _) (by decide) (by simp) rfl (by simp only [go_sem,TA,TN,lZ,BR,hk,hWl,n30,TG,MG]) (aCP g o ho) ?_;rintro r T' ⟨rfl,rfl⟩;have dl:decide (((Ac g o).length:Int)>0)=decide (0<(Ac g o).length):=by rw [oU];simp
 simp only [go_sem,TA,TN,lZ,BR,hk,hWl,n30,TG,MG,aL,dl];refine aM (λh=>?_) (λh=>?_)<;>simp only [decide_eq_true_eq,decide_eq_false_iff_not] at h
 ·rw [hW,if_pos h];simp only [go_sem,TA,TN,lZ,BR,hk,hWl,n30,TG,MG,true_or]
 rw [if_neg h] at hW;have hlk:∀ x∈o.Past,x∈g.I:=by
  intro x hxp;have h0:Ac g o=[]:=CR (by omega);have:=List.filter_eq_nil_iff.1 h0 x hxp;simpa using this
 clear h dl;simp only [go_sem,TA,TN,lZ,BR,hk,hWl,n30];refine aO o.Past.length (λi=>⟨3,[(0,.ptr 0 0),(3,.ptr 3 0),(6,.ptr 4 0),(11,.ptr 5 0),(12,.ptr 6 0),(13,iv (FI g (o.Past.take i))),(80,ids o.Past),(81,iv o.Past.length),(82,iv i)],TL g o i⟩) (λ_=>True) ?_ trivial ?_ ?_
 ·simp only [go_sem,TA,TN,lZ,BR,hk,hWl,n30,TL,mL,F3,Et,FI,yP,Ez,z4];rfl
 ·intro i hi _;have ws:=aG (show i<9223372036854775807 by omega);have g0:(o.Past.map Id.A)[i]?=some o.Past[i].A:=aP _ o.Past i hi;have hxI:=hlk _ (jY hi);obtain ⟨j,f1,f2,_⟩:=pL hxI;have ft:=oT hi;have hk2:=HG o.Past[i];have hf2:=EX o.Past[i] g.I 0;rw [f1] at hf2;simp only [kZ,yN] at hf2;have gv:=Dx g.I.length j f2;have hjn:j<g.nodes.length:=by simpa [PGM.I] using f2
  have hat:g.at o.Past[i]=j:=by unfold PGM.at;rw [f1];rfl
  have hnd:g.nd o.Past[i]=g.nodes[j]:=by unfold PGM.nd;rw [hat,fG,fV hjn];rfl
  have g1:(g.nodes.map ND.A)[j]?=some (g.nodes[j].o.A++(g.nodes[j].id.A++(mK g.nodes[j].W++[iv g.nodes[j].lv]))):=aP _ g.nodes j hjn;have hxl:=hg.lv _ (jY hjn);have hxW:=hg.ws _ (jY hjn);have eP:=aAL g (o.Past.take i) o.Past[i];have eA:=aAM g (o.Past.take i) o.Past[i];have eL:=X2 g (o.Past.take i) o.Past[i];have eV:=aAN g (o.Past.take i) o.Past[i];rw [←ft,hat] at eP;rw [←ft,hnd] at eA eL eV;have oP:=HH g (o.Past.take i);have oA:=HI hg (o.Past.take i);simp only [TL];generalize F3 g (o.Past.take i)=Pa at *
  generalize Et g (o.Past.take i)=Ab at *
  generalize FI g (o.Past.take i)=la at *
  generalize yP g (o.Past.take i)=lv at *
  clear hat hnd;generalize g.nodes[j]=x at *
  have w1:IntKind.i64.wrap (x.lv+1)=x.lv+1:=aJ (by omega) (by omega);have hx4:=hxW.1;simp only [go_sem,TA,TN,lZ,BR,hk,hWl,n30,TL,aL,aT hi,hi,g0,hk2,hf2,gv,hjn];refine aI (T2:=[some (.box (mK Pa))]) [5] (aA _) (by decide) (by simp) rfl (by simp only [go_sem]) (X0 Pa j oP (by omega)) ?_;rintro r T' rfl;have n34:34≤27+(3+(4+1)):=by decide
  simp only [go_sem,TA,TN,lZ,BR,hk,hWl,n30,TL,aL,aT hi,hi,g0,hk2,hf2,gv,hjn,g1,aDV,tk4 _ hx4,hx4,n34];refine aI (T2:=[some (.box (mK Ab))]) (args2:=[.ptr 0 0,.ag (mK x.W)]) [6] (aA _) (by decide) (by simp) (by simp only [go_sem]) (by simp only [go_sem]) (UL Ab x.W oA hxW) ?_;rintro r T' rfl;simp only [go_sem,TA,TN,lZ,BR,hk,hWl,n30,TL,aL,aT hi,hi,g0,hk2,hf2,gv,hjn,g1,aDV,tk4 _ hx4,hx4,n34,X3,drA,aDW _ _ _ _ hx4,aAO _ _ _ _ hx4,aDW _ _ _ _ hWl,aAO _ _ _ _ hWl,aGG _ _ _ _ hWl,aGF _ _ _ _ hWl,w1,ws,eP,eA,eL,eV,mx,eE]
 intro _;rw [kH];have oP:=HH g o.Past;have oA:=HI hg o.Past;unfold SP J8 wA at hW;have hT0:TL g o o.Past.length=TA g o++[TN o z4 (yP g o.Past),some (.box (mK (F3 g o.Past))),some (.box (mK (Et g o.Past)))]:=by rw [TL,kH]
 rw [hT0];clear hT0;generalize F3 g o.Past=Pa at *
 generalize Et g o.Past=Ab at *
 generalize yP g o.Past=lv at *
 generalize FI g o.Past=la at *
 have hP4:=oP.1;have hA4:=oA.1;have tP:(mK Pa).take 4=mK Pa:=pY (by rw [aL,hP4];decide);have tA:(mK Ab).take 4=mK Ab:=pY (by rw [aL,hA4];decide);have oPl:(mK Pa).all jU=true:=by simp [mK,jU]
 simp only [go_sem,TA,TN,lZ,BR,hk,hWl,n30,aL,aX (cZ _),hP4,tP,oPl];have hol:=ST oP oA;refine aO 4 (λi=>⟨3,[(0,.ptr 0 0),(3,.ptr 3 0),(6,.ptr 4 0),(11,.ptr 5 0),(12,.ptr 6 0),(13,iv la),(17,.ptr 7 0),(127,iv i)],TA g o++[TN o z4 lv,some (.box (mK Pa)),some (.box (mK Ab)),some (.box (mK ((BQ Pa Ab).take i++Pa.drop i)))]⟩) (λ_=>True) ?_ trivial ?_ ?_
 ·simp only [go_sem,TA,TN,lZ,BR,hk,hWl,n30,mL,Qq,FQ]
 ·intro i hi _;have ws:=aG (show i<9223372036854775807 by omega);have hX:((BQ Pa Ab).take i++Pa.drop i).length=4:=by rw [dU,hZ,tT,hol,hP4];omega
  have gX:((BQ Pa Ab).take i++Pa.drop i).getD i 0=Pa.getD i 0:=by
   rw [fG,KG (by rw [hZ];omega),hZ,hol,show min i 4=i by omega,Nh,FN,yN,←fG]
  have eX:=X4 Pa Ab (by omega) i (by omega);have a1:=ON (Pa.getD i 0) (Ab.getD i 0) (AA oP _) (AA oA _);have gv:=EW Ab i (by omega);generalize hXd:(BQ Pa Ab).take i++Pa.drop i=X at *
  have gx:=EW X i (by omega);rw [gX] at gx;have es:(mK X).take i++[uv (Pa.getD i 0 &&& Ab.getD i 0)]++(mK X).drop (i+1)=mK (X.set i (Pa.getD i 0 &&& Ab.getD i 0)):=by
   show _=(X.set i (Pa.getD i 0 &&& Ab.getD i 0)).map λw=>uv w;rw [GI,YY,if_pos (by rw [aL,hX];exact hi),eE];rfl
  have d1:decide ((i:Int)<4)=true:=decide_eq_true (by omega);have i1:(i:Int)<4:=by omega
  simp only [go_sem,TA,TN,lZ,BR,hk,hWl,n30,aL,d1,i1,hX,hA4,gx,gv,↓a1,es,ws,eX,CL,rW,show i≤3 by omega]
 intro _;rw [pY (by omega),Og (by omega),kT];obtain ⟨b0,b1,b2,b3,hb⟩:∃ a b c d:Nat,BQ Pa Ab=[a,b,c,d]:=by
  match h:BQ Pa Ab,hol with
  | [a,b,c,d],_=>exact ⟨a,b,c,d,rfl⟩
 rw [hb] at hW ⊢;have e4:(((b0:Nat):Int)==0&&(((b1:Nat):Int)==0&&(((b2:Nat):Int)==0&&((b3:Nat):Int)==0)))=([b0,b1,b2,b3]==z4):=by
  rw [oU];simp [z4]
 cases he:([b0,b1,b2,b3]==z4)
 ·rw [hW,if_pos (by rw [he];rfl)];simp only [go_sem,TA,TN,lZ,BR,hk,hWl,n30,e4,he,undef,TG,MG,true_or]
 cases hl:decide (o.At<la);rotate_left
 ·rw [hW,if_pos (by rw [he,hl];rfl)];simp only [go_sem,TA,TN,lZ,BR,hk,hWl,n30,e4,he,hl,TG,MG,true_or]
 rw [if_neg (by rw [he,hl];decide)] at hW;have oAl:(mK Ab).all jU=true:=by simp [mK,jU]
 simp only [go_sem,TA,TN,lZ,BR,hk,hWl,n30,e4,he,hl,hA4,tA,aAO _ _ _ _ hWl,aJe,oAl,hP4,tP];refine aI (T2:=[some (.box ((o.A++(Af o).A)++(mK Ab++[iv lv])))]) (args2:=[.ptr 0 30,.ag (mK Pa)]) [4] (aA _) (by decide) (by simp) (by simp only [go_sem]) (by simp only [go_sem,eE]) (Ix (o.A++(Af o).A) [iv lv] 30 (by rw [dU,OpM.len];rfl) Ab Pa oA oP (by simp only [go_sem]) rfl) ?_;rintro r T' rfl;have hLl:=P3 oA oP;generalize Iw Ab Pa=Wn at *
 simp only [go_sem,TA,TN,lZ,BR,hk,hWl,n30,eE];have hW4:=hLl.1;have w2:IntKind.i64.wrap (o.Seq-1)=o.Seq-1:=aJ (by have:=X5 k1;omega) (by have:=(ho.ints o.Seq (by simp)).2;omega);refine aO g.nodes.length (λi=>⟨3,[(0,.ptr 0 0),(3,.ptr 3 0),(6,.ptr 4 0),(19,iv (yQ g.nodes o Wn i).1),(20,.v (.bool (yQ g.nodes o Wn i).2)),(157,iv g.nodes.length),(158,iv i)],TA g o++[TN o Wn lv]⟩) (λ_=>True) ?_ trivial ?_ ?_
 ·simp only [go_sem,TA,TN,lZ,BR,hk,hWl,n30,yQ,aL]
 ·intro i hi _;have ws:=aG (show i<9223372036854775807 by omega);have g1:(g.nodes.map ND.A)[i]?=some (g.nodes[i].o.A++(g.nodes[i].id.A++(mK g.nodes[i].W++[iv g.nodes[i].lv]))):=aP _ g.nodes i hi;have gd:g.nodes.getD i P6=g.nodes[i]:=by rw [fG,fV hi];rfl
  have sq:yQ g.nodes o Wn (i+1)=if ((g.nodes[i].o.By==o.By)&&qJ Wn i) then (max (yQ g.nodes o Wn i).1 g.nodes[i].o.Seq,(yQ g.nodes o Wn i).2||(g.nodes[i].o.Seq==o.Seq-1)) else yQ g.nodes o Wn i:=by
   rw [yQ,gd]
  generalize yQ g.nodes o Wn (i+1)=S1 at *
  generalize yQ g.nodes o Wn i=S at *
  obtain ⟨la1,ah⟩:=S;clear gd;generalize g.nodes[i]=x at *
  cases hby:(x.o.By==o.By)
  ·rw [hby,nG,if_neg (by decide)] at sq;simp only [go_sem,TA,TN,lZ,BR,hk,hWl,n30,aL,aT hi,hi,g1,X3,drA,hby,undef,ws,sq]
  rw [hby,jG] at sq;simp only [go_sem,TA,TN,lZ,BR,hk,hWl,n30,aL,aT hi,hi,g1,X3,drA,hby];refine aI (T2:=[some (.box ((o.A++(Af o).A)++(mK Wn++[iv lv])))]) (args2:=[.ptr 0 30,iv i]) [4] (aA _) (by decide) (by simp) (by simp only [go_sem]) (by simp only [go_sem,eE]) (X1 (o.A++(Af o).A) [iv lv] 30 (by rw [dU,OpM.len];rfl) Wn i hLl (by omega) (by simp only [go_sem]) rfl) ?_;rintro r T' ⟨rfl,rfl⟩;cases hh:qJ Wn i
  ·rw [hh,if_neg (by decide)] at sq;simp only [go_sem,TA,TN,lZ,BR,hk,hWl,n30,eE,aL,hi,g1,X3,drA,hh,ws,sq]
  rw [hh,if_pos rfl] at sq;cases ah
  ·simp only [go_sem,TA,TN,lZ,BR,hk,hWl,n30,eE,aL,hi,g1,X3,drA,hh,ws,sq,w2,mx,undef]
  ·simp only [go_sem,TA,TN,lZ,BR,hk,hWl,n30,eE,aL,hi,g1,X3,drA,hh,ws,sq,w2,mx,undef]
 intro _;generalize yQ g.nodes o Wn g.nodes.length=S at *
 obtain ⟨la1,ah⟩:=S;have hdl:(g.nodes.map ND.A).length=g.nodes.length:=aL _;cases h1:decide (o.Seq≤la1);rotate_left
 ·rw [if_pos (by simp [h1])] at hW;rw [hW];simp only [go_sem,TA,TN,lZ,BR,hk,hWl,n30,aL,aX (cZ _),ge_iff_le,gt_iff_lt,h1,TG,MG,undef,true_or]
 have fin:∀ b3:Bool,decide (1<o.Seq)=b3→(b3=true→ah=false)→True:=λ_ _ _=>trivial;clear fin;cases h2:decide (1<o.Seq)
 ·rw [if_neg (by simp [h1,h2])] at hW;rw [hW];simp only [go_sem,TA,TN,lZ,BR,hk,hWl,n30,aL,aX (cZ _),ge_iff_le,gt_iff_lt,h1,h2,TG,MG,undef,hW4,hf,aGH _ _ _ _ hW4,aGI,WI,show g.nodes.length+1≤maxLen by unfold maxLen;omega,show (g.nodes.length+1)*392≤140737488355328 by omega];exact .inr (aAP g ⟨o,Af o,Wn,lv⟩).symm
 cases ah
 ·rw [if_pos (by simp [h1,h2])] at hW;rw [hW];simp only [go_sem,TA,TN,lZ,BR,hk,hWl,n30,aL,aX (cZ _),ge_iff_le,gt_iff_lt,h1,h2,TG,MG,undef,true_or]
 ·rw [if_neg (by simp [h1,h2])] at hW;rw [hW];simp only [go_sem,TA,TN,lZ,BR,hk,hWl,n30,aL,aX (cZ _),ge_iff_le,gt_iff_lt,h1,h2,TG,MG,undef,hW4,hf,aGH _ _ _ _ hW4,aGI,WI,show g.nodes.length+1≤maxLen by unfold maxLen;omega,show (g.nodes.length+1)*392≤140737488355328 by omega];exact .inr (aAP g ⟨o,Af o,Wn,lv⟩).symm
end
end
section
def CardM.K (c:CardM):List Value:=[.int .i64 c.Device,.int .i64 c.Member,.int .u64 c.Lead,.int .u64 c.Keep,.int .u64 c.Sign]
def aF5 (x y:CardM):Int:=x.Device-y.Device
def vU (l:List CardM):List CardM:=l.mergeSort λx y=>decide (x.Device≤y.Device)
structure cardsOk (l:List CardM):Prop where
 n:l.length≤1000
 ne:l≠[]
 cs:∀ c∈l,c.ok
 dv:∀ c∈l,0≤c.Device∧c.Device≤1000
 un:∀ c∈l,∀ d∈l,c.Device=d.Device→c=d
def yJ {l:List CardM} {c:CardM}:c∈vU l↔c∈l:=(U3 l _).mem_iff
def UM (l:List CardM):(vU l).length=l.length:=(U3 l _).length_eq
def SU {l:List CardM} (h:∀ c∈l,∀ d∈l,c.Device=d.Device→c=d) (x:Int) (c:CardM):l.find? (λc=>c.Device==x)=some c↔(c∈l∧c.Device=x):=by
 constructor
 ·intro e;exact ⟨NU e,by simpa using Ql e⟩
 ·rintro ⟨hm,hd⟩
  cases e:l.find? (λc=>c.Device==x) with
  | none=>exact absurd (Mu.1 e c hm) (by simp [hd])
  | some d =>
   have h1:=NU e;have h2:d.Device=x:=by simpa using Ql e
   rw [h d h1 c hm (by omega)]
def UN {l:List CardM} (h:cardsOk l) (d:Int):jT (vU l) d=jT l d:=by
 have:(vU l).find? (λc=>c.Device==d)=l.find? (λc=>c.Device==d):=by
  cases e:l.find? (λc=>c.Device==d) with
  | none =>
   rw [Mu] at e ⊢;intro c hc;exact e c (yJ.1 hc)
  | some c =>
   rw [SU h.un] at e;rw [SU (λc hc d hd=>h.un c (yJ.1 hc) d (yJ.1 hd))];exact ⟨yJ.2 e.1,e.2⟩
 rw [jT,jT,this]
section
variable {G:Nat→Option (List AV)}
set_option maxHeartbeats 4000000
def aCQ (x y:CardM) (hx:0≤x.Device∧x.Device≤1000) (hy:0≤y.Device∧y.Device≤1000):aC PQ G qD [.ag x.A,.ag y.A] [] λr T=>r=.v (.int .i64 (aF5 x y))∧T=[]:=by
 refine aF Hw (by decide) ?_;have w:IntKind.i64.wrap (x.Device-y.Device)=x.Device-y.Device:=aJ (by omega) (by omega);simp only [go_sem,CardM.A_def,w,aF5]
def aCR (l:List CardM) (hl:cardsOk l):aC PQ G jC [.own 0,.cl qD []] [some (.arr 5 (l.map CardM.A))] λr T=>r=.tup []∧T=[some (.arr 5 ((vU l).map CardM.A))]:=by
 let α:={c:CardM // c∈l}
 have:Inhabited α:=⟨⟨l.head hl.ne,List.head_mem hl.ne⟩⟩
 let cf:α→α→Int:=λx y=>aF5 x.1 y.1;have hlt:∀ x y:α,Go.Proofs.ltOf cf x y=decide (x.1.Device<y.1.Device):=by
  intro x y;unfold Go.Proofs.ltOf;show decide (x.1.Device-y.1.Device<0)=_;rw [oU];simp;omega
 have key:=aCo (α:=α) (k:=5) (enc:=λc=>c.1.K) Go.Proofs.Tryz.laysSortC Go.Proofs.Tryz.isAgg107 Go.Proofs.Tryz.sizeOf107 (λ_=>rfl) (λx v hv=>by simp [CardM.K] at hv;rcases hv with rfl | rfl | rfl | rfl | rfl<;>rfl)
  (λx c hc=>by simp [cellsOf,CardM.K] at hc;rcases hc with rfl | rfl | rfl | rfl | rfl<;>rfl) (cf:=cf)
  ⟨λx=>by rw [hlt];simp,λx y z h1 h2=>by rw [hlt] at *;simp at *;omega,λx y z h1 h2=>by rw [hlt] at *;simp at *;omega⟩
  (λx y h1 h2=>by rw [hlt] at *;simp at h1 h2;exact Subtype.ext (hl.un _ x.2 _ y.2 (by omega))) (g:=qD) (Go.Proofs.enters_of Go.Proofs.Tryz.func133 (by kernel_rfl) rfl) (Go.Proofs.enters_of Go.Proofs.Tryz.func132 (by kernel_rfl) rfl) (G:=G) (λx y=>aCQ x.1 y.1 (hl.dv _ x.2) (hl.dv _ y.2)) l.attach (by rw [List.length_attach];have:=hl.n;omega)
 have e1:l.attach.map (cellsOf λc:α=>c.1.K)=l.map CardM.A:=by
  rw [show (cellsOf λc:α=>c.1.K)=CardM.A∘Subtype.val from rfl,←Ee,aDl]
 have e2:(l.attach.mergeSort λx y=>!(Go.Proofs.ltOf cf y x)).map (cellsOf λc:α=>c.1.K)=(vU l).map CardM.A:=by
  rw [show (cellsOf λc:α=>c.1.K)=CardM.A∘Subtype.val from rfl,←Ee];congr 1;have hs:(λx y:α=>!(Go.Proofs.ltOf cf y x))=λx y:α=>decide (x.1.Device≤y.1.Device):=by
   funext x y;rw [hlt,oU];simp
  rw [hs,List.map_mergeSort (s:=λx y:CardM=>decide (x.Device≤y.Device)) (λa _ b _=>rfl),aDl];rfl
 rw [e1,e2] at key;exact key
def aF6 (l:List CardM) (hl:cardsOk l):aC PQ G yW [.ls 5 (l.map CardM.A)] [] λr T=>r=.ptr 0 0∧T=[some (.box [.own 1,.mp 2,.v (.slice none 0 0)]),some (.arr 5 ((vU l).map CardM.A)),some (MG [])]:=by
 refine aF Lj (by decide) ?_;have hn:=hl.n;simp only [go_sem];refine aS (aA _) rfl (yG (l.map CardM.A) (by rw [aL];omega)) ?_;simp only [go_sem];refine aI (T2:=[some (.arr 5 (l.map CardM.A))]) [0] (aA _) (by decide) (by simp) rfl (by simp only [go_sem]) (aCR l hl) ?_;rintro r T' ⟨rfl,rfl⟩;simp only [go_sem,MG,eQ,KS,kI]
def aGJ (l:List CardM) (hl:cardsOk l):aC PQ G yW [.ls 5 (l.map CardM.A)] [] λr T=>r=.ptr 0 0∧T=[some (.box [.ls 5 ((vU l).map CardM.A),.mp 1,.v (.slice none 0 0)]),some (MG [])]:=by
 refine (aF6 l hl).fin [1] ?_;rintro r T' ⟨rfl,rfl⟩;simp only [go_sem,MG,eQ,KS]
end
end
end Hud
