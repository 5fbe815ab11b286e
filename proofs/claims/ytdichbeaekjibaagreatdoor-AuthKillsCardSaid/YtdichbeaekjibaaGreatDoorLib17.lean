import Derived.Test.YtdichbeaekjibaaGreatDoorLib16
set_option linter.all false
namespace Hud
open Go
section
section
variable {G:Nat→Option (List AV)}
set_option maxHeartbeats 4000000
def ZT (g:PGM) (l:List Id) (r:AV) (T:aH):Prop:=(r=.own 0∧(l.filter λx=>!decide (x∈g.I))=l∧T=[some (.arr 3 (l.map Id.A)),some (.box [.ptr 2 0]),some (.box [.ls 5 (g.cards.map CardM.A),.mp 3,.own 4]),some (MG g.I),some (.arr 35 (g.nodes.map ND.A))]) ∨
 ∃ (L:List Id) (n:Nat),n≤L.length∧L.length=l.length∧L.take n=(l.filter λx=>!decide (x∈g.I))∧r=.vw 0 3 0 n∧T=[some (.arr 3 (L.map Id.A)),some (.box [.ptr 2 0]),some (.box [.ls 5 (g.cards.map CardM.A),.mp 3,.own 4]),some (MG g.I),some (.arr 35 (g.nodes.map ND.A))]
def PE (g:PGM) (l:List Id) (hl:l.length≤1000000):aC PQ G aW [.own 0,.cl cU [.ptr 1 0]] [some (.arr 3 (l.map Id.A)),some (.box [.ptr 2 0]),some (.box [.ls 5 (g.cards.map CardM.A),.mp 3,.own 4]),some (MG g.I),some (.arr 35 (g.nodes.map ND.A))] λr T =>
  ((r=.v (.int .i64 (-1))∧∀ x∈l,x∉g.I)∨(∃ j:Nat,j<l.length∧r=.v (.int .i64 (j:Int))∧(∀ x∈l.take j,x∉g.I)∧∃ h:j<l.length,l[j]∈g.I))∧T=[some (.arr 3 (l.map Id.A)),some (.box [.ptr 2 0]),some (.box [.ls 5 (g.cards.map CardM.A),.mp 3,.own 4]),some (MG g.I),some (.arr 35 (g.nodes.map ND.A))]:=by
 refine aD cP (by decide) ?_;unfold bX;simp only [go_sem,MG,aL];refine aJ l.length (λi=>⟨5,[(0,.own 0),(1,.cl cU [.ptr 1 0]),(7,.v (.int .i64 l.length)),(8,.v (.int .i64 i))],[some (.arr 3 (l.map Id.A)),some (.box [.ptr 2 0]),some (.box [.ls 5 (g.cards.map CardM.A),.mp 3,.own 4]),some (MG g.I),some (.arr 35 (g.nodes.map ND.A))]⟩) (λi=>∀ x∈l.take i,x∉g.I) ?_ (by simp) ?_ ?_
 ·simp only [go_sem,MG]
 ·intro i hi hj;simp only [go_sem,MG,aL,bG hi,hi,aI Id.A l i hi,Id.A_def];refine aG [1,2,3,4] (aA _) (by decide) (by simp) rfl (by simp only [go_sem,TG,MG]) (Nh g l[i]) ?_;rintro r T' ⟨rfl,rfl⟩;simp only [go_sem,TG,MG];refine aK (λh=>?_) (λh=>?_)<;>simp only [go_sem,MG,aF (show i<9223372036854775807 by omega)]
  ·grind
  ·refine λx hx=>?_;rw [oV hi] at hx;grind
 ·intro hj;rw [lP] at hj;simp only [go_sem,MG,aX (cN _)];exact .inl hj
def MU (g:PGM) (l:List Id) (hl:l.length≤1000000):aC PQ G aU [.own 0,.cl cU [.ptr 1 0]] [some (.arr 3 (l.map Id.A)),some (.box [.ptr 2 0]),some (.box [.ls 5 (g.cards.map CardM.A),.mp 3,.own 4]),some (MG g.I),some (.arr 35 (g.nodes.map ND.A))] (ZT g l):=by
 refine aD fD (by decide) ?_;unfold cW;simp only [go_sem,MG];refine aG [0,1,2,3,4] (aA _) (by decide) (by simp) rfl (by simp only [go_sem,MG]) (PE g l hl) ?_;rintro r T' ⟨hr,rfl⟩;rcases hr with ⟨rfl,hno⟩ | ⟨j0,hj0,rfl,hno,_,hin⟩
 ·simp only [go_sem,MG];refine .inl ⟨rfl,?_,rfl⟩;simp_all
 ·have e1:(((j0:Nat):Int)==-1)=false:=by rfl
  simp only [go_sem,MG,e1,aF (show j0<9223372036854775807 by omega)];refine jE (λm s=>∃ (i j:Nat) (L:List Id),m=l.length-j∧i<j∧j≤l.length∧L.length=l.length∧L.take i=((l.take j).filter λx=>!decide (x∈g.I))∧L.drop j=l.drop j∧s=⟨5,[(0,.own 0),(1,.cl cU [.ptr 1 0]),(5,.v (.int .i64 i)),(6,.v (.int .i64 j))],[some (.arr 3 (L.map Id.A)),some (.box [.ptr 2 0]),some (.box [.ls 5 (g.cards.map CardM.A),.mp 3,.own 4]),some (MG g.I),some (.arr 35 (g.nodes.map ND.A))]⟩) (l.length-(j0+1))
   ⟨j0,j0+1,l,rfl,by omega,by omega,rfl,?_,rfl,by simp only [go_sem,MG]⟩ ?_
  ·rw [oV hj0,Xb,List.filter_eq_self.2 (λx hx=>by simp [hno x hx])];simp [hin]
  rintro m s ⟨i,j,L,rfl,hij,hj,hL,ht,hd,rfl⟩;by_cases hlt:j<l.length
  ·have hjL:j<L.length:=by omega
   have hiL:i<L.length:=by omega
   have hLj:L[j]=l[j]:=by
    have h1:(L.drop j)[0]?=(l.drop j)[0]?:=by rw [hd]
    grind
   have hd2:L.drop (j+1)=l.drop (j+1):=by
    have:=congrArg (List.drop 1) hd;grind [List.drop_drop]
   simp only [go_sem,MG,aL,hL,bG hlt,hlt,aI Id.A L j hjL,Id.A_def];refine aG [1,2,3,4] (aA _) (by decide) (by simp) rfl (by simp only [go_sem,TG,MG]) (Nh g L[j]) ?_;rintro r T' ⟨rfl,rfl⟩;simp only [go_sem,TG,MG];refine aK (λh=>?_) (λh=>?_)
   ·have hnb:L[j]∉g.I:=by simpa using h
    simp only [go_sem,MG,aL,hL,show i<l.length by omega,aI Id.A L i hiL,Id.A_def,aF (show i<9223372036854775807 by omega),aF (show j<9223372036854775807 by omega)];refine ⟨l.length-(j+1),by omega,i+1,j+1,L.set i L[j],rfl,by omega,by omega,by simpa using hL,?_,?_,?_⟩
    ·rw [oV (by simpa using hiL),oV hlt,Xb,←ht,List.getElem_set_self,List.take_set_of_le (cT i)];simp_all
    ·rw [List.drop_set_of_lt (by omega),hd2]
    ·rw [Xq];rfl
   ·have hnb:L[j]∈g.I:=by simpa using h
    simp only [go_sem,MG,aF (show j<9223372036854775807 by omega)];refine ⟨l.length-(j+1),by omega,i,j+1,L,rfl,by omega,by omega,hL,?_,hd2,rfl⟩;rw [oV hlt,Xb,←ht];simp_all
  ·obtain rfl:j=l.length:=by omega
   rw [lP] at ht;have hil:i≤l.length:=by omega
   simp only [go_sem,MG,aL,hL,aX hlt,hil,show i+(l.length-i)=l.length by omega,Tw,kM,xS,Mn hil,Nat.sub_self];refine .inr ⟨L.take i++List.replicate (l.length-i) ⟨0,0,0⟩,i,by simp;omega,by simp;omega,?_,rfl,?_⟩
   ·grind
   ·simp only [jA,UB,Xl,Id.A_zero];rw [Ln (by simp;omega),nR];rfl
end
end
section
@[go_sem] def ZU {α:Type} (i k:Nat) (es:List (List AV)) (f:α→Value):∀ l:List α,Fb i k es (l.map λx=>.v (f x))=l.map λx=>.v (f x)
 | []=>rfl
 | x::l=>by show zH i k es (.v (f x))::Fb i k es (l.map λx=>.v (f x))=_;rw [ZU i k es f l];rfl
section
variable {G:Nat→Option (List AV)}
set_option maxHeartbeats 4000000
def AE (g:PGM) (o:OpM):List Id:=o.Past.filter λx=>!decide (x∈g.I)
def ZV (g:PGM) (o:OpM) (ho:o.ok):aC PQ G kJ [.ptr 0 0,.ag o.A] (TG 0 g) λr T=>(r=.own 3∧T=TG 0 g++[some (.arr 3 ((AE g o).map Id.A))])∨∃ (L:List Id) (n:Nat),n≤L.length∧L.take n=AE g o∧r=.vw 3 3 0 n∧T=TG 0 g++[some (.arr 3 (L.map Id.A))]:=by
 refine aD BY (by decide) ?_;have hp:=ho.past.1;simp only [go_sem,TG,MG];refine aQ (aA _) rfl (VA o.Past (by omega)) ?_;simp only [go_sem];refine aG [5,3,0,1,2] (aA _) (by decide) (by simp) rfl (by simp only [go_sem,MG]) (MU g o.Past (by omega)) ?_;rintro r T' (⟨rfl,he,rfl⟩ | ⟨L,n,hn,hL,ht,rfl,rfl⟩)
 ·simp only [go_sem,MG];left;rw [AE,he]
 ·simp only [go_sem,MG];exact .inr ⟨L,n,hn,ht,rfl,rfl⟩
def aBf (g:PGM) (o:OpM) (ho:o.ok):aC PQ G kJ [.ptr 0 0,.ag o.A] (TG 0 g) λr T=>r=ids (AE g o)∧T=TG 0 g:=by
 refine (ZV g o ho).fin [3] ?_;rintro r T' (⟨rfl,rfl⟩ | ⟨L,n,hn,ht,rfl,rfl⟩)
 ·simp only [go_sem,TG,MG]
 ·have h1:(L.map Id.A).take n=(AE g o).map Id.A:=by rw [←UB,ht]
  have h2:n≤(L.map Id.A).length:=by simpa using hn
  generalize L.map Id.A=E at h1 h2;simp only [go_sem,TG,MG,h2,h1]
end
end
section
def PGM.at (g:PGM) (x:Id):Nat:=(g.I.findIdx? λy=>decide (y=x)).getD 0
def z4:List Nat:=[0,0,0,0]
def TI:ND:=⟨default,⟨0,0,0⟩,z4,0⟩
def PGM.nd (g:PGM) (x:Id):ND:=g.nodes.getD (g.at x) TI
def FN (g:PGM) (l:List Id):List Nat:=l.foldl (λW x=>MT W (g.at x)) z4
def FO (g:PGM) (l:List Id):List Nat:=l.foldl (λW x=>Hy W (g.nd x).W) z4
def Eb (g:PGM) (l:List Id):Int:=l.foldl (λm x=>max m (g.nd x).o.At) 0
def DO (g:PGM) (l:List Id):Int:=l.foldl (λm x=>max m ((g.nd x).lv+1)) 1
def Ai (W V:List Nat):List Nat:=List.zipWith (λa b=>a &&& b) W V
def xU (nodes:List ND) (o:OpM) (W:List Nat):Nat→Int×Bool
 | 0=>(0,false)
 | i+1=>if ((nodes.getD i TI).o.By==o.By)&&mT W i then (max (xU nodes o W i).1 (nodes.getD i TI).o.Seq,(xU nodes o W i).2||((nodes.getD i TI).o.Seq==o.Seq-1)) else xU nodes o W i
def xK (g:PGM) (o:OpM):List Nat:=Hy (FO g o.Past) (FN g o.Past)
def JN (g:PGM) (o:OpM):Bool :=
 decide (o.Seq≤(xU g.nodes o (xK g o) g.nodes.length).1)||(decide (1<o.Seq)&&!(xU g.nodes o (xK g o) g.nodes.length).2)
def Ni (g:PGM) (o:OpM):PGM×Int :=
 if !(Ai (FN g o.Past) (FO g o.Past)==z4&&!decide (o.At<Eb g o.Past)) then (g,6)
 else if JN g o then (g,11)
 else (⟨g.cards,g.nodes++[⟨o,Ao o,xK g o,DO g o.Past⟩]⟩,0)
def LP (g:PGM) (o:OpM):PGM×Int :=
 if Ao o∈g.I then (g,5)
 else if 200≤g.nodes.length then (g,3)
 else if (eK g.cards o.By).2=false then (g,17)
 else if ((o.By==(eK g.cards o.By).1.Device)&&xT (eK g.cards o.By).1.Sign o.B o.SR o.SS)=false then (g,12)
 else if ((o.Kind==1)&&decide (0<g.nodes.length))=true then (g,1)
 else if 0<(AE g o).length then (g,10)
 else Ni g o
def oS (g:PGM) (o:OpM):PGM×Int:=if rK o≠0 then (g,rK o) else LP g o
structure PGM.ok (g:PGM):Prop where
 n:g.nodes.length≤200
 cn:g.cards.length≤1000
 cs:∀ c∈g.cards,c.ok
 ops:∀ x∈g.nodes,x.o.ok
 ids:∀ x∈g.nodes,x.id.ok
 ws:∀ x∈g.nodes,FU x.W
 lv:∀ x∈g.nodes,0≤x.lv∧x.lv≤g.nodes.length
def ND.Alen (x:ND) (h:x.W.length=4):x.A.length=35:=by
 simp only [ND.A,gK,aL,h,OpM.len];rfl
def TA (g:PGM) (o:OpM):aH:=[some (.box [.ls 5 (g.cards.map CardM.A),.mp 1,.own 2]),some (.map true (g.I.map Id.K) ((List.range g.I.length).map λi:Nat=>iv (i:Int)) (List.range g.I.length) g.I.length),some (.arr 35 (g.nodes.map ND.A)),some (.box o.A)]
def TN (o:OpM) (W:List Nat) (lv:Int):Option AObj:=some (.box (o.A++((Ao o).A++(lC W++[iv lv]))))
def LQ:FU z4:=⟨rfl,λw hw=>by simp [z4] at hw;omega⟩
def RH {g:PGM} (hg:g.ok) (x:Id):FU (g.nd x).W:=by
 unfold PGM.nd;rw [uW];rcases gM (g.at x) g.nodes.length with h | h
 ·rw [nQ h];exact hg.ws _ (iN h)
 ·rw [oW h];exact LQ
def ZW (g:PGM) (l:List Id) (x:Id):FN g (l++[x])=MT (FN g l) (g.at x):=by simp [FN]
def ZX (g:PGM) (l:List Id) (x:Id):FO g (l++[x])=Hy (FO g l) (g.nd x).W:=by simp [FO]
def W0 (g:PGM) (l:List Id) (x:Id):Eb g (l++[x])=max (Eb g l) (g.nd x).o.At:=by simp [Eb]
def ZY (g:PGM) (l:List Id) (x:Id):DO g (l++[x])=max (DO g l) ((g.nd x).lv+1):=by simp [DO]
def PF {α:Type} (p:List Nat→Prop) (f:List Nat→α→List Nat) (hf:∀ W x,p W→p (f W x)):∀ (l:List α) (W:List Nat),p W→p (l.foldl f W)
 | [],_,h=>h
 | x::l,W,h=>PF p f hf l (f W x) (hf W x h)
def Ga (g:PGM) (l:List Id):FU (FN g l):=PF FU _ (λW x h=>U9 h _) l z4 LQ
def Gb {g:PGM} (hg:g.ok) (l:List Id):FU (FO g l):=PF FU _ (λW x h=>PA h (RH hg x)) l z4 LQ
def aFb (o:OpM) (i:Id) (X:List AV):(o.A++(i.A++X)).drop 30=X:=by
 rfl
def tk4 (W:List Nat) (h:W.length=4) (X:List AV):(lC W++X).take 4=lC W:=Pn (by rw [aL,h])
def ZZ (o:OpM) (X:List AV) (k:Nat) (h:k<27):(o.A++X)[k]?=o.A[k]?:=JQ (by rw [OpM.len];exact h)
def aDq (o:OpM) (i:Id) (W:List Nat) (lv:AV) (h:W.length=4):(o.A++(i.A++(lC W++[lv]))).drop 34=[lv]:=by
 rw [show 34=o.A.length+7 by rw [OpM.len],Tq,show 7=i.A.length+4 from rfl,Tq,show 4=(lC W).length by rw [aL,h]];simp
def aCf (o:OpM) (i:Id) (W:List Nat) (lv:AV) (h:W.length=4):(o.A++(i.A++(lC W++[lv])))[34]?=some lv:=by
 have:=congrArg (λl=>l[0]?) (aDq o i W lv h);simpa using this
def aFc (o:OpM) (i:Id) (W:List Nat) (lv:AV) (h:W.length=4):(o.A++(i.A++(lC W++[lv]))).drop 35=[]:=by
 have:=congrArg (λl=>l.drop 1) (aDq o i W lv h);simpa using this
def aFd (o:OpM) (i:Id) (W:List Nat) (lv:AV) (h:W.length=4):(o.A++(i.A++(lC W++[lv]))).take 34=o.A++(i.A++lC W):=by
 rw [show o.A++(i.A++(lC W++[lv]))=(o.A++(i.A++lC W))++[lv] by simp];exact Pn (by simp only [gK,aL,h,OpM.len];rfl)
def RI {W V:List Nat} (hW:FU W) (hV:FU V):(Ai W V).length=4:=by unfold Ai;rw [aBK,hW.1,hV.1];rfl
def W2 (W V:List Nat) (hl:V.length=W.length) (i:Nat) (h:i<W.length):(Ai W V).take (i+1)++W.drop (i+1)=((Ai W V).take i++W.drop i).set i (W.getD i 0 &&& V.getD i 0):=by
 have hol:(Ai W V).length=W.length:=by grind [Ai,List.length_zipWith]
 have hlt:((Ai W V).take i).length=i:=by simp_all;omega
 have e:(Ai W V)[i]'(by omega)=W.getD i 0 &&& V.getD i 0:=by
  grind [Ai]
 rw [oV (by omega),jI,e,VX h,Xf _ _ (by omega),hlt,Nat.sub_self];rfl
end
section
def aIi (o:OpM) (X:List AV):(o.A++X).take 27=o.A:=Pn (OpM.len o)
def aIj (o:OpM) (a b c:AV) (X:List AV):(o.A++(a::b::c::X)).drop 30=X:=by
 rfl
def aIk (o:OpM) (i:Id) (a b c d e:AV):(o.A++i.A++[a,b,c,d,e]).take 34=o.A++(i.A++[a,b,c,d]):=by
 rfl
def aIl (o:OpM) (i:Id) (a b c d e:AV):(o.A++i.A++[a,b,c,d,e]).drop 35=[]:=by
 rfl
def aBg (o:OpM) (X:List AV):(o.A++X).drop 27=X:=List.drop_left' (OpM.len o)
def tk3 (i:Id) (X:List AV):(i.A++X).take 3=i.A:=Pn rfl
def TL (g:PGM) (o:OpM) (i:Nat):aH:=TA g o++[TN o z4 (DO g (o.Past.take i)),some (.box (lC (FN g (o.Past.take i)))),some (.box (lC (FO g (o.Past.take i))))]
def mx (a b:Int):(if b>a then b else a)=max a b:=by omega
def aIm (o:OpM) (i:Id) (X:List AV):(o.A++(i.A++X)).take 30=o.A++i.A:=by
 rfl
def W3 {o:OpM} (h:rK o=0):1≤o.Seq:=(Bm (by rw [←wW];exact h)).1
def aFe (o:OpM) (i:Id) (W:List Nat) (lv:AV) (h:W.length=4):(o.A++(i.A++(lC W++[lv]))).take 35=o.A++(i.A++(lC W++[lv])) :=
 xR (by simp only [gK,aL,h,OpM.len];exact cT _)
def aFf (o:OpM) (i:Id) (W:List Nat) (lv:Int):(o.A++(i.A++(lC W++[iv lv]))).all eO=true:=by
 simp only [T8,OpM.one,kN];simp [Id.A,lC,eO]
def VC (o:OpM) (i:Id) (W:List Nat) (lv:Int):(o.A++(i.A++(lC W++[iv lv]))).all aO=true:=by
 simp only [T8,OpM.closed,kN];simp [Id.A,lC,aO]
def TH (g:PGM):aH:=[some (.box [.ls 5 (g.cards.map CardM.A),.mp 1,.own 3]),some (MG g.I),none,some (.arr 35 (g.nodes.map ND.A))]
def Za (g:PGM) (n:ND):TH ⟨g.cards,g.nodes++[n]⟩=[some (.box [.ls 5 (g.cards.map CardM.A),.mp 1,.own 3]),some (.map true (g.I.map Id.K++[n.id.K]) ((List.range g.I.length).map (λx:Nat=>AV.v (Value.int IntKind.i64 (x:Int)))++[AV.v (Value.int IntKind.i64 (g.nodes.length:Int))]) (List.range g.I.length++[g.I.length]) (g.I.length+1)),none,some (.arr 35 (g.nodes.map ND.A++[n.A]))]:=by
 have hI:PGM.I ⟨g.cards,g.nodes++[n]⟩=g.I++[n.id]:=by simp [PGM.I]
 have hl:g.I.length=g.nodes.length:=by simp [PGM.I]
 simp only [TH,MG,hI,gK,Mc,jA,Pe,fE,mE,hl]
section
variable {G:Nat→Option (List AV)}
set_option maxHeartbeats 8000000
def aDr (hK:GK G) (g:PGM) (o:OpM) (hg:g.ok) (ho:o.ok):aC PQ G rD [.ptr 0 0,.ag o.A] (TG 0 g) λr T=>r=iv (oS g o).2∧((T=TG 0 (oS g o).1∧(oS g o).1=g)∨T=TH (oS g o).1):=by
 refine aD C3 (by decide) ?_;dsimp only [go_sem];have hn:=hg.n;have hpl:=ho.past.1;simp only [go_sem,TG,MG];refine aB (aA _) rfl (Ss hK o ho) rfl ?_;simp only [go_sem];refine aK (λh=>?_) (λh=>?_)
 ·simp only [bne_iff_ne,ne_eq] at h;simp only [go_sem,oS,h,true_or]
 simp only [bne_eq_false_iff_eq] at h;have k1:=h;have hW:oS g o=LP g o:=by grind [oS]
 unfold LP at hW;clear h;refine bP (λs=>s=⟨3,[(3,.ptr 3 0),(0,.ptr 0 0)],TA g o⟩) (by simp only [go_sem,TA]) ?_;rintro s rfl;rw [aS];refine bP (λs=>s=⟨3,[(0,.ptr 0 0),(3,.ptr 3 0),(6,.ptr 4 0)],TA g o++[TN o z4 1]⟩) ?_ ?_
 ·simp only [go_sem,TA];refine And.intro ?_ ?_
  all_goals refine aB (aA _) rfl (PD o ho) rfl ?_
  all_goals simp only [go_sem]
  all_goals try with_reducible refine And.intro ?_ ?_
  all_goals refine aB (aA _) rfl (aB8 o ho) rfl ?_
  all_goals simp only [go_sem,aIi,aIj,aIk,aIl,TN,nR,T8,Xu,eO]
  all_goals rfl
 rintro s rfl;have hWl:z4.length=4:=rfl;have n30:30≤27+(3+(4+1)):=by decide
 have hk:=Bq (Ao o);have hf:=yX (Ao o) g.I 0;by_cases hx:Ao o∈g.I
 ·rw [hW,if_pos hx];obtain ⟨j,h1,h2,_⟩:=fN hx;rw [h1] at hf;have gv:=xJ g.I.length j h2;simp only [lA,wK] at hf;simp only [go_sem,TA,TN,aBg,tk3,hWl,n30,hf,gv,true_or]
 rw [kA hx] at hf;rw [if_neg hx] at hW;simp only [JV] at hf;rw [aS];refine bP (λs=>s=⟨3,[(0,.ptr 0 0),(3,.ptr 3 0),(6,.ptr 4 0)],TA g o++[TN o z4 1]⟩) ?_ ?_
 ·simp only [go_sem,TA,TN,aBg,tk3,hWl,n30,hf]
 rintro s rfl;have d200:decide ((200:Int)≤(g.nodes.length:Int))=decide (200≤g.nodes.length):=by grind
 simp only [go_sem,TA,TN,aL,ge_iff_le,d200];refine aK (λh=>?_) (λh=>?_)<;>simp only [decide_eq_true_eq,decide_eq_false_iff_not] at h
 ·rw [hW,if_pos h];simp only [go_sem,true_or]
 rw [if_neg h] at hW;have h200:=h;clear h d200;simp only [go_sem];refine aG [0,1,2] (aA _) (by decide) (by simp) rfl (by simp only [go_sem,TG,MG]) (VB g o.By hg.cn) ?_;rintro r T' ⟨rfl,rfl⟩;simp only [go_sem,TG,MG,CardM.A_def];cases hc:(eK g.cards o.By).2
 ·rw [hW,if_pos hc];simp only [go_sem,true_or]
 rw [if_neg (by simp [hc])] at hW;have hcs:=RC (d:=o.By) hg.cs;generalize (eK g.cards o.By).1=c at *
 simp only [go_sem];refine aB (aA _) rfl (ZN c o ho hcs) rfl ?_;simp only [go_sem];cases hsg:((o.By==c.Device)&&xT c.Sign o.B o.SR o.SS)
 ·rw [hW,if_pos hsg];simp only [go_sem,true_or]
 rw [if_neg (by simp [hsg])] at hW;have hpos:decide ((g.nodes.length:Int)>0)=decide (0<g.nodes.length):=by simp
 refine bP (λs=>s=⟨3,[(0,.ptr 0 0),(3,.ptr 3 0),(6,.ptr 4 0)],TA g o++[TN o z4 1,some (.box [iv c.Device,iv c.Member,uv c.Lead,uv c.Keep,uv c.Sign])]⟩) ?_ ?_
 ·rfl
 rintro s rfl;rw [aS];refine bP (λs=>s=⟨3,[(0,.ptr 0 0),(3,.ptr 3 0),(6,.ptr 4 0)],TA g o++[TN o z4 1,some (.box [iv c.Device,iv c.Member,uv c.Lead,uv c.Keep,uv c.Sign])]⟩∧((o.Kind==1)&&decide (0<g.nodes.length))=false) ?_ ?_
 ·cases hK:(o.Kind==1)
  ·simp only [go_sem,TA,TN,hK,undef]
  ·cases h2:decide (0<g.nodes.length)
   ·simp only [go_sem,TA,TN,aL,hpos,hK,h2]
   ·rw [hW,if_pos (by rw [hK,h2];rfl)];simp only [go_sem,TA,TN,aL,hpos,hK,h2,true_or]
 rintro s ⟨rfl,hkn⟩;rw [if_neg (by simp [hkn])] at hW;simp only [go_sem,TA,TN];refine aG [0,1,2] (aA _) (by decide) (by simp) rfl (by simp only [go_sem,TG,MG]) (aBf g o ho) ?_;rintro r T' ⟨rfl,rfl⟩;have dl:decide (((AE g o).length:Int)>0)=decide (0<(AE g o).length):=by simp
 simp only [go_sem,TG,MG,aL,dl];refine aK (λh=>?_) (λh=>?_)<;>simp only [decide_eq_true_eq,decide_eq_false_iff_not] at h
 ·rw [hW,if_pos h];simp only [go_sem,true_or]
 rw [if_neg h] at hW;have hlk:∀ x∈o.Past,x∈g.I:=by
  intro x hxp;have h0:AE g o=[]:=H7 (by omega);have:=List.filter_eq_nil_iff.1 h0 x hxp;simpa using this
 clear h dl;simp only [go_sem];refine aJ o.Past.length (λi=>⟨3,[(0,.ptr 0 0),(3,.ptr 3 0),(6,.ptr 4 0),(11,.ptr 5 0),(12,.ptr 6 0),(13,iv (Eb g (o.Past.take i))),(80,ids o.Past),(81,iv o.Past.length),(82,iv i)],TL g o i⟩) (λ_=>True) ?_ trivial ?_ ?_
 ·simp only [go_sem,TA,TN,TL,rY,FN,FO,Eb,DO,JW,z4];rfl
 ·intro i hi _;have ws:=aF (show i<9223372036854775807 by omega);have g0:(o.Past.map Id.A)[i]?=some o.Past[i].A:=aI _ o.Past i hi;have hxI:=hlk _ (iN hi);obtain ⟨j,f1,f2,_⟩:=fN hxI;have ft:=oV hi;have hk2:=Bq o.Past[i];have hf2:=yX o.Past[i] g.I 0;rw [f1] at hf2;simp only [lA,wK] at hf2;have gv:=xJ g.I.length j f2;have hjn:j<g.nodes.length:=by grind [PGM.I]
  have hat:g.at o.Past[i]=j:=by grind [PGM.at]
  have hnd:g.nd o.Past[i]=g.nodes[j]:=by grind [PGM.nd]
  have g1:(g.nodes.map ND.A)[j]?=some (g.nodes[j].o.A++(g.nodes[j].id.A++(lC g.nodes[j].W++[iv g.nodes[j].lv]))):=aI _ g.nodes j hjn;have hxl:=hg.lv _ (iN hjn);have hxW:=hg.ws _ (iN hjn);have eP:=ZW g (o.Past.take i) o.Past[i];have eA:=ZX g (o.Past.take i) o.Past[i];have eL:=W0 g (o.Past.take i) o.Past[i];have eV:=ZY g (o.Past.take i) o.Past[i];rw [←ft,hat] at eP;rw [←ft,hnd] at eA eL eV;have oP:=Ga g (o.Past.take i);have oA:=Gb hg (o.Past.take i);simp only [TL];generalize FN g (o.Past.take i)=Pa at *
  generalize FO g (o.Past.take i)=Ab at *
  generalize Eb g (o.Past.take i)=la at *
  generalize DO g (o.Past.take i)=lv at *
  clear hat hnd;generalize g.nodes[j]=x at *
  have w1:IntKind.i64.wrap (x.lv+1)=x.lv+1:=bF (by omega) (by omega);have hx4:=hxW.1;simp only [go_sem,TA,TN,aL,bG hi,g0,hf2,gv,hjn];refine aG (T2:=[some (.box (lC Pa))]) [5] (aA _) (by decide) (by simp) rfl (by simp only [go_sem]) (Wy Pa j oP (by omega)) ?_;rintro r T' rfl;have n34:34≤27+(3+(4+1)):=by decide
  simp only [go_sem,aL,g1,aFb,tk4 _ hx4,hx4,n34];refine aG (T2:=[some (.box (lC Ab))]) (args2:=[.ptr 0 0,.ag (lC x.W)]) [6] (aA _) (by decide) (by simp) (by simp only [go_sem]) (by simp only [go_sem]) (TF Ab x.W oA hxW) ?_;rintro r T' rfl;simp only [go_sem,TA,TN,hWl,TL,aL,g1,ZZ,aCf _ _ _ _ hx4,aCf _ _ _ _ hWl,aFd _ _ _ _ hWl,aFc _ _ _ _ hWl,w1,ws,eP,eA,eL,eV,mx,jI]
 intro _;rw [lP];have oP:=Ga g o.Past;have oA:=Gb hg o.Past;unfold Ni JN xK at hW;have hT0:TL g o o.Past.length=TA g o++[TN o z4 (DO g o.Past),some (.box (lC (FN g o.Past))),some (.box (lC (FO g o.Past)))]:=by rw [TL,lP]
 rw [hT0];clear hT0;generalize FN g o.Past=Pa at *
 generalize FO g o.Past=Ab at *
 generalize DO g o.Past=lv at *
 generalize Eb g o.Past=la at *
 have hP4:=oP.1;have hA4:=oA.1;have tP:(lC Pa).take 4=lC Pa:=xR (by rw [aL,hP4];decide);have tA:(lC Ab).take 4=lC Ab:=xR (by rw [aL,hA4];decide);have oPl:(lC Pa).all eO=true:=by simp [lC,eO]
 simp only [go_sem,TA,TN,aL,aX (cN _),hP4,tP,oPl];have hol:=RI oP oA;refine aJ 4 (λi=>⟨3,[(0,.ptr 0 0),(3,.ptr 3 0),(6,.ptr 4 0),(11,.ptr 5 0),(12,.ptr 6 0),(13,iv la),(17,.ptr 7 0),(127,iv i)],TA g o++[TN o z4 lv,some (.box (lC Pa)),some (.box (lC Ab)),some (.box (lC ((Ai Pa Ab).take i++Pa.drop i)))]⟩) (λ_=>True) ?_ trivial ?_ ?_
 ·simp only [go_sem,TA,TN,rY,UA,gW]
 ·intro i hi _;have ws:=aF (show i<9223372036854775807 by omega);have hX:((Ai Pa Ab).take i++Pa.drop i).length=4:=by simp_all;omega
  have gX:((Ai Pa Ab).take i++Pa.drop i).getD i 0=Pa.getD i 0:=by
   grind
  have eX:=W2 Pa Ab (by omega) i (by omega);have a1:=HV (Pa.getD i 0) (Ab.getD i 0) (vZ oP _) (vZ oA _);have gv:=Bn Ab i (by omega);generalize hXd:(Ai Pa Ab).take i++Pa.drop i=X at *
  have gx:=Bn X i (by omega);rw [gX] at gx;have es:(lC X).take i++[uv (Pa.getD i 0 &&& Ab.getD i 0)]++(lC X).drop (i+1)=lC (X.set i (Pa.getD i 0 &&& Ab.getD i 0)):=by
   show _=(X.set i (Pa.getD i 0 &&& Ab.getD i 0)).map λw=>uv w;rw [Xq,aBJ,if_pos (by rw [aL,hX];exact hi),jI];rfl
  have d1:decide ((i:Int)<4)=true:=decide_eq_true (by omega);have i1:(i:Int)<4:=by omega
  simp only [go_sem,TA,TN,aL,i1,hX,gx,gv,↓a1,es,ws,eX,FX,qT,show i≤3 by omega]
 intro _;rw [xR (by omega),Ln (by omega),nR];obtain ⟨b0,b1,b2,b3,hb⟩:∃ a b c d:Nat,Ai Pa Ab=[a,b,c,d]:=by
  match h:Ai Pa Ab,hol with
  | [a,b,c,d],_=>exact ⟨a,b,c,d,rfl⟩
 rw [hb] at hW ⊢;have e4:(((b0:Nat):Int)==0&&(((b1:Nat):Int)==0&&(((b2:Nat):Int)==0&&((b3:Nat):Int)==0)))=([b0,b1,b2,b3]==z4):=by
  rw [rX];simp [z4]
 cases he:([b0,b1,b2,b3]==z4)
 ·rw [hW,if_pos (by rw [he];rfl)];simp only [go_sem,TA,TN,e4,he,undef,true_or]
 cases hl:decide (o.At<la);rotate_left
 ·rw [hW,if_pos (by rw [he,hl];rfl)];simp only [go_sem,TA,TN,e4,he,hl,true_or]
 rw [if_neg (by rw [he,hl];decide)] at hW;have oAl:(lC Ab).all eO=true:=by simp [lC,eO]
 simp only [go_sem,TA,TN,hWl,e4,he,hl,hA4,tA,aDq _ _ _ _ hWl,aIm,oAl,hP4,tP];refine aG (T2:=[some (.box ((o.A++(Ao o).A)++(lC Ab++[iv lv])))]) (args2:=[.ptr 0 30,.ag (lC Pa)]) [4] (aA _) (by decide) (by simp) (by simp only [go_sem]) (by simp only [go_sem,jI]) (H2 (o.A++(Ao o).A) [iv lv] 30 (by rw [gK,OpM.len];rfl) Ab Pa oA oP (by simp only [go_sem]) rfl) ?_;rintro r T' rfl;have hLl:=PA oA oP;generalize Hy Ab Pa=Wn at *
 simp only [go_sem,jI];have hW4:=hLl.1;have w2:IntKind.i64.wrap (o.Seq-1)=o.Seq-1:=bF (by have:=W3 k1;omega) (by have:=(ho.ints o.Seq (by simp)).2;omega);refine aJ g.nodes.length (λi=>⟨3,[(0,.ptr 0 0),(3,.ptr 3 0),(6,.ptr 4 0),(19,iv (xU g.nodes o Wn i).1),(20,.v (.bool (xU g.nodes o Wn i).2)),(157,iv g.nodes.length),(158,iv i)],TA g o++[TN o Wn lv]⟩) (λ_=>True) ?_ trivial ?_ ?_
 ·simp only [go_sem,TA,TN,xU]
 ·intro i hi _;have ws:=aF (show i<9223372036854775807 by omega);have g1:(g.nodes.map ND.A)[i]?=some (g.nodes[i].o.A++(g.nodes[i].id.A++(lC g.nodes[i].W++[iv g.nodes[i].lv]))):=aI _ g.nodes i hi;have gd:g.nodes.getD i TI=g.nodes[i]:=by rw [uW,nQ hi];rfl
  have sq:xU g.nodes o Wn (i+1)=if ((g.nodes[i].o.By==o.By)&&mT Wn i) then (max (xU g.nodes o Wn i).1 g.nodes[i].o.Seq,(xU g.nodes o Wn i).2||(g.nodes[i].o.Seq==o.Seq-1)) else xU g.nodes o Wn i:=by
   rw [xU,gd]
  generalize xU g.nodes o Wn (i+1)=S1 at *
  generalize xU g.nodes o Wn i=S at *
  obtain ⟨la1,ah⟩:=S;clear gd;generalize g.nodes[i]=x at *
  cases hby:(x.o.By==o.By)
  ·rw [hby,kC,if_neg (by decide)] at sq;simp only [go_sem,TA,TN,aL,bG hi,hi,g1,ZZ,hby,undef,ws,sq]
  rw [hby,kN] at sq;simp only [go_sem,TA,TN,aL,bG hi,hi,g1,ZZ,hby];refine aG (T2:=[some (.box ((o.A++(Ao o).A)++(lC Wn++[iv lv])))]) (args2:=[.ptr 0 30,iv i]) [4] (aA _) (by decide) (by simp) (by simp only [go_sem]) (by simp only [go_sem,jI]) (Wz (o.A++(Ao o).A) [iv lv] 30 (by rw [gK,OpM.len];rfl) Wn i hLl (by omega) (by simp only [go_sem]) rfl) ?_;rintro r T' ⟨rfl,rfl⟩;cases hh:mT Wn i
  ·rw [hh,if_neg (by decide)] at sq;simp only [go_sem,TA,TN,jI,ws,sq]
  rw [hh,if_pos rfl] at sq;cases ah
  ·simp only [go_sem,TA,TN,jI,g1,ZZ,ws,sq,w2,mx]
  ·simp only [go_sem,TA,TN,jI,g1,ZZ,ws,sq,mx,undef]
 intro _;generalize xU g.nodes o Wn g.nodes.length=S at *
 obtain ⟨la1,ah⟩:=S;have hdl:(g.nodes.map ND.A).length=g.nodes.length:=aL _;cases h1:decide (o.Seq≤la1);rotate_left
 ·rw [if_pos (by simp [h1])] at hW;rw [hW];simp only [go_sem,TA,TN,aX (cN _),ge_iff_le,h1,undef,true_or]
 have fin:∀ b3:Bool,decide (1<o.Seq)=b3→(b3=true→ah=false)→True:=λ_ _ _=>trivial;clear fin;cases h2:decide (1<o.Seq)
 ·rw [if_neg (by simp [h1,h2])] at hW;rw [hW];simp only [go_sem,TA,TN,aBg,tk3,n30,aL,aX (cN _),ge_iff_le,gt_iff_lt,h1,h2,undef,hW4,hf,aFe _ _ _ _ hW4,aFf,VC,show g.nodes.length+1≤maxLen by unfold maxLen;omega,show (g.nodes.length+1)*392≤140737488355328 by omega];exact .inr (Za g ⟨o,Ao o,Wn,lv⟩).symm
 cases ah
 ·rw [if_pos (by simp [h1,h2])] at hW;rw [hW];simp only [go_sem,TA,TN,aX (cN _),ge_iff_le,gt_iff_lt,h1,h2,true_or]
 ·rw [if_neg (by simp [h1,h2])] at hW;rw [hW];simp only [go_sem,TA,TN,aBg,tk3,n30,aL,aX (cN _),ge_iff_le,gt_iff_lt,h1,h2,undef,hW4,hf,aFe _ _ _ _ hW4,aFf,VC,show g.nodes.length+1≤maxLen by unfold maxLen;omega,show (g.nodes.length+1)*392≤140737488355328 by omega];exact .inr (Za g ⟨o,Ao o,Wn,lv⟩).symm
end
end
section
section
variable {G:Nat→Option (List AV)}
set_option maxHeartbeats 4000000
def RJ {g:PGM} {x:Id} {j:Nat} (h:g.I.findIdx? (λy=>decide (y=x))=some j):g.nd x=g.nodes.getD j TI:=by
 simp [PGM.nd,PGM.at,h]
end
end
section
def Nj:List AV:=[iv 0,iv 0,iv 0,iv 0,.v (.slice none 0 0),iv 0,iv 0,iv 0,iv 0,.v (.slice none 0 0),iv 0,iv 0,.v (.int .u64 0),iv 0,.v (.slice none 0 0),.v (.slice none 0 0),iv 0,iv 0,.v (.int .u64 0),.v (.slice none 0 0),iv 0,iv 0,.v (.slice none 0 0),.v (.int .u64 0),.v (.slice none 0 0),.v (.int .u64 0),.v (.int .u64 0)]
def ndT (n:ND):n.A.take 27=n.o.A:=by
 rfl
section
variable {G:Nat→Option (List AV)}
set_option maxHeartbeats 4000000
def aBh {g:PGM} (hg:g.ok) {x:Id} (hx:x∈g.I):(g.nd x).o.ok:=by
 obtain ⟨j,h1,h2,_⟩:=fN hx;have hj:j<g.nodes.length:=by grind [PGM.I]
 rw [RJ h1,uW,nQ hj];exact hg.ops _ (iN hj)
def Zb (g:PGM) (hg:g.ok) (x:Id) (hx:x∈g.I):aC PQ G bE [.ptr 0 0,.ag x.A] (TG 0 g) λr T=>r=.tup [.ag (g.nd x).o.A,.v (.bool true)]∧T=TG 0 g:=by
 refine aD oL (by decide) ?_;unfold oE;have hk:=Bq x;have hf:=yX x g.I 0;obtain ⟨j,h1,h2,_⟩:=fN hx;have hnd:=RJ h1;rw [h1] at hf;have gv:=xJ g.I.length j h2;have hj:j<g.nodes.length:=by grind [PGM.I]
 have gn:(g.nodes.map ND.A)[j]?=some (g.nd x).A:=by
  simp_all
 have hW:=(RH hg x).1;have gA:=ND.Alen (g.nd x) hW;have gT:=ndT (g.nd x);have ho:=aBh hg hx;simp only [lA,wK] at hf;generalize (g.nd x)=n at *
 simp only [go_sem,TG,MG,hf,gv,aL,hj,gn,gA,gT];refine aB (aA _) rfl (PD n.o ho) rfl ?_;simp only [go_sem]
def W4 (g:PGM) (x:Id) (hx:x∉g.I):aC PQ G bE [.ptr 0 0,.ag x.A] (TG 0 g) λr T=>r=.tup [.ag Nj,.v (.bool false)]∧T=TG 0 g:=by
 refine aD oL (by decide) ?_;unfold oE;have hk:=Bq x;have hf:=yX x g.I 0;rw [kA hx] at hf;simp only [JV] at hf;simp only [go_sem,TG,MG,hf,Nj]
end
section
variable {G:Nat→Option (List AV)}
set_option maxHeartbeats 4000000
end
end
section
def ED (g:PGM) (x y:Id):Bool:=decide (x∈g.I)&&(decide (y∈g.I)&&mT (g.nd y).W (g.at x))
section
variable {G:Nat→Option (List AV)}
set_option maxHeartbeats 4000000
def TJ (es:List (List AV)) (j p:Nat) (pre post:List AV) (hp:pre.length=p) (W:List Nat) (n:Nat) (hW:FU W) (hn:n<256) (he:es[j]?=some (pre++(lC W++post))):aC PQ G jR [.elt 0 35 j p,iv n] [some (.arr 35 es)] λr T=>r=.v (.bool (mT W n))∧T=[some (.arr 35 es)]:=by
 refine aD qC (by decide) ?_;unfold pO;have q1:bM .quo (.int .i64 (n:Int)) (.int .i64 64)=some (.int .i64 ((n/64:Nat):Int)):=HW n 64 (by decide) (by omega);have q2:bM .rem (.int .i64 (n:Int)) (.int .i64 64)=some (.int .i64 ((n%64:Nat):Int)):=HX n 64 (by decide);have hm:n%64<64:=vF _ (by decide);have hd:n/64<4:=by omega
 have hx:=vZ hW (n/64);have s1:=Ng (W.getD (n/64) 0) (n%64) hm hx;have a1:bM .and (.int .u64 ((W.getD (n/64) 0/2^(n%64):Nat):Int)) (.int .u64 1)=some (.int .u64 ((W.getD (n/64) 0/2^(n%64) &&& 1:Nat):Int)):=HV _ 1 (Mg (Ml _ _) hx) (by decide);have t1:=Hz (W.getD (n/64) 0) (n%64);have g0:=PB pre (lC W) post (n/64) (by rw [aL,hW.1];exact hd);rw [Bn W (n/64) (by rw [hW.1];exact hd),hp] at g0;have p1:(0:Int)≤((n/64:Nat):Int):=by omega
 have p2:((n/64:Nat):Int)<4:=by omega
 have hr:mT W n=(W.getD (n/64) 0).testBit (n%64):=rfl;rw [hr,←t1];clear t1 hr;generalize n/64=a at *
 generalize n%64=b at *
 generalize pre++(lC W++post)=e at *
 simp only [go_sem,↓q1,↓q2,↓s1,↓a1,p1,p2,g0,he,FX,qT]
def Zc (g:PGM) (hg:g.ok) (x y:Id):aC PQ G cL [.ptr 0 0,.ag x.A,.ag y.A] (TG 0 g) λr T=>r=.v (.bool (ED g x y))∧T=TG 0 g:=by
 refine aD qQ (by decide) ?_;unfold nM;have hkx:=Bq x;have hky:=Bq y;have hx:=yX x g.I 0;have hy:=yX y g.I 0;by_cases h1:x∈g.I
 ·obtain ⟨j,e1,l1,_⟩:=fN h1;have gv:=xJ g.I.length j l1;rw [e1] at hx;simp only [lA,wK] at hx;by_cases h2:y∈g.I
  ·obtain ⟨k,e2,l2,_⟩:=fN h2;have gw:=xJ g.I.length k l2;rw [e2] at hy;simp only [lA,wK] at hy;have hk:k<g.nodes.length:=by simpa [PGM.I] using l2
   have hj:j<g.nodes.length:=by simpa [PGM.I] using l1
   have hn:=hg.n;have gn:(g.nodes.map ND.A)[k]?=some ((g.nd y).o.A++(g.nd y).id.A++(lC (g.nd y).W++[iv (g.nd y).lv])):=by
    rw [lO,nQ hk,RJ e2,uW,nQ hk];simp only [lA,Mj,ND.A,jI]
   have hb:ED g x y=mT (g.nd y).W j:=by
    unfold ED;rw [decide_eq_true h1,decide_eq_true h2,show g.at x=j by simp [PGM.at,e1]];rfl
   rw [hb];have hc:=TJ (G:=G) (g.nodes.map ND.A) k 30 ((g.nd y).o.A++(g.nd y).id.A) [iv (g.nd y).lv] (by rw [gK,OpM.len];rfl) (g.nd y).W j (RH hg y) (by omega) gn;simp only [go_sem,TG,MG,hx,hy,gv,gw,aL,hk];refine aG [2] (aA _) (by decide) (by simp) rfl rfl hc ?_;rintro r T' ⟨rfl,rfl⟩;simp only [go_sem]
  ·rw [kA h2] at hy;simp only [JV] at hy;have hb:ED g x y=false:=by
    unfold ED;rw [decide_eq_true h1,decide_eq_false h2];rfl
   rw [hb];simp only [go_sem,TG,MG,hx,hy,gv]
 ·rw [kA h1] at hx;simp only [JV] at hx;have hb:ED g x y=false:=by
   unfold ED;rw [decide_eq_false h1];rfl
  rw [hb];by_cases h2:y∈g.I
  ·obtain ⟨k,e2,l2,_⟩:=fN h2;have gw:=xJ g.I.length k l2;rw [e2] at hy;simp only [lA,wK] at hy;simp only [go_sem,TG,MG,hx,hy,gw]
  ·rw [kA h2] at hy;simp only [JV] at hy;simp only [go_sem,TG,MG,hx,hy]
end
def RK (cs:List CardM) (o:OpM) (d:Int):Bool :=
 if o.Kind==13 then d==o.Old else if o.Device !=0 then d==o.Device else (eK cs d).2&&((eK cs d).1.Member==o.Member)
def RL (cs:List CardM) (a b:OpM):Bool :=
 if a.Kind==3||a.Kind==13 then !((a.Kind==13&&b.Kind==12)&&decide (a.Of=b.Of))&&RK cs a b.By else
 if a.Kind==12 then (b.Kind==13&&decide (b.Of=a.Of))&&decide (a.At≤b.At) else false
def Ec (g:PGM) (x y:Id):Bool :=
 decide (x∈g.I)&&(decide (y∈g.I)&&(!decide (x=y)&&(!ED g y x&&(!ED g x y&&RL g.cards (g.nd x).o (g.nd y).o))))
section
variable {G:Nat→Option (List AV)}
set_option maxHeartbeats 4000000
def aBi (g:PGM) (hg:g.ok) (o:OpM) (d:Int):aC PQ G tL [.ptr 0 0,.ag o.A,iv d] (TG 0 g) λr T=>r=.v (.bool (RK g.cards o d))∧T=TG 0 g:=by
 refine aD DF (by decide) ?_;unfold DE RK;have hc:=VB (G:=G) g d (by have:=hg.cn;omega);simp only [go_sem,TG,MG] at hc ⊢;cases k1:(o.Kind==13)
 ·cases k2:(o.Device !=0)
  ·simp only [go_sem,k1,k2,TG,MG];refine aG [0,1,2] (aA _) (by decide) (by simp) (by simp only [go_sem]) (by simp only [go_sem]) hc ?_;rintro r T' ⟨rfl,rfl⟩;cases k3:(eK g.cards d).2
   ·simp only [go_sem,k3,CardM.A_def,undef]
   ·simp only [go_sem,k3,CardM.A_def]
  ·simp only [go_sem,k1,k2]
 ·simp only [go_sem,k1]
end
end
section
def yY (g:GM) (ids:List Id) (i:Nat):Bool:=ids.any λx=>decide (0≤aM g.I x)&&(g.In.getD (aM g.I x).toNat []).getD i false
def MV (I:List Id) (p:Nat→Bool) (n:Nat):List Id:=((List.range n).filter p).map λi=>I.getD i default
def pP (g:GM) (ids:List Id):List Id:=fR (MV g.I (yY g ids) g.L.length)
def qG (I above out:List Id) (x:Id):List Id:=if (decide (0≤aM I x)&&(!decide (x∈above)&&!decide (x∈out))) then out++[x] else out
def uS (g:GM) (ids:List Id):List Id:=fR (ids.foldl (qG g.I (pP g ids)) [])
def uT (I out:List Id) (x:Id):List Id:=if (decide (0≤aM I x)&&!decide (x∈out)) then out++[x] else out
def H3 (g:GM) (ids:List Id):List Id:=fR (ids.foldl (uT g.I) (pP g ids))
def rR (d:Int) (n:Int) (x:Id):Int:=if x.a=d then (if n<x.b then x.b else n) else n
def PG (ids:List Id) (d:Int):Int:=ids.foldl (rR d) 0+1
def rS (g:GM) (t:Int) (x:Id):Int:=if 0≤aM g.I x then (if t<(g.L.getD (aM g.I x).toNat default).At then (g.L.getD (aM g.I x).toNat default).At else t) else t
def DP (g:GM) (ids:List Id):Int:=ids.foldl (rS g) 0
def Zd (I:List Id) (p:Nat→Bool) (n:Nat):MV I p (n+1)=MV I p n++(if p n then [I.getD n default] else []):=by
 grind [MV,List.range_succ]
def Gc (I:List Id) (p:Nat→Bool) (n:Nat):(MV I p n).length≤n:=by
 grind [MV,List.length_map]
section
variable {G:Nat→Option (List AV)}
set_option maxHeartbeats 4000000
def RN (g:GM) (ids':List Id) (hg:g.ok) (hi:ids'.length≤100000):aC PQ G wT [.ag g.A,ids ids'] [] λr T=>r=.own 0∧T=[some (.arr 3 ((pP g ids').map Id.A))]:=by
 refine aD L5 (by decide) ?_;have hn:=hg.n;simp only [go_sem];refine aJ g.L.length (λi=>⟨0,[(1,ids ids'),(2,.ptr 0 0),(5,.own 1),(6,iv i)],[some (.box g.A),some (.arr 3 ((MV g.I (yY g ids') i).map Id.A))]⟩) (λ_=>True) ?_ trivial ?_ ?_
 ·rfl
 ·intro i hil _;have ws:=aF (show i<9223372036854775807 by omega);have gI:(g.I.map Id.A)[i]?=some (g.I.getD i default).A:=by rw [lO,uW,nQ (by rw [hg.i];exact hil)];rfl
  have hIl:=hg.i;have hsl:=Gc g.I (yY g ids') i;rw [Zd];generalize MV g.I (yY g ids') i=X at *
  generalize g.I.getD i default=xi at *
  simp only [go_sem,aL,bG hil];refine aJ ids'.length (λk=>⟨0,[(1,ids ids'),(2,.ptr 0 0),(5,.own 1),(6,iv i),(7,.v (.bool ((ids'.take k).any λx=>decide (0≤aM g.I x)&&(g.In.getD (aM g.I x).toNat []).getD i false))),(8,iv k)],[some (.box g.A),some (.arr 3 (X.map Id.A))]⟩) (λ_=>True) ?_ trivial ?_ ?_
  ·simp only [go_sem,rY,List.any_nil]
  ·intro k hk _;have g0:(ids'.map Id.A)[k]?=some ids'[k].A:=aI _ ids' k hk;have wk:=aF (show k<9223372036854775807 by omega);rw [U6 _ ids' k hk];generalize ((ids'.take k).any λx=>decide (0≤aM g.I x)&&(g.In.getD (aM g.I x).toNat []).getD i false)=is;generalize ids'[k]=x at *
   simp only [go_sem,aL,bG hk,g0];refine aB (aA _) rfl (vY g x hg) rfl ?_;have hpl:=qR g.I x;cases is
   ·simp only [go_sem,ge_iff_le];cases hp:decide (0≤aM g.I x)
    ·simp only [go_sem,undef,wk,kC,Mp]
    ·have hp2:0≤aM g.I x:=of_decide_eq_true hp;have hin:=hg.inn;have hpn:(aM g.I x).toNat<g.L.length:=by omega
     have hrow:(g.In.map λl=>[Qt l])[(aM g.I x).toNat]?=some [Qt (g.In.getD (aM g.I x).toNat [])]:=by simp_all
     have hrl:(g.In.getD (aM g.I x).toNat []).length=g.L.length:=by
      rw [uW,nQ (by omega)];exact hg.ins _ (iN _)
     have gr:((g.In.getD (aM g.I x).toNat []).map λb=>[AV.v (.bool b)])[i]?=some [AV.v (.bool ((g.In.getD (aM g.I x).toNat []).getD i false))]:=by simp_all
     have hm:(if 0>aM g.I x then (0:Int) else aM g.I x)=aM g.I x:=if_neg (by omega);simp only [go_sem,hm,hp2,hrow,gr,wk,kN,FY]
   ·simp only [go_sem,undef,wk,FW]
  intro _;rw [lP];have hP:(ids'.any λx=>decide (0≤aM g.I x)&&(g.In.getD (aM g.I x).toNat []).getD i false)=yY g ids' i:=rfl;rw [hP];cases hp:yY g ids' i
  ·simp only [go_sem,aL,aX (cN _),ws]
  ·simp only [go_sem,aL,aX (cN _),ws,gI,jA,show X.length+1≤maxLen by unfold maxLen;omega,show (X.length+1)*24≤140737488355328 by omega]
 intro _;have hsl:=Gc g.I (yY g ids') g.L.length;simp only [go_sem,aL,aX (cN _)];refine cD (aA _) rfl rfl (rN _ (by omega)) ?_;rintro r T' ⟨rfl,rfl⟩;refine ⟨by simp only [fF],by simp only [iU,uX,forall_eq,cZ];rintro e ⟨b,_,rfl⟩ c hc;simp only [Id.A,jB,qS,or_false] at hc;rcases hc with rfl | rfl | rfl<;>exact ⟨_,rfl⟩,?_⟩;simp only [go_sem];rfl
def W5 (g:GM) (ids':List Id) (hg:g.ok) (hi:ids'.length≤100000):aC PQ G wT [.ag g.A,ids ids'] [] λr T=>r=ids (pP g ids')∧T=[]:=by
 refine (RN g ids' hg hi).fin [0] ?_;rintro r T' ⟨rfl,rfl⟩;simp only [go_sem,jJ]
def PH (l:List Id):∀ e∈l.map Id.A,∀ c∈e,∃ x,c=AV.v x:=by
 grind [Id.A]
def LR (g:GM) (ids':List Id) (hg:g.ok):(pP g ids').length≤1000:=by
 unfold pP;rw [NF];have:=Gc g.I (yY g ids') g.L.length;have:=hg.n;omega
def Ha (I a:List Id):∀ (l:List Id) (out:List Id),(l.foldl (qG I a) out).length≤out.length+l.length
 | [],out=>by simp
 | x::l,out=>by
  rw [Gm];have:=Ha I a l (qG I a out x);grind [qG,List.length_cons]
def Ds (I:List Id):∀ (l:List Id) (out:List Id),(l.foldl (uT I) out).length≤out.length+l.length
 | [],out=>by simp
 | x::l,out=>by
  rw [Gm];have:=Ds I l (uT I out x);grind [uT,List.length_cons]
def Dt {α β:Type} (f:β→α→β) (b:β) (l:List α) (i:Nat) (h:i<l.length):(l.take (i+1)).foldl f b=f ((l.take i).foldl f b) l[i]:=by
 rw [oV h,Pk];rfl
def aBj (g:GM) (ids':List Id) (hg:g.ok) (hi:ids'.length≤100000):aC PQ G tN [.ag g.A,ids ids'] [] λr T=>r=.own 0∧T=[some (.arr 3 ((uS g ids').map Id.A))]:=by
 refine aD KM (by decide) ?_;have hal:=LR g ids' hg;simp only [go_sem];refine aB (aA _) rfl (W5 g ids' hg hi) rfl ?_;unfold uS;generalize pP g ids'=ab at *
 simp only [go_sem];refine aJ ids'.length (λi=>⟨0,[(1,ids ids'),(2,.ptr 0 0),(5,ids ab),(6,.own 1),(7,iv i)],[some (.box g.A),some (.arr 3 (((ids'.take i).foldl (qG g.I ab) []).map Id.A))]⟩) (λ_=>True) ?_ trivial ?_ ?_
 ·simp only [go_sem,rY,JW]
 ·intro i hil _;have ws:=aF (show i<9223372036854775807 by omega);have g0:(ids'.map Id.A)[i]?=some ids'[i].A:=aI _ ids' i hil;have hol:=Ha g.I ab (ids'.take i) [];rw [kM] at hol;simp only [jJ] at hol;rw [Dt _ _ ids' i hil];generalize (ids'.take i).foldl (qG g.I ab) []=out at *
  generalize ids'[i]=x at *
  have m1:out.length+1≤maxLen:=by unfold maxLen;omega
  have m2:(out.length+1)*24≤140737488355328:=by omega
  simp only [go_sem,aL,bG hil,g0];refine aB (aA _) rfl (vY g x hg) rfl ?_;simp only [go_sem,ge_iff_le];cases h1:decide (0≤aM g.I x)
  ·simp only [go_sem,undef,ws,qG,h1,kC,kB]
  simp only [go_sem,g0];refine aB (aA _) rfl (tY ab x (by unfold maxLen;omega)) rfl ?_;cases h2:decide (x∈ab);rotate_left
  ·simp only [go_sem,undef,ws,qG,h1,h2,lG,kC,Dz,kB]
  simp only [go_sem,g0];refine cD (aA _) rfl rfl (tY out x (by omega)) ?_;rintro r T' ⟨rfl,rfl⟩;refine ⟨by simp only [fF],by simp,?_⟩;cases h3:decide (x∈out)
  ·simp only [go_sem,aL,g0,m1,m2,ws,qG,h1,h2,h3,lR,kN,jA]
  ·simp only [go_sem,ws,qG,h1,h2,h3,lG,lR,Dz,kB]
 intro _;rw [lP];have hol:=Ha g.I ab ids' [];simp only [jJ] at hol;generalize ids'.foldl (qG g.I ab) []=out at *
 simp only [go_sem,aL,aX (cN _)];refine cD (aA _) rfl rfl (rN out (by omega)) ?_;rintro r T' ⟨rfl,rfl⟩;refine ⟨by simp only [fF],by simp only [iU,uX,forall_eq];exact PH _,?_⟩;simp only [go_sem]
def Ze (g:GM) (ids':List Id) (hg:g.ok) (hi:ids'.length≤100000):aC PQ G pW [.ag g.A,ids ids'] [] λr T=>r=.own 0∧T=[some (.arr 3 ((H3 g ids').map Id.A))]:=by
 refine aD L2 (by decide) ?_;have hal:=LR g ids' hg;simp only [go_sem];refine aQ (aA _) rfl (RN g ids' hg hi) ?_;unfold H3;generalize pP g ids'=ab at *
 simp only [go_sem];refine aJ ids'.length (λi=>⟨0,[(1,ids ids'),(2,.ptr 0 0),(5,.own 1),(6,iv i)],[some (.box g.A),some (.arr 3 (((ids'.take i).foldl (uT g.I) ab).map Id.A))]⟩) (λ_=>True) ?_ trivial ?_ ?_
 ·rfl
 ·intro i hil _;have ws:=aF (show i<9223372036854775807 by omega);have g0:(ids'.map Id.A)[i]?=some ids'[i].A:=aI _ ids' i hil;have hol:=Ds g.I (ids'.take i) ab;rw [kM] at hol;rw [Dt _ _ ids' i hil];generalize (ids'.take i).foldl (uT g.I) ab=out at *
  generalize ids'[i]=x at *
  have m1:out.length+1≤maxLen:=by unfold maxLen;omega
  have m2:(out.length+1)*24≤140737488355328:=by omega
  simp only [go_sem,aL,bG hil,g0];refine aB (aA _) rfl (vY g x hg) rfl ?_;simp only [go_sem,ge_iff_le];cases h1:decide (0≤aM g.I x)
  ·simp only [go_sem,undef,ws,uT,h1,kC,kB]
  simp only [go_sem,g0];refine cD (aA _) rfl rfl (tY out x (by omega)) ?_;rintro r T' ⟨rfl,rfl⟩;refine ⟨by simp only [fF],by simp,?_⟩;cases h3:decide (x∈out)
  ·simp only [go_sem,aL,g0,m1,m2,ws,uT,h1,h3,lR,kN,jA]
  ·simp only [go_sem,ws,uT,h1,h3,lG,Dz,kB]
 intro _;rw [lP];have hol:=Ds g.I ids' ab;generalize ids'.foldl (uT g.I) ab=out at *
 simp only [go_sem,aL,aX (cN _)];refine cD (aA _) rfl rfl (rN out (by omega)) ?_;rintro r T' ⟨rfl,rfl⟩;refine ⟨by simp only [fF],by simp only [iU,uX,forall_eq];exact PH _,?_⟩;simp only [go_sem]
def RO (g:GM) (ids':List Id) (hg:g.ok) (hi:ids'.length≤100000):aC PQ G tN [.ag g.A,ids ids'] [] λr T=>r=ids (uS g ids')∧T=[]:=by
 refine (aBj g ids' hg hi).fin [0] ?_;rintro r T' ⟨rfl,rfl⟩;simp only [go_sem,jJ]
def VD (g:GM) (ids':List Id) (hg:g.ok) (hi:ids'.length≤100000):aC PQ G pW [.ag g.A,ids ids'] [] λr T=>r=ids (H3 g ids')∧T=[]:=by
 refine (Ze g ids' hg hi).fin [0] ?_;rintro r T' ⟨rfl,rfl⟩;simp only [go_sem,jJ]
def PI (g:GM) (hg:g.ok):aC PQ G qK [.ag g.A] [] λr T=>r=ids (fR g.I)∧T=[]:=by
 refine aC.fin (p:=λr T=>r=.own 0∧T=[some (.arr 3 ((fR g.I).map Id.A))]) (aD F7 (by decide) ?_) [0] ?_
 ·have hn:=hg.n;have hi:=hg.i;simp only [go_sem];refine aQ (aA _) rfl (rN g.I (by omega)) ?_;simp only [go_sem]
 ·rintro r T' ⟨rfl,rfl⟩;simp only [go_sem,jJ]
def TM (d:Int):∀ (l:List Id) (n:Int),n≤l.foldl (rR d) n
 | [],n=>Int.le_refl _
 | x::l,n=>Int.le_trans (by unfold rR;split<;>(try split)<;>omega) (TM d l (rR d n x))
def TO (d B:Int):∀ (l:List Id) (n:Int),n≤B→(∀ x∈l,x.b≤B)→l.foldl (rR d) n≤B
 | [],n,h,_=>h
 | x::l,n,h,hb=>TO d B l _ (by have:=hb x Gk;unfold rR;split<;>(try split)<;>omega) λy hy=>hb y (H8 _ hy)
def aCg (g:GM) (ids':List Id) (d:Int) (hi:ids'.length≤100000) (hb:∀ x∈ids',x.b≤9223372036854775806):aC PQ G Dg [.ag g.A,ids ids',iv d] [] λr T=>r=iv (PG ids' d)∧T=[]:=by
 refine aD OR (by decide) ?_;simp only [go_sem];refine aJ ids'.length (λi=>⟨0,[(1,ids ids'),(2,iv d),(7,iv ((ids'.take i).foldl (rR d) 0)),(8,iv i)],[]⟩) (λ_=>True) ?_ trivial ?_ ?_
 ·rfl
 ·intro i hil _;have ws:=aF (show i<9223372036854775807 by omega);have g0:(ids'.map Id.A)[i]?=some [.v (.int .i64 ids'[i].a),.v (.int .i64 ids'[i].b),.v (.int .u64 ids'[i].c)]:=aI _ ids' i hil;rw [Dt _ _ ids' i hil];generalize (ids'.take i).foldl (rR d) 0=n at *
  generalize ids'[i]=x at *
  simp only [go_sem,aL,bG hil,g0];refine aK (λh=>?_) (λh=>?_)<;>simp only [beq_iff_eq,beq_eq_false_iff_ne,ne_eq] at h
  ·simp only [go_sem,g0,ws,rR,h,gt_iff_lt]
  ·simp only [go_sem,ws,rR,h]
 intro _;rw [lP];have h1:=TM d ids' 0;have h2:=TO d 9223372036854775806 ids' 0 (by omega) hb;have w1:IntKind.i64.wrap (ids'.foldl (rR d) 0+1)=PG ids' d:=bF (by omega) (by omega);simp only [go_sem,aL,aX (cN _),w1]
def Zf (g:GM) (ids':List Id) (hg:g.ok) (hi:ids'.length≤100000):aC PQ G BF [.ag g.A,ids ids'] [] λr T=>r=iv (DP g ids')∧T=[]:=by
 refine aD L3 (by decide) ?_;have hn:=hg.n;simp only [go_sem];refine aJ ids'.length (λi=>⟨0,[(1,ids ids'),(2,.ptr 0 0),(5,iv ((ids'.take i).foldl (rS g) 0)),(6,iv i)],[some (.box g.A)]⟩) (λ_=>True) ?_ trivial ?_ ?_
 ·rfl
 ·intro i hil _;have ws:=aF (show i<9223372036854775807 by omega);have g0:(ids'.map Id.A)[i]?=some ids'[i].A:=aI _ ids' i hil;rw [Dt _ _ ids' i hil];generalize (ids'.take i).foldl (rS g) 0=n at *
  generalize ids'[i]=x at *
  simp only [go_sem,aL,bG hil,g0];refine aB (aA _) rfl (vY g x hg) rfl ?_;have hpl:=qR g.I x;simp only [go_sem,ge_iff_le];refine aK (λh=>?_) (λh=>?_)<;>simp only [decide_eq_true_eq,decide_eq_false_iff_not] at h
  ·have hpn:(aM g.I x).toNat<g.L.length:=by have:=hg.i;omega
   have bO:(g.L.map OpM.A)[(aM g.I x).toNat]?=some (g.L.getD (aM g.I x).toNat default).A:=by simp_all
   simp only [go_sem,h,bO,ws,rS,gt_iff_lt]
  ·simp only [go_sem,ws,rS,h]
 intro _;rw [lP];simp only [go_sem,aL,aX (cN _),DP]
end
end
end Hud
