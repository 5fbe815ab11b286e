import Derived.Test.YthlndebkfkanbaaGreatDoorLib20
set_option linter.all false
namespace Hud
open Go
section
section
variable {G:Nat→Option (List AV)}
set_option maxHeartbeats 4000000
def Xw (b:List Nat) (hb:wC b) (hl:b.length≤1000000):aC PQ G fR [.v (.slice none 0 0),.cl kC [.ptr 0 0]] [some (.box [.ls 1 (bl b)])] λr T'=>r=.own 1∧T'=[some (.box [.ls 1 (bl b)]),some (.arr 1 (ul (dR b)))]:=by
 refine aF pX (by decide) ?_;simp only [go_sem];refine Im rfl (rF iW) λr k1 k2 hy hyR=>?_;simp only [go_sem];refine yU [0,1,2,3] (aA _) (by decide) (λi hi=>by simp at hi ⊢;omega) rfl rfl (aF iW (by decide) ?_);simp only [go_sem];refine aS (aA _) rfl (Ph _) ?_;simp only [go_sem];refine Im rfl (rF bZ) λr2 q1 q2 hz hzR=>?_;simp only [go_sem];refine yU [0,1,2,3,4,5,6,7] (aA _) (by decide) (λi hi=>by simp at hi ⊢;omega) rfl rfl (aF bZ (by decide) ?_);simp only [go_sem]
 refine bU (λn s=>∃ (i:Nat) (A:List Nat),n=b.length+7-i∧i≤b.length+6∧A.length≤i∧A++dR (b.drop i)=dR b∧(s=⟨8,[(0,.yl 7),(1,.ptr 5 0),(2,.ptr 6 0),(4,.v (.int .i64 (i:Int)))],[some (.box [.ls 1 (bl b)]),some (.box [.own 2]),some (.arr 1 (ul A)),some (.lp r [(2,.ptr 1 0)]),some (.box [.yl 3]),some (.box [.ls 1 (bl b)]),some (.box [.v (.int .i64 7)]),some (.lp r2 [(2,.ptr 4 0)])]⟩ ∨
   s=⟨8,[(0,.yl 7),(1,.ptr 5 0),(2,.ptr 6 0),(4,.v (.int .i64 (i:Int)))],[some (.box [.ls 1 (bl b)]),some (.box [.own 8]),none,some (.lp r [(2,.ptr 1 0)]),some (.box [.yl 3]),some (.box [.ls 1 (bl b)]),some (.box [.v (.int .i64 7)]),some (.lp r2 [(2,.ptr 4 0)]),some (.arr 1 (ul A))]⟩)) (b.length+7) ⟨0,[],by omega,by omega,fW _,by simp,.inl ?_⟩ ?_
 ·simp only [go_sem]
 rintro n s ⟨i,A,rfl,hi,hA,hw,hsx⟩;by_cases hlt:i<b.length
 ·obtain ⟨e,he1,he2,he3⟩:∃ e:Nat,e=min 7 (b.length-i)∧1≤e∧e≤7:=⟨min 7 (b.length-i),rfl,by omega,by omega⟩
  have hmm:(if ((b.length-i:Nat):Int)<7 then ((b.length-i:Nat):Int) else (7:Int))=(e:Int):=by split<;>omega
  have w1:IntKind.i64.wrap ((i:Int)+(e:Int))=((i+e:Nat):Int):=by rw [aJ (by omega) (by omega)];omega
  have l1:i≤i+e:=by omega
  have l2:i+e≤b.length:=by omega
  have l3:¬i+e=i:=by omega
  have l4:i≤b.length:=by omega
  have l5:i+e-i=e:=by omega
  have hc1:((bl b).drop i).take e=bl ((b.drop i).take e):=by simp only [bl,VK,Qr]
  have hce:((b.drop i).take e).length=e:=by simp;omega
  have okc:wC ((b.drop i).take e):=sC (Gm hb i) _;have hc7:(b.drop i).take 7=(b.drop i).take e:=by
   rcases bY (i+7) b.length with h | h
   ·rw [show e=7 by omega]
   ·rw [pY (by simp;omega),pY (by simp;omega)]
  have hstep:=Dr (b:=b.drop i) (λh=>by have:=congrArg List.length h;simp at this;omega);rw [hc7,GF] at hstep;rw [hstep] at hw;generalize hcc:(b.drop i).take e=c at *
  have hct:c.take e=c:=pY (by omega);have hin:∀ j,j<e→∃ x:Nat,(bl c)[j]?=some [.v (.int .u8 (x:Int))]∧IntKind.u64.wrap (x:Int)=(x:Int)∧IntKind.i64.wrap (8*(j:Int))=((8*j:Nat):Int)∧aZ .shl (.int .u64 (x:Int)) (.int .i64 ((8*j:Nat):Int))=some (.int .u64 ((x*2^(8*j):Nat):Int)) ∧
    aZ .or (.int .u64 ((uN (c.take j):Nat):Int)) (.int .u64 ((x*2^(8*j):Nat):Int))=some (.int .u64 ((uN (c.take (j+1)):Nat):Int)):=λj hj=>by
   have hjl:j<c.length:=by omega
   have hx:=okc c[j] (jY hjl);have hWj:=L8 (sC okc j);rw [hZ,KN (by omega)] at hWj;have hW7:uN (c.take j)<72057594037927936:=OE (sC okc j) (by rw [hZ];omega);have hW8:uN (c.take (j+1))<72057594037927936:=OE (sC okc _) (by rw [hZ];omega);have hst2:=SB hjl;rw [hst2] at hW8;refine ⟨c[j],aP U8 c j hjl,bG _ (by omega),by rw [aJ (by omega) (by omega)];omega,OI _ j (by omega) hx,?_⟩;have ho:=aAp (uN (c.take j)) c[j] j hWj;have hsl:c[j]*2^(8*j)<18446744073709551616:=by
    have:256^j*c[j]=c[j]*2^(8*j):=by rw [GG,show (256:Nat)^j=2^(8*j) by rw [IY]]
    omega
   have or1:=SC (uN (c.take j)) (c[j]*2^(8*j)) (by omega) hsl (by omega);rw [ho,←hst2] at or1;exact or1
  have b2:A.length+1≤maxLen:=by unfold maxLen;omega
  have b3:(A.length+1)*8≤140737488355328:=by omega
  have w7:IntKind.i64.wrap ((i:Int)+7)=((i+7:Nat):Int):=by rw [aJ (by omega) (by omega)];omega
  have hsnoc:ul A++[[AV.v (.int .u64 ((uN c:Nat):Int))]]=ul (A++[uN c]):=by simp only [ul,gQ,cN,eQ]
  rcases hsx with rfl | rfl
  ·simp only [go_sem,aL,aT hlt,hmm,w1,l1,l2,l3,l4,l5,hc1];refine hz _ _ _ _ _ rfl rfl ?_;simp only [go_sem,aL,hce];refine bU (λn s=>∃ j:Nat,j≤e∧n=e-j∧s=⟨8,[(2,.ptr 4 0),(4,.v (.int .u64 ((uN (c.take j):Nat):Int))),(10,.ls 1 (bl c)),(11,.v (.int .i64 (e:Int))),(12,.v (.int .i64 (j:Int)))],[some (.box [.ls 1 (bl b)]),some (.box [.own 2]),some (.arr 1 (ul A)),some (.lp r [(2,.ptr 1 0)]),some (.box [.yl 3]),some (.box [.ls 1 (bl b)]),some (.box [.v (.int .i64 7)]),none]⟩) e ⟨0,xC _,rfl,?_⟩ ?_
   ·simp only [go_sem,mL,uN]
   rintro n s ⟨j,hj,rfl,rfl⟩;by_cases hje:j<e
   ·obtain ⟨x,g0,v1,v2,sh,or1⟩:=hin j hje;simp only [go_sem,aL,aT hje,hje,hce,g0,v1,v2,↓sh,↓or1,aG (show j<9223372036854775807 by omega)];exact ⟨e-(j+1),by omega,j+1,by omega,rfl,rfl⟩
   ·obtain rfl:j=e:=by omega
    rw [hct];simp only [go_sem,aX (cZ _)];refine hy _ _ _ _ _ rfl rfl ?_;simp only [go_sem,aL,b2,b3,w7];exact ⟨b.length+7-(i+7),by omega,i+7,A++[uN c],by omega,by omega,by simp;omega,by rw [eE];exact hw,.inr (by rw [hsnoc])⟩
  ·simp only [go_sem,aL,aT hlt,hmm,w1,l1,l2,l3,l4,l5,hc1];refine hz _ _ _ _ _ rfl rfl ?_;simp only [go_sem,aL,hce];refine bU (λn s=>∃ j:Nat,j≤e∧n=e-j∧s=⟨9,[(2,.ptr 4 0),(4,.v (.int .u64 ((uN (c.take j):Nat):Int))),(10,.ls 1 (bl c)),(11,.v (.int .i64 (e:Int))),(12,.v (.int .i64 (j:Int)))],[some (.box [.ls 1 (bl b)]),some (.box [.own 8]),none,some (.lp r [(2,.ptr 1 0)]),some (.box [.yl 3]),some (.box [.ls 1 (bl b)]),some (.box [.v (.int .i64 7)]),none,some (.arr 1 (ul A))]⟩) e ⟨0,xC _,rfl,?_⟩ ?_
   ·simp only [go_sem,mL,uN]
   rintro n s ⟨j,hj,rfl,rfl⟩;by_cases hje:j<e
   ·obtain ⟨x,g0,v1,v2,sh,or1⟩:=hin j hje;simp only [go_sem,aL,aT hje,hje,hce,g0,v1,v2,↓sh,↓or1,aG (show j<9223372036854775807 by omega)];exact ⟨e-(j+1),by omega,j+1,by omega,rfl,rfl⟩
   ·obtain rfl:j=e:=by omega
    rw [hct];simp only [go_sem,aX (cZ _)];refine hy _ _ _ _ _ rfl rfl ?_;simp only [go_sem,aL,b2,b3,w7];exact ⟨b.length+7-(i+7),by omega,i+7,A++[uN c],by omega,by omega,by simp;omega,by rw [eE];exact hw,.inr (by rw [hsnoc])⟩
 ·have hnil:dR (b.drop i)=[]:=by rw [Og (by omega)];rfl
  rw [hnil,kT] at hw;rw [←hw];rcases hsx with rfl | rfl
  ·simp only [go_sem,aL,aX hlt,q1,q2,k1,k2]
  ·simp only [go_sem,aL,aX hlt,q1,q2,k1,k2]
def Xx (b:List Nat) (hb:wC b) (hl:b.length≤1000000):aC PQ G lQ [.cl kC [.ptr 0 0]] [some (.box [.ls 1 (bl b)])] λr T'=>r=.own 1∧T'=[some (.box [.ls 1 (bl b)]),some (.arr 1 (ul (dR b)))]:=by
 refine aF xU (by decide) ?_;simp only [go_sem];refine aI [0] (aA _) (by decide) (by simp) rfl rfl (Xw b hb hl) ?_;rintro r T' ⟨rfl,rfl⟩;simp only [go_sem]
def SD (S:ByteArray) (lab b:List Nat) (hS:jH S=bl lab) (hs:S.size=lab.length) (hb:wC lab) (hl1:1≤lab.length) (hl:lab.length≤7) (hbb:wC b) (hbl:b.length≤1000000):aC PQ G wF [.v (.string S),.ls 1 (bl b)] [] λr T'=>r=.v (fu (R6 lab b))∧T'=[]:=by
 refine aF JY (by decide) ?_;have hwl:=Fz b;have hw:=ID hbb;have z1:IntKind.u64.wrap (b.length:Int)=(b.length:Int):=bG _ (by omega);have b2:(dR b).length+1≤maxLen:=by unfold maxLen;omega
 have b3:((dR b).length+1)*8≤140737488355328:=by omega
 simp only [go_sem];refine aS (aA _) rfl (Pg _) ?_;simp only [go_sem];refine aI [0] (aA _) (by decide) (by simp) rfl rfl (Xx b hbb hbl) ?_;rintro r T' ⟨rfl,rfl⟩;have e1:ul (dR b)++[[AV.v (.int .u64 (b.length:Int))]]=ul (dR b++[b.length]):=by simp only [ul,gQ,cN,eQ]
 simp only [go_sem,aL,z1,b2,b3];rw [e1];refine lN (aA _) rfl rfl (aDS S lab (dR b++[b.length]) hS hs hb hl1 hl (λn hn=>?_) (by simp;omega)) ?_
 ·rcases eO.1 hn with h | h
  ·exact IX (hw n h) (by decide)
  ·rw [gZ.1 h];omega
 simp only [go_sem];rfl
end
end
section
def OpM.B (o:OpM):List Nat :=
 cM [o.By,o.Seq,o.Kind,o.At]++(lI Id.B o.Past++(cM [o.Device,o.Old,o.Member,o.Role]++(lI NodeM.B o.Path++(o.Epoch.B++(bJ o.N++(oQ o.Body++(lI fA o.Refs++(o.Of.B++(lI bJ o.Guards++(cM [o.Need,o.Wait]++(lI BoxM.B o.Boxes++(fA o.Pub++lI SealM.B o.Hist))))))))))))
def pJ:cM []=[]:=rfl
def mR (x:Int) (l:List Int):cM (x::l)=bJ x++cM l:=by simp [cM]
def MK {l:List Int} {i:Nat} (h:i<l.length):cM (l.take (i+1))=cM (l.take i)++bJ l[i]:=by rw [oT h,MI]
def aAq (A:List Nat) (l:List Int):Nat→aQ
 | 0=>[some (.arr 1 (l.map λn=>[iv n])),some (.box [.ptr 2 0]),some (.box [.own 3]),some (.arr 1 (bl A))]
 | i+1=>[some (.arr 1 (l.map λn=>[iv n])),some (.box [.ptr 2 0]),some (.box [.own 4]),none,some (.arr 1 (bl (A++cM (l.take (i+1)))))]
def Pu (A:List Nat) (l:List Int):aAq A l 0=[some (.arr 1 (l.map λn=>[iv n])),some (.box [.ptr 2 0]),some (.box [.own 3]),some (.arr 1 (bl A))]:=rfl
def J5 (A:List Nat) (l:List Int) (i:Nat):aAq A l (i+1)=[some (.arr 1 (l.map λn=>[iv n])),some (.box [.ptr 2 0]),some (.box [.own 4]),none,some (.arr 1 (bl (A++cM (l.take (i+1)))))]:=rfl
def aAr (a b c d:Int):Nat→aQ
 | 0=>[some (.arr 1 [[iv a],[iv b],[iv c],[iv d]]),some (.box [.ptr 2 0]),some (.box [.v (.slice none 0 0)])]
 | i+1=>[some (.arr 1 [[iv a],[iv b],[iv c],[iv d]]),some (.box [.ptr 2 0]),some (.box [.own 3]),some (.arr 1 (bl (cM ([a,b,c,d].take (i+1)))))]
def WA (a b c d:Int):aAr a b c d 0=[some (.arr 1 [[iv a],[iv b],[iv c],[iv d]]),some (.box [.ptr 2 0]),some (.box [.v (.slice none 0 0)])]:=rfl
def zY (a b c d:Int) (i:Nat):aAr a b c d (i+1)=[some (.arr 1 [[iv a],[iv b],[iv c],[iv d]]),some (.box [.ptr 2 0]),some (.box [.own 3]),some (.arr 1 (bl (cM ([a,b,c,d].take (i+1)))))]:=rfl
section
variable {G:Nat→Option (List AV)}
set_option maxHeartbeats 4000000
def aAs (A:List Nat) (l:List Int) (hA:A.length≤600000) (hl:l.length≤1000) (hn:∀ x∈l,tK x):aC PQ G rI [.own 0,.ptr 1 0] [some (.arr 1 (l.map λn=>[iv n])),some (.box [.ptr 2 0]),some (.box [.own 3]),some (.arr 1 (bl A))] λr T'=>T'=[some (.arr 1 (l.map λn=>[iv n])),some (.box [.ptr 2 0]),some (.box [.own 4]),none,some (.arr 1 (bl (A++cM l)))]∨(l=[]∧T'=[some (.arr 1 (l.map λn=>[iv n])),some (.box [.ptr 2 0]),some (.box [.own 3]),some (.arr 1 (bl A))]):=by
 refine aF DE (by decide) ?_;simp only [go_sem,aL];refine aO l.length (λi=>⟨4,[(1,.ptr 1 0),(5,.own 0),(6,.v (.int .i64 (l.length:Int))),(7,.v (.int .i64 (i:Int)))],aAq A l i⟩) (λ_=>True) ?_ trivial ?_ ?_
 ·simp only [go_sem,Pu]
 ·intro i hi _;have g0:(l.map λn=>[iv n])[i]?=some [iv l[i]]:=aP _ l i hi;have hx:=hn l[i] (jY hi);have ws:=aG (show i<9223372036854775807 by omega)
  cases i with
  | zero =>
   have e1:cM (l.take (0+1))=bJ l[0]:=by rw [MK hi];simp [cM]
   rw [Pu,J5,e1];simp only [go_sem,aL,aT hi,show decide ((0:Int)<(l.length:Int))=true from decide_eq_true (by omega),hi,g0];refine aI [2,3] (aA _) (by decide) (by simp) rfl rfl (vZ A l[0] (by omega) hx.1 hx.2) ?_;rintro r T' rfl;simp only [go_sem,ws,gQ]
  | succ i =>
   have k1:=jX (l.take (i+1));rw [hZ] at k1;rw [J5,J5,MK hi];generalize cM (l.take (i+1))=X at *
   generalize l[i+1]=x at *
   simp only [go_sem,aL,aT hi,hi,g0];rw [←gQ];refine aI [2,4] (aA _) (by decide) (by simp) rfl rfl (vZ (A++X) x (by rw [dU];omega) hx.1 hx.2) ?_;rintro r T' rfl;simp only [go_sem,gQ,eE,ws]
 ·intro _
  cases l with
  | nil=>simp only [kI,Pu,go_sem];exact .inr trivial
  | cons x l =>
   simp only [kS];rw [J5,show (x::l).take (l.length+1)=x::l from pY (by simp)];simp only [go_sem,aL,show decide (((l.length+1:Nat):Int)<((l.length+1:Nat):Int))=false from decide_eq_false (by omega)];exact .inl trivial
def aCE (A:List Nat) (a b c d:Int) (hA:A.length≤600000) (ha:tK a) (hb:tK b) (hc:tK c) (hd:tK d):aC PQ G rI [.own 0,.ptr 1 0] [some (.arr 1 [[iv a],[iv b],[iv c],[iv d]]),some (.box [.ptr 2 0]),some (.box [.own 3]),some (.arr 1 (bl A))] λr T'=>T'=[some (.arr 1 [[iv a],[iv b],[iv c],[iv d]]),some (.box [.ptr 2 0]),some (.box [.own 4]),none,some (.arr 1 (bl (A++cM [a,b,c,d])))] :=
 (aAs (G:=G) A [a,b,c,d] hA (by simp) (by simp only [gK,pQ,or_false];rintro x (rfl | rfl | rfl | rfl)<;>assumption)).mono λr T' h=>by
  rcases h with h | ⟨h,_⟩
  ·exact h
  ·simp at h
def aCF (A:List Nat) (a b:Int) (hA:A.length≤600000) (ha:tK a) (hb:tK b):aC PQ G rI [.own 0,.ptr 1 0] [some (.arr 1 [[iv a],[iv b]]),some (.box [.ptr 2 0]),some (.box [.own 3]),some (.arr 1 (bl A))] λr T'=>T'=[some (.arr 1 [[iv a],[iv b]]),some (.box [.ptr 2 0]),some (.box [.own 4]),none,some (.arr 1 (bl (A++cM [a,b])))] :=
 (aAs (G:=G) A [a,b] hA (by simp) (by simp only [gK,pQ,or_false];rintro x (rfl | rfl)<;>assumption)).mono λr T' h=>by
  rcases h with h | ⟨h,_⟩
  ·exact h
  ·simp at h
def aCG (a b c d:Int) (ha:tK a) (hb:tK b) (hc:tK c) (hd:tK d):aC PQ G rI [.own 0,.ptr 1 0] [some (.arr 1 [[iv a],[iv b],[iv c],[iv d]]),some (.box [.ptr 2 0]),some (.box [.v (.slice none 0 0)])] λr T'=>T'=[some (.arr 1 [[iv a],[iv b],[iv c],[iv d]]),some (.box [.ptr 2 0]),some (.box [.own 3]),some (.arr 1 (bl (cM [a,b,c,d])))]:=by
 refine aF DE (by decide) ?_;have la:=bP a;have lb:=bP b;have lc:=bP c;simp only [go_sem];refine aO 4 (λi=>⟨3,[(1,.ptr 1 0),(5,.own 0),(6,.v (.int .i64 4)),(7,.v (.int .i64 (i:Int)))],aAr a b c d i⟩) (λ_=>True) ?_ trivial ?_ ?_
 ·simp only [go_sem,WA]
 ·intro i hi _;rcases i with _ | _ | _ | _ | i
  ·rw [WA,zY];simp only [go_sem,mR,pJ];refine aI [2] (aA _) (by decide) (by simp) rfl rfl (aEV a ha.1 ha.2) ?_;rintro r T' rfl;simp only [go_sem,mR,pJ]
  ·rw [zY,zY];simp only [go_sem,mR,pJ];refine aI [2,3] (aA _) (by decide) (by simp) rfl rfl (vZ (bJ a) b (by omega) hb.1 hb.2) ?_;rintro r T' rfl;simp only [go_sem,mR,pJ,gQ,eE]
  ·rw [zY,zY];simp only [go_sem,mR,pJ];rw [←gQ];refine aI [2,3] (aA _) (by decide) (by simp) rfl rfl (vZ (bJ a++bJ b) c (by rw [dU];omega) hc.1 hc.2) ?_;rintro r T' rfl;simp only [go_sem,mR,pJ,gQ,eE]
  ·rw [zY,zY];simp only [go_sem,mR,pJ];rw [←gQ,←gQ];refine aI [2,3] (aA _) (by decide) (by simp) rfl rfl (vZ (bJ a++(bJ b++bJ c)) d (by rw [dU,dU];omega) hd.1 hd.2) ?_;rintro r T' rfl;simp only [go_sem,mR,pJ,gQ,eE]
  ·omega
 ·intro _;rw [zY];simp only [go_sem]
def Pv (o:OpM) (ho:o.ok):aC PQ G Ay [.ag o.A] [] λr T'=>r=.ptr 0 0∧T'=[some (.box [.own 1]),some (.arr 1 (bl o.B))]:=by
 refine aF PE (by decide) ?_;have hi:∀ n,n∈[o.By,o.Seq,o.Kind,o.At,o.Device,o.Old,o.Member,o.Role,o.N,o.Need,o.Wait]→tK n:=ho.ints;have b1:(cM [o.By,o.Seq,o.Kind,o.At]).length≤40:=jX [o.By,o.Seq,o.Kind,o.At];have b2:(lI Id.B o.Past).length≤30010:=by have:=lX (f:=Id.B) (l:=o.Past) (k:=30) λx _=>Id.B_len x;have:=ho.past.1;omega
 have b3:(cM [o.Device,o.Old,o.Member,o.Role]).length≤40:=jX [o.Device,o.Old,o.Member,o.Role];have b4:(lI NodeM.B o.Path).length≤40210:=by have:=lX (f:=NodeM.B) (l:=o.Path) (k:=4020) λx h=>G9 (ho.path.2 x h);have:=ho.path.1;omega
 have b5:o.Epoch.B.length≤30:=Id.B_len _;have b6:(bJ o.N).length≤10:=bP _;have b7:(oQ o.Body).length≤1010:=by unfold oQ;rw [dU];have:=bP (o.Body.length:Int);have:=ho.body.1;omega
 have b8:(lI fA o.Refs).length≤10010:=by have:=lX (f:=fA) (l:=o.Refs) (k:=10) λx _=>fF x;have:=ho.refs.1;omega
 have b9:o.Of.B.length≤30:=Id.B_len _;have b10:(lI bJ o.Guards).length≤10010:=by have:=lX (f:=bJ) (l:=o.Guards) (k:=10) λx _=>bP x;have:=ho.guards.1;omega
 have b11:(cM [o.Need,o.Wait]).length≤20:=jX [o.Need,o.Wait];have b12:(lI BoxM.B o.Boxes).length≤40010:=by have:=lX (f:=BoxM.B) (l:=o.Boxes) (k:=40) λx _=>J3 x;have:=ho.boxes.1;omega
 have b13:(fA o.Pub).length≤10:=fF _;have b14:(lI SealM.B o.Hist).length≤104010:=by have:=lX (f:=SealM.B) (l:=o.Hist) (k:=1040) λx h=>HA (ho.hist.2 x h);have:=ho.hist.1;omega
 simp only [go_sem];refine aI [4,2,1] (aA _) (by decide) (by simp) rfl rfl (aCG o.By o.Seq o.Kind o.At (hi _ (by simp)) (hi _ (by simp)) (hi _ (by simp)) (hi _ (by simp))) ?_;rintro r T' rfl;obtain ⟨A1,hA1⟩:∃ A1,A1=cM [o.By,o.Seq,o.Kind,o.At]:=⟨_,rfl⟩
 rw [←hA1];have l1:A1.length≤40:=by rw [hA1];exact b1
 simp only [go_sem];refine aI [1,5] (aA _) (by decide) (by simp) rfl rfl (aCD A1 o.Past (by omega) ho.past.1 ho.past.2) ?_;rintro r T' rfl;obtain ⟨A2,hA2⟩:∃ A2,A2=A1++(lI Id.B o.Past):=⟨_,rfl⟩
 rw [←hA2];have l2:A2.length≤30050:=by rw [hA2,dU];omega
 simp only [go_sem,↓bT];refine aI [7,2,1,6] (aA _) (by decide) (by simp) rfl rfl (aCE A2 o.Device o.Old o.Member o.Role (by omega) (hi _ (by simp)) (hi _ (by simp)) (hi _ (by simp)) (hi _ (by simp))) ?_;rintro r T' rfl;obtain ⟨A3,hA3⟩:∃ A3,A3=A2++(cM [o.Device,o.Old,o.Member,o.Role]):=⟨_,rfl⟩
 rw [←hA3];have l3:A3.length≤30090:=by rw [hA3,dU];omega
 simp only [go_sem,↓bT];refine aI [1,8,2,3] (aA _) (by decide) (by simp) rfl rfl (Xu A3 o.Path (by omega) ho.path.1 ho.path.2) ?_;rintro r T' rfl;obtain ⟨A4,hA4⟩:∃ A4,A4=A3++(lI NodeM.B o.Path):=⟨_,rfl⟩
 rw [←hA4];have l4:A4.length≤70300:=by rw [hA4,dU];omega
 simp only [go_sem,↓bT];refine aI [1,9] (aA _) (by decide) (by simp) rfl rfl (aCC A4 o.Epoch (by omega) ho.epoch) ?_;rintro r T' rfl;obtain ⟨A5,hA5⟩:∃ A5,A5=A4++o.Epoch.B:=⟨_,rfl⟩
 rw [←hA5];have l5:A5.length≤70330:=by rw [hA5,dU];omega
 simp only [go_sem,↓bT];refine aI [1,10] (aA _) (by decide) (by simp) rfl rfl (vZ A5 o.N (by omega) (hi o.N (by simp)).1 (hi o.N (by simp)).2) ?_;rintro r T' rfl;obtain ⟨A6,hA6⟩:∃ A6,A6=A5++(bJ o.N):=⟨_,rfl⟩
 rw [←hA6];have l6:A6.length≤70340:=by rw [hA6,dU];omega
 simp only [go_sem,↓bT];refine aI [1,11] (aA _) (by decide) (by simp) rfl rfl (aAk A6 (bsN o.Body) o.Body (CB ho.body.2) (G8 _) (by omega) (by have:=ho.body.1;omega)) ?_;rintro r T' rfl;obtain ⟨A7,hA7⟩:∃ A7,A7=A6++oQ o.Body:=⟨_,rfl⟩
 rw [show A6++(bJ (o.Body.length:Int)++o.Body)=A7 from hA7.symm];have l7:A7.length≤71350:=by rw [hA7,dU];omega
 simp only [go_sem,↓bT];refine aI [1,12] (aA _) (by decide) (by simp) rfl rfl (aAo A7 o.Refs (by omega) ho.refs.1 ho.refs.2) ?_;rintro r T' rfl;obtain ⟨A8,hA8⟩:∃ A8,A8=A7++(lI fA o.Refs):=⟨_,rfl⟩
 rw [←hA8];have l8:A8.length≤81360:=by rw [hA8,dU];omega
 simp only [go_sem,↓bT];refine aI [1,13] (aA _) (by decide) (by simp) rfl rfl (aCC A8 o.Of (by omega) ho.of) ?_;rintro r T' rfl;obtain ⟨A9,hA9⟩:∃ A9,A9=A8++o.Of.B:=⟨_,rfl⟩
 rw [←hA9];have l9:A9.length≤81390:=by rw [hA9,dU];omega
 simp only [go_sem,↓bT];refine aI [1,14] (aA _) (by decide) (by simp) rfl rfl (aAn A9 o.Guards (by omega) ho.guards.1 ho.guards.2) ?_;rintro r T' rfl;obtain ⟨A10,hA10⟩:∃ A10,A10=A9++(lI bJ o.Guards):=⟨_,rfl⟩
 rw [←hA10];have l10:A10.length≤91400:=by rw [hA10,dU];omega
 simp only [go_sem,↓bT];refine aI [16,2,1,15] (aA _) (by decide) (by simp) rfl rfl (aCF A10 o.Need o.Wait (by omega) (hi _ (by simp)) (hi _ (by simp))) ?_;rintro r T' rfl;obtain ⟨A11,hA11⟩:∃ A11,A11=A10++(cM [o.Need,o.Wait]):=⟨_,rfl⟩
 rw [←hA11];have l11:A11.length≤91420:=by rw [hA11,dU];omega
 simp only [go_sem,↓bT];refine aI [1,17,2] (aA _) (by decide) (by simp) rfl rfl (R9 A11 o.Boxes (by omega) ho.boxes.1 ho.boxes.2) ?_;rintro r T' rfl;obtain ⟨A12,hA12⟩:∃ A12,A12=A11++(lI BoxM.B o.Boxes):=⟨_,rfl⟩
 rw [←hA12];have l12:A12.length≤131430:=by rw [hA12,dU];omega
 simp only [go_sem,↓bT];refine aI [1,18] (aA _) (by decide) (by simp) rfl rfl (Dt A12 o.Pub (by omega) (ho.nums o.Pub (by simp))) ?_;rintro r T' rfl;obtain ⟨A13,hA13⟩:∃ A13,A13=A12++(fA o.Pub):=⟨_,rfl⟩
 rw [←hA13];have l13:A13.length≤131440:=by rw [hA13,dU];omega
 simp only [go_sem,↓bT];refine aI [1,19,2] (aA _) (by decide) (by simp) rfl rfl (Xv A13 o.Hist (by omega) ho.hist.1 ho.hist.2) ?_;rintro r T' rfl;obtain ⟨A14,hA14⟩:∃ A14,A14=A13++(lI SealM.B o.Hist):=⟨_,rfl⟩
 rw [←hA14];have l14:A14.length≤235450:=by rw [hA14,dU];omega
 simp only [go_sem,↓bT];rw [hA14,hA13,hA12,hA11,hA10,hA9,hA8,hA7,hA6,hA5,hA4,hA3,hA2,hA1];simp only [OpM.B,eE]
def OpM.B_len (o:OpM) (ho:o.ok):o.B.length≤300000:=by
 have b1:(cM [o.By,o.Seq,o.Kind,o.At]).length≤40:=jX [o.By,o.Seq,o.Kind,o.At];have b2:(lI Id.B o.Past).length≤30010:=by have:=lX (f:=Id.B) (l:=o.Past) (k:=30) λx _=>Id.B_len x;have:=ho.past.1;omega
 have b3:(cM [o.Device,o.Old,o.Member,o.Role]).length≤40:=jX [o.Device,o.Old,o.Member,o.Role];have b4:(lI NodeM.B o.Path).length≤40210:=by have:=lX (f:=NodeM.B) (l:=o.Path) (k:=4020) λx h=>G9 (ho.path.2 x h);have:=ho.path.1;omega
 have b5:o.Epoch.B.length≤30:=Id.B_len _;have b6:(bJ o.N).length≤10:=bP _;have b7:(oQ o.Body).length≤1010:=by unfold oQ;rw [dU];have:=bP (o.Body.length:Int);have:=ho.body.1;omega
 have b8:(lI fA o.Refs).length≤10010:=by have:=lX (f:=fA) (l:=o.Refs) (k:=10) λx _=>fF x;have:=ho.refs.1;omega
 have b9:o.Of.B.length≤30:=Id.B_len _;have b10:(lI bJ o.Guards).length≤10010:=by have:=lX (f:=bJ) (l:=o.Guards) (k:=10) λx _=>bP x;have:=ho.guards.1;omega
 have b11:(cM [o.Need,o.Wait]).length≤20:=jX [o.Need,o.Wait];have b12:(lI BoxM.B o.Boxes).length≤40010:=by have:=lX (f:=BoxM.B) (l:=o.Boxes) (k:=40) λx _=>J3 x;have:=ho.boxes.1;omega
 have b13:(fA o.Pub).length≤10:=fF _;have b14:(lI SealM.B o.Hist).length≤104010:=by have:=lX (f:=SealM.B) (l:=o.Hist) (k:=1040) λx h=>HA (ho.hist.2 x h);have:=ho.hist.1;omega
 simp only [OpM.B,dU];omega
def CC {α:Type} {f:α→List Nat} {l:List α} (hl:l.length≤1000000) (h:∀ x∈l,wC (f x)):wC (lI f l):=by
 unfold lI;refine jI (B9 (by omega) (by omega)) λx hx=>?_;obtain ⟨y,hy,hxy⟩:=IU.1 hx;obtain ⟨z,hz,rfl⟩:=dE.1 hy;exact h z hz x hxy
def ML {l:List Int} (h:∀ x∈l,tK x):wC (cM l):=λx hx=>by
 obtain ⟨y,hy,hxy⟩:=IU.1 hx;obtain ⟨z,hz,rfl⟩:=dE.1 hy;exact B9 (h z hz).1 (h z hz).2 x hxy
def aAt {l:List Nat} (h:∀ x∈l,x<18446744073709551616):wC (kL l):=λx hx=>by
 obtain ⟨y,hy,hxy⟩:=IU.1 hx;obtain ⟨z,hz,rfl⟩:=dE.1 hy;exact EP (h z hz) x hxy
def Id.B_ok {x:Id} (h:x.ok):wC x.B:=jI (jI (B9 h.1.1 h.1.2) (B9 h.2.1.1 h.2.1.2)) (EP (by have:=h.2.2;omega))
def aAu {b:BoxM} (h:b.ok):wC b.B:=aAt λx hx=>by
 obtain ⟨h1,h2,h3,h4⟩:=h;simp only [gK,pQ,or_false] at hx;rcases hx with rfl | rfl | rfl | rfl<;>assumption
def SE {b:List Nat} (hl:b.length≤1000000) (h:wC b):wC (oQ b):=jI (B9 (by omega) (by omega)) h
def OpM.B_ok (o:OpM) (ho:o.ok):wC o.B:=by
 have hi:=ho.ints;unfold OpM.B;refine jI (ML λx hx=>hi x (by simp at hx ⊢;rcases hx with h | h | h | h<;>simp [h])) ?_;refine jI (CC (by have:=ho.past.1;omega) λx hx=>Id.B_ok (ho.past.2 x hx)) ?_;refine jI (ML λx hx=>hi x (by simp at hx ⊢;rcases hx with h | h | h | h<;>simp [h])) ?_;refine jI (CC (by have:=ho.path.1;omega) λx hx=>jI (EP (ho.path.2 x hx).1) (CC (by have:=(ho.path.2 x hx).2.1;omega) λy hy=>aAu ((ho.path.2 x hx).2.2 y hy))) ?_;refine jI (Id.B_ok ho.epoch) ?_;refine jI (B9 (hi o.N (by simp)).1 (hi o.N (by simp)).2) ?_;refine jI (SE (by have:=ho.body.1;omega) ho.body.2) ?_;refine jI (CC (by have:=ho.refs.1;omega) λx hx=>EP (ho.refs.2 x hx)) ?_;refine jI (Id.B_ok ho.of) ?_;refine jI (CC (by have:=ho.guards.1;omega) λx hx=>B9 (ho.guards.2 x hx).1 (ho.guards.2 x hx).2) ?_;refine jI (ML λx hx=>hi x (by simp at hx ⊢;rcases hx with h | h<;>simp [h])) ?_;refine jI (CC (by have:=ho.boxes.1;omega) λx hx=>aAu (ho.boxes.2 x hx)) ?_;refine jI (EP (ho.nums o.Pub (by simp))) ?_;exact CC (by have:=ho.hist.1;omega) λx hx=>jI (Id.B_ok (ho.hist.2 x hx).1) (SE (by have:=(ho.hist.2 x hx).2.1;omega) (ho.hist.2 x hx).2.2)
def OpM.P (o:OpM):List Nat:=o.B++kL [o.SR,o.SS]
def aDT (o:OpM) (ho:o.ok):aC PQ G Gp [.ag o.A] [] λr T'=>r=.own 0∧T'=[some (.arr 1 (bl o.P))]:=by
 refine aF RZ (by decide) ?_;have hb:=o.B_len ho;have l1:=fF o.SR;have l2:=fF o.SS;simp only [go_sem];refine aS (aA _) rfl (Pv o ho) ?_;simp only [go_sem];refine aI [1,2] (aA _) (by decide) (by simp) rfl rfl (Dt o.B o.SR (by omega) (ho.nums o.SR (by simp))) ?_;rintro r T' rfl;obtain ⟨A1,hA1⟩:∃ A1,A1=o.B++fA o.SR:=⟨_,rfl⟩
 rw [←hA1];have q1:A1.length≤300010:=by rw [hA1,dU];omega
 simp only [go_sem];refine aI [1,3] (aA _) (by decide) (by simp) rfl rfl (Dt A1 o.SS (by omega) (ho.nums o.SS (by simp))) ?_;rintro r T' rfl;obtain ⟨A2,hA2⟩:∃ A2,A2=A1++fA o.SS:=⟨_,rfl⟩
 rw [←hA2];have q2:A2.length≤300020:=by rw [hA2,dU];omega
 simp only [go_sem];refine aI [1,4] (aA _) (by decide) (by simp) rfl rfl (Pr A2 (by omega)) ?_;rintro r T' ⟨rfl,rfl⟩;simp only [go_sem];rw [hA2,hA1];simp only [OpM.P,kL,cN,eQ,qP,yM,kT,eE]
end
end
section
def lOp:List Nat:=[111,112]
def Pw:List Nat:=[115,105,103,110,101,100]
def aEY:List Nat:=[115,105,103]
def Af (o:OpM):Id:=⟨o.By,o.Seq,((R6 lOp o.B).val:Nat)⟩
def SF (n:Nat):Fq:=⟨n%PP,Aj _ (by decide)⟩
def J6 {n:Nat} (h:n<2305843009213693951):(SF n).val=n:=Ed h
def Px (b:List Nat):Fq:=R6 Pw b
def Ja (r pub:Nat) (b:List Nat):Fq:=Ds aEY [r,pub,(Px b).val]
def CD (pub:Nat) (b:List Nat) (R S:Nat):Bool :=
 (decide (1≤pub)&&decide (pub≤2305843009213693950))&&(decide (1≤R)&&decide (R≤2305843009213693950))&&decide (S≤2305843009213693949) &&
 decide ((37:Fq)^S=SF R*SF pub^(Ja R pub b).val)
def yE {l:List Nat} (h:(l.all λx=>decide (x<256))=true):wC l:=λx hx=>by simpa using kY.1 h x hx
def BO (a:Fq):a.val<18446744073709551616:=IX a.isLt (by decide)
section
variable {G:Nat→Option (List AV)}
set_option maxHeartbeats 4000000
def WB (o:OpM) (ho:o.ok):aC PQ G EF [.ag o.A] [] λr T=>r=.ag (Af o).A∧T=[]:=by
 refine aF TZ (by decide) ?_;have hb:=o.B_len ho;simp only [go_sem];refine aS (aA _) rfl (Pv o ho) ?_;simp only [go_sem];refine aI [2,3] (aA _) (by decide) (by simp) rfl rfl (Pr o.B (by omega)) ?_;rintro r T' ⟨rfl,rfl⟩;simp only [go_sem];refine bS (aA _) rfl rfl (SD _ lOp o.B (by rfl) (by rfl) (yE (by decide)) (by decide) (by decide) (o.B_ok ho) (by omega)) ?_;rintro r T' ⟨rfl,rfl⟩;refine ⟨by simp only [eY],by simp,?_⟩;simp only [go_sem];rfl
def aEZ (pub r:Nat) (b:List Nat) (hp:pub<18446744073709551616) (hr:r<18446744073709551616) (hb:wC b) (hl:b.length≤1000000):aC PQ G DD [uv pub,uv r,.ls 1 (bl b)] [] λx T=>x=.tup [.v (fu (Px b)),.v (fu (Ja r pub b))]∧T=[]:=by
 refine aF MH (by decide) ?_;simp only [go_sem];refine aB (aA _) rfl (SD _ Pw b (by rfl) (by rfl) (yE (by decide)) (by decide) (by decide) hb (by omega)) rfl ?_;simp only [go_sem];refine bS (aA _) rfl rfl (aDS _ aEY [r,pub,(Px b).val] (by rfl) (by rfl) (yE (by decide)) (by decide) (by decide) (λn hn=>?_) (by simp)) ?_
 ·simp only [gK,pQ,or_false] at hn;rcases hn with rfl | rfl | rfl
  ·exact hr
  ·exact hp
  ·exact BO _
 rintro x T' ⟨rfl,rfl⟩;refine ⟨by simp only [eY],by simp,?_⟩;simp only [go_sem];rfl
def MM (n lo hi:Nat):aC PQ G xO [uv n,uv lo,uv hi] [] λr T=>r=.v (.bool (decide (lo≤n)&&decide (n≤hi)))∧T=[]:=by
 refine aF G6 (by decide) ?_;have e1:decide ((lo:Int)≤(n:Int))=decide (lo≤n):=by rw [oU];simp
 have e2:decide ((n:Int)≤(hi:Int))=decide (n≤hi):=by rw [oU];simp
 simp only [go_sem,ge_iff_le,e1,e2];cases decide (lo≤n)<;>simp only [go_sem,undef,e1,e2,jG,nG]
def Py (pub:Nat) (b:List Nat) (R S:Nat) (hp:pub<18446744073709551616) (hR:R<18446744073709551616) (hS:S<18446744073709551616) (hb:wC b) (hl:b.length≤1000000):aC PQ G Br [uv pub,.ls 1 (bl b),.ag [uv R,uv S]] [] λr T=>r=.v (.bool (CD pub b R S))∧T=[]:=by
 refine aF JZ (by decide) ?_;simp only [go_sem];refine aB (aA _) rfl (MM pub 1 2305843009213693950) rfl ?_;cases h1:(decide (1≤pub)&&decide (pub≤2305843009213693950))
 ·simp only [go_sem,undef,CD,h1,nG]
 simp only [go_sem];refine aB (aA _) rfl (MM R 1 2305843009213693950) rfl ?_;cases h2:(decide (1≤R)&&decide (R≤2305843009213693950))
 ·simp only [go_sem,undef,CD,h1,h2,nG,Ch]
 simp only [go_sem];refine aB (aA _) rfl (MM S 0 2305843009213693949) rfl ?_;cases h3:decide (S≤2305843009213693949)
 ·simp only [go_sem,undef,CD,h1,h2,h3,nG,Ch,xC,jG]
 simp only [go_sem,xC];refine aB (aA _) rfl (aEZ pub R b hp hR hb hl) rfl ?_;simp only [eM,decide_eq_true_eq] at h1 h2 h3;have e1:uv pub=.v (fu (SF pub)):=by simp only [fu,J6 (show pub<2305843009213693951 by omega)]
 have e2:uv R=.v (fu (SF R)):=by simp only [fu,J6 (show R<2305843009213693951 by omega)]
 have eq37:AV.v (.int .u64 37)=.v (fu (37:Fq)):=rfl;simp only [go_sem];refine aB (R:=.v (fu ((37:Fq)^S))) (aA _) rfl (OC (37:Fq) S hS) rfl ?_;simp only [go_sem];refine aB (R:=.v (fu (SF pub^(Ja R pub b).val))) (aA _) rfl (by rw [e1];exact OC (SF pub) (Ja R pub b).val (BO _)) rfl ?_;simp only [go_sem];refine aB (R:=.v (fu (SF R*SF pub^(Ja R pub b).val))) (aA _) rfl (by rw [e2];exact CP (SF R) _) rfl ?_;have e3:∀ x y:Fq,((x.val:Int)==(y.val:Int))=decide (x=y):=λx y=>by
  rw [oU];simp [Fin.ext_iff];omega
 simp only [go_sem,e3,CD];simp [h1,h2,h3]
def aAv (c:CardM) (o:OpM) (ho:o.ok) (hc:c.Sign<18446744073709551616):aC PQ G C6 [.ag c.A,.ag o.A] [] λr T=>r=.v (.bool ((o.By==c.Device)&&CD c.Sign o.B o.SR o.SS))∧T=[]:=by
 refine aF LV (by decide) ?_;have hb:=o.B_len ho;have h1:=ho.nums o.SR (by simp);have h2:=ho.nums o.SS (by simp);simp only [go_sem,CardM.A_def];cases he:(o.By==c.Device)
 ·simp only [go_sem,undef,nG]
 simp only [go_sem];refine aS (aA _) rfl (Pv o ho) ?_;simp only [go_sem];refine aI [2,3] (aA _) (by decide) (by simp) rfl rfl (Pr o.B (by omega)) ?_;rintro r T' ⟨rfl,rfl⟩;simp only [go_sem];refine bS (aA _) rfl rfl (Py c.Sign o.B o.SR o.SS hc h1 h2 (o.B_ok ho) (by omega)) ?_;rintro r T' ⟨rfl,rfl⟩;refine ⟨by simp only [eY],by simp,?_⟩;simp only [go_sem,jG]
end
end
section
section
variable {G:Nat→Option (List AV)}
set_option maxHeartbeats 4000000
def aCH (x:Id) (hx:x.ok):aC PQ G oJ [.ag x.A] [] λr T'=>r=.own 0∧T'=[some (.arr 1 (bl x.B))]:=by
 have:=aCA (G:=G) x.a x.b x.c.toNat hx.1.1 hx.1.2 hx.2.1.1 hx.2.1.2 (by have:=hx.2.2;omega);rw [U5 hx.2.2.1] at this;exact this
def IF (o:OpM) (ho:o.ok):aC PQ G uV [.ag o.A] [] λr T'=>r=.own 0∧T'=[some (.arr 1 (bl o.B))]:=by
 refine aF LN (by decide) ?_;have hi:∀ n,n∈[o.By,o.Seq,o.Kind,o.At,o.Device,o.Old,o.Member,o.Role,o.N,o.Need,o.Wait]→tK n:=ho.ints;have y1:=ho.past.1;have y2:=ho.path.1;have y3:=ho.refs.1;have y4:=ho.guards.1;have y5:=ho.boxes.1;have y6:=ho.hist.1;have y7:=ho.body.1;have z1:(cM [o.By,o.Seq,o.Kind,o.At,(o.Past.length:Int)]).length≤50:=jX [o.By,o.Seq,o.Kind,o.At,(o.Past.length:Int)];have z2:(cM [o.Device,o.Old,o.Member,o.Role,(o.Path.length:Int)]).length≤50:=jX [o.Device,o.Old,o.Member,o.Role,(o.Path.length:Int)];have z3:o.Epoch.B.length≤30:=Id.B_len _;have z4:(bJ o.N).length≤10:=bP _;have z5:(oQ o.Body).length≤1010:=by unfold oQ;rw [dU];have:=bP (o.Body.length:Int);omega
 have z6:(bJ (o.Refs.length:Int)).length≤10:=bP _;have z7:(kL o.Refs).length≤10000:=by have:=wZ o.Refs;omega
 have z8:o.Of.B.length≤30:=Id.B_len _;have z9:(bJ (o.Guards.length:Int)).length≤10:=bP _;have z10:(cM o.Guards).length≤10000:=by have:=jX o.Guards;omega
 have z11:(cM [o.Need,o.Wait]).length≤20:=jX [o.Need,o.Wait];have z12:(sY o.Boxes).length≤40010:=by unfold sY;rw [dU];have:=bP (o.Boxes.length:Int);have:=G7 o.Boxes;omega
 have z13:(fA o.Pub).length≤10:=fF _;have z14:(bJ (o.Hist.length:Int)).length≤10:=bP _;have hpa:∀ x∈o.Past,x.B.length≤30:=λx _=>Id.B_len x;have hpt:∀ x∈o.Path,x.B.length≤4020:=λx h=>G9 (ho.path.2 x h);have hhi:∀ x∈o.Hist,x.B.length≤1040:=λx h=>HA (ho.hist.2 x h);have fl:∀ {k:Nat} {W:List Nat},k<100000000→W.length≤k→(∀ e∈bl W,∀ c∈e,∃ x,c=AV.v x):=λ_ _ e he c hc=>by
  obtain ⟨n,_,rfl⟩:=dE.1 he;exact ⟨_,gZ.1 hc⟩
 simp only [go_sem,aL];refine bS (aA _) rfl rfl (Ps [o.By,o.Seq,o.Kind,o.At,(o.Past.length:Int)] (by simp) (λn hm=>?_)) ?_
 ·simp only [gK,pQ,or_false] at hm;rcases hm with h | h | h | h | h
  ·exact h ▸ hi _ (by simp)
  ·exact h ▸ hi _ (by simp)
  ·exact h ▸ hi _ (by simp)
  ·exact h ▸ hi _ (by simp)
  ·subst h;exact ⟨by omega,by omega⟩
 rintro r T' ⟨rfl,rfl⟩;refine ⟨by simp only [eY],by simp only [gZ,tQ,forall_eq];exact fl (k:=50) (by decide) z1,?_⟩;obtain ⟨A1,hA1⟩:∃ A1,A1=cM [o.By,o.Seq,o.Kind,o.At,(o.Past.length:Int)]:=⟨_,rfl⟩
 rw [←hA1];have l1:A1.length≤50:=by rw [hA1];exact z1
 simp only [go_sem,aL];refine aO o.Past.length (λi=>⟨0,[(1,.ptr 0 0),(3,.own 1),(4,iv i)],[some (.box o.A),some (.arr 1 (bl (A1++((o.Past.take i).map Id.B).flatten)))]⟩) (λ_=>True) ?_ trivial ?_ ?_
 ·simp only [go_sem,mL,yM,kT]
 ·intro i hj _;have g0:(o.Past.map Id.A)[i]?=some o.Past[i].A:=aP _ o.Past i hj;have hk:=hpa o.Past[i] (jY hj);have k1:=wO hpa i (Ck hj);have es:A1++((o.Past.take (i+1)).map Id.B).flatten=(A1++((o.Past.take i).map Id.B).flatten)++Id.B o.Past[i]:=by rw [CA _ o.Past i hj];simp only [eE]
  have k3:(A1++((o.Past.take i).map Id.B).flatten).length≤30060:=by rw [dU];omega
  rw [es];clear es;have hx:=ho.past.2 o.Past[i] (jY hj);generalize A1++((o.Past.take i).map Id.B).flatten=X at *
  generalize o.Past[i]=x at *
  have ws:=aG (show i<9223372036854775807 by omega);simp only [go_sem,aL,aT hj,hj,g0];have b1:X.length+x.B.length≤140737488355328:=by omega
  have b2:X.length+x.B.length≤maxLen:=by unfold maxLen;omega
  have b3:(X.length+x.B.length)*1≤140737488355328:=by omega
  refine aS (aA _) rfl (aCH x hx) ?_;simp only [go_sem,aL,hj,g0,b1,b2,b3,↓bT,ws,gQ,eE]
 intro _;rw [kH];obtain ⟨A2,hA2⟩:∃ A2,A2=A1++(o.Past.map Id.B).flatten:=⟨_,rfl⟩
 rw [←hA2];have l2:A2.length≤30050:=by rw [hA2,dU];have:=MJ hpa;omega
 simp only [go_sem,aL,aX (cZ _)];have b1:A2.length+(cM [o.Device,o.Old,o.Member,o.Role,(o.Path.length:Int)]).length≤140737488355328:=by omega
 have b2:A2.length+(cM [o.Device,o.Old,o.Member,o.Role,(o.Path.length:Int)]).length≤maxLen:=by unfold maxLen;omega
 have b3:(A2.length+(cM [o.Device,o.Old,o.Member,o.Role,(o.Path.length:Int)]).length)*1≤140737488355328:=by omega
 refine bS (aA _) rfl rfl (Ps [o.Device,o.Old,o.Member,o.Role,(o.Path.length:Int)] (by simp) (λn hm=>?_)) ?_
 ·simp only [gK,pQ,or_false] at hm;rcases hm with h | h | h | h | h
  ·exact h ▸ hi _ (by simp)
  ·exact h ▸ hi _ (by simp)
  ·exact h ▸ hi _ (by simp)
  ·exact h ▸ hi _ (by simp)
  ·subst h;exact ⟨by omega,by omega⟩
 rintro r T' ⟨rfl,rfl⟩;refine ⟨by simp only [eY],by simp only [gZ,tQ,forall_eq];exact fl (k:=50) (by decide) (by omega),?_⟩;simp only [go_sem,aL,b1,b2,b3,↓bT];rw [←gQ];obtain ⟨A3,hA3⟩:∃ A3,A3=A2++(cM [o.Device,o.Old,o.Member,o.Role,(o.Path.length:Int)]):=⟨_,rfl⟩
 rw [←hA3];have l3:A3.length≤30100:=by rw [hA3,dU];omega
 clear b1 b2 b3;refine aO o.Path.length (λi=>⟨0,[(1,.ptr 0 0),(3,.own 1),(5,iv i)],[some (.box o.A),some (.arr 1 (bl (A3++((o.Path.take i).map NodeM.B).flatten)))]⟩) (λ_=>True) ?_ trivial ?_ ?_
 ·simp only [go_sem,mL,yM,kT]
 ·intro i hj _;have g0:(o.Path.map NodeM.A)[i]?=some [uv o.Path[i].Pub,C0 o.Path[i].Boxes]:=aP _ o.Path i hj;have hk:=hpt o.Path[i] (jY hj);have k1:=wO hpt i (Ck hj);have es:A3++((o.Path.take (i+1)).map NodeM.B).flatten=(A3++((o.Path.take i).map NodeM.B).flatten)++NodeM.B o.Path[i]:=by rw [CA _ o.Path i hj];simp only [eE]
  have k3:(A3++((o.Path.take i).map NodeM.B).flatten).length≤70310:=by rw [dU];omega
  rw [es];clear es;have hx:=ho.path.2 o.Path[i] (jY hj);generalize A3++((o.Path.take i).map NodeM.B).flatten=X at *
  generalize o.Path[i]=x at *
  have ws:=aG (show i<9223372036854775807 by omega);simp only [go_sem,aL,aT hj,hj,g0];have u1:(fA x.Pub).length≤10:=fF _;have u2:(sY x.Boxes).length≤4010:=by unfold sY;rw [dU];have:=bP (x.Boxes.length:Int);have:=G7 x.Boxes;have:=hx.2.1;omega
  have b1:X.length+(fA x.Pub).length≤140737488355328:=by omega
  have b2:X.length+(fA x.Pub).length≤maxLen:=by unfold maxLen;omega
  have b3:(X.length+(fA x.Pub).length)*1≤140737488355328:=by omega
  refine aS (aA _) rfl (OF x.Pub hx.1) ?_;simp only [go_sem,aL,hj,g0,b1,b2,b3,↓bT];rw [←gQ];obtain ⟨Y,hY⟩:∃ Y,Y=X++(fA x.Pub):=⟨_,rfl⟩
  rw [←hY];have lY:Y.length≤70320:=by rw [hY,dU];omega
  clear b1 b2 b3;have b1:Y.length+(sY x.Boxes).length≤140737488355328:=by omega
  have b2:Y.length+(sY x.Boxes).length≤maxLen:=by unfold maxLen;omega
  have b3:(Y.length+(sY x.Boxes).length)*1≤140737488355328:=by omega
  refine aS (aA _) rfl (V9 x.Boxes (by have:=hx.2.1;omega) hx.2.2) ?_;simp only [go_sem,aL,hj,g0,b1,b2,b3,↓bT,ws,gQ,eE,NodeM.B,SealM.B];rw [hY];simp only [gQ,eE]
  try rfl
 intro _;rw [kH];obtain ⟨A4,hA4⟩:∃ A4,A4=A3++(o.Path.map NodeM.B).flatten:=⟨_,rfl⟩
 rw [←hA4];have l4:A4.length≤70300:=by rw [hA4,dU];have:=MJ hpt;omega
 simp only [go_sem,aL,aX (cZ _)];have b1:A4.length+o.Epoch.B.length≤140737488355328:=by omega
 have b2:A4.length+o.Epoch.B.length≤maxLen:=by unfold maxLen;omega
 have b3:(A4.length+o.Epoch.B.length)*1≤140737488355328:=by omega
 refine aS (aA _) rfl (aCH o.Epoch ho.epoch) ?_;simp only [go_sem,aL,b1,b2,b3,↓bT];rw [←gQ];obtain ⟨A5,hA5⟩:∃ A5,A5=A4++o.Epoch.B:=⟨_,rfl⟩
 rw [←hA5];have l5:A5.length≤70330:=by rw [hA5,dU];omega
 clear b1 b2 b3;have b1:A5.length+(bJ o.N).length≤140737488355328:=by omega
 have b2:A5.length+(bJ o.N).length≤maxLen:=by unfold maxLen;omega
 have b3:(A5.length+(bJ o.N).length)*1≤140737488355328:=by omega
 refine aS (aA _) rfl (sX o.N (hi o.N (by simp)).1 (hi o.N (by simp)).2) ?_;simp only [go_sem,aL,b1,b2,b3,↓bT];rw [←gQ];obtain ⟨A6,hA6⟩:∃ A6,A6=A5++(bJ o.N):=⟨_,rfl⟩
 rw [←hA6];have l6:A6.length≤70340:=by rw [hA6,dU];omega
 clear b1 b2 b3;have b1:A6.length+(oQ o.Body).length≤140737488355328:=by omega
 have b2:A6.length+(oQ o.Body).length≤maxLen:=by unfold maxLen;omega
 have b3:(A6.length+(oQ o.Body).length)*1≤140737488355328:=by omega
 refine aS (aA _) rfl (aAm (bsN o.Body) o.Body (CB ho.body.2) (G8 _) (by omega)) ?_;simp only [go_sem,aL,b1,b2,b3,↓bT];rw [←gQ];obtain ⟨A7,hA7⟩:∃ A7,A7=A6++(oQ o.Body):=⟨_,rfl⟩
 rw [←hA7];have l7:A7.length≤71350:=by rw [hA7,dU];omega
 clear b1 b2 b3;have b1:A7.length+(bJ (o.Refs.length:Int)).length≤140737488355328:=by omega
 have b2:A7.length+(bJ (o.Refs.length:Int)).length≤maxLen:=by unfold maxLen;omega
 have b3:(A7.length+(bJ (o.Refs.length:Int)).length)*1≤140737488355328:=by omega
 refine aS (aA _) rfl (sX (o.Refs.length:Int) (by omega) (by omega)) ?_;simp only [go_sem,aL,b1,b2,b3,↓bT];rw [←gQ];obtain ⟨A8,hA8⟩:∃ A8,A8=A7++(bJ (o.Refs.length:Int)):=⟨_,rfl⟩
 rw [←hA8];have l8:A8.length≤71360:=by rw [hA8,dU];omega
 clear b1 b2 b3;have b1:A8.length+(kL o.Refs).length≤140737488355328:=by omega
 have b2:A8.length+(kL o.Refs).length≤maxLen:=by unfold maxLen;omega
 have b3:(A8.length+(kL o.Refs).length)*1≤140737488355328:=by omega
 refine aS (aA _) rfl (aAl o.Refs (by omega) ho.refs.2) ?_;simp only [go_sem,aL,b1,b2,b3,↓bT];rw [←gQ];obtain ⟨A9,hA9⟩:∃ A9,A9=A8++(kL o.Refs):=⟨_,rfl⟩
 rw [←hA9];have l9:A9.length≤81360:=by rw [hA9,dU];omega
 clear b1 b2 b3;have b1:A9.length+o.Of.B.length≤140737488355328:=by omega
 have b2:A9.length+o.Of.B.length≤maxLen:=by unfold maxLen;omega
 have b3:(A9.length+o.Of.B.length)*1≤140737488355328:=by omega
 refine aS (aA _) rfl (aCH o.Of ho.of) ?_;simp only [go_sem,aL,b1,b2,b3,↓bT];rw [←gQ];obtain ⟨A10,hA10⟩:∃ A10,A10=A9++o.Of.B:=⟨_,rfl⟩
 rw [←hA10];have l10:A10.length≤81390:=by rw [hA10,dU];omega
 clear b1 b2 b3;have b1:A10.length+(bJ (o.Guards.length:Int)).length≤140737488355328:=by omega
 have b2:A10.length+(bJ (o.Guards.length:Int)).length≤maxLen:=by unfold maxLen;omega
 have b3:(A10.length+(bJ (o.Guards.length:Int)).length)*1≤140737488355328:=by omega
 refine aS (aA _) rfl (sX (o.Guards.length:Int) (by omega) (by omega)) ?_;simp only [go_sem,aL,b1,b2,b3,↓bT];rw [←gQ];obtain ⟨A11,hA11⟩:∃ A11,A11=A10++(bJ (o.Guards.length:Int)):=⟨_,rfl⟩
 rw [←hA11];have l11:A11.length≤81400:=by rw [hA11,dU];omega
 clear b1 b2 b3;have b1:A11.length+(cM o.Guards).length≤140737488355328:=by omega
 have b2:A11.length+(cM o.Guards).length≤maxLen:=by unfold maxLen;omega
 have b3:(A11.length+(cM o.Guards).length)*1≤140737488355328:=by omega
 refine aS (aA _) rfl (Ps o.Guards (by omega) ho.guards.2) ?_;simp only [go_sem,aL,b1,b2,b3,↓bT];rw [←gQ];obtain ⟨A12,hA12⟩:∃ A12,A12=A11++(cM o.Guards):=⟨_,rfl⟩
 rw [←hA12];have l12:A12.length≤91400:=by rw [hA12,dU];omega
 clear b1 b2 b3;have b1:A12.length+(cM [o.Need,o.Wait]).length≤140737488355328:=by omega
 have b2:A12.length+(cM [o.Need,o.Wait]).length≤maxLen:=by unfold maxLen;omega
 have b3:(A12.length+(cM [o.Need,o.Wait]).length)*1≤140737488355328:=by omega
 refine bS (aA _) rfl rfl (Ps [o.Need,o.Wait] (by simp) (λn hm=>?_)) ?_
 ·simp only [gK,pQ,or_false] at hm;rcases hm with h | h
  ·exact h ▸ hi _ (by simp)
  ·exact h ▸ hi _ (by simp)
 rintro r T' ⟨rfl,rfl⟩;refine ⟨by simp only [eY],by simp only [gZ,tQ,forall_eq];exact fl (k:=20) (by decide) (by omega),?_⟩;simp only [go_sem,aL,b1,b2,b3,↓bT];rw [←gQ];obtain ⟨A13,hA13⟩:∃ A13,A13=A12++(cM [o.Need,o.Wait]):=⟨_,rfl⟩
 rw [←hA13];have l13:A13.length≤91420:=by rw [hA13,dU];omega
 clear b1 b2 b3;have b1:A13.length+(sY o.Boxes).length≤140737488355328:=by omega
 have b2:A13.length+(sY o.Boxes).length≤maxLen:=by unfold maxLen;omega
 have b3:(A13.length+(sY o.Boxes).length)*1≤140737488355328:=by omega
 refine aS (aA _) rfl (V9 o.Boxes (by omega) ho.boxes.2) ?_;simp only [go_sem,aL,b1,b2,b3,↓bT];rw [←gQ];obtain ⟨A14,hA14⟩:∃ A14,A14=A13++(sY o.Boxes):=⟨_,rfl⟩
 rw [←hA14];have l14:A14.length≤131430:=by rw [hA14,dU];omega
 clear b1 b2 b3;have b1:A14.length+(fA o.Pub).length≤140737488355328:=by omega
 have b2:A14.length+(fA o.Pub).length≤maxLen:=by unfold maxLen;omega
 have b3:(A14.length+(fA o.Pub).length)*1≤140737488355328:=by omega
 refine aS (aA _) rfl (OF o.Pub (ho.nums o.Pub (by simp))) ?_;simp only [go_sem,aL,b1,b2,b3,↓bT];rw [←gQ];obtain ⟨A15,hA15⟩:∃ A15,A15=A14++(fA o.Pub):=⟨_,rfl⟩
 rw [←hA15];have l15:A15.length≤131440:=by rw [hA15,dU];omega
 clear b1 b2 b3;have b1:A15.length+(bJ (o.Hist.length:Int)).length≤140737488355328:=by omega
 have b2:A15.length+(bJ (o.Hist.length:Int)).length≤maxLen:=by unfold maxLen;omega
 have b3:(A15.length+(bJ (o.Hist.length:Int)).length)*1≤140737488355328:=by omega
 refine aS (aA _) rfl (sX (o.Hist.length:Int) (by omega) (by omega)) ?_;simp only [go_sem,aL,b1,b2,b3,↓bT];rw [←gQ];obtain ⟨A16,hA16⟩:∃ A16,A16=A15++(bJ (o.Hist.length:Int)):=⟨_,rfl⟩
 rw [←hA16];have l16:A16.length≤131450:=by rw [hA16,dU];omega
 clear b1 b2 b3;refine aO o.Hist.length (λi=>⟨0,[(1,.ptr 0 0),(3,.own 1),(6,iv i)],[some (.box o.A),some (.arr 1 (bl (A16++((o.Hist.take i).map SealM.B).flatten)))]⟩) (λ_=>True) ?_ trivial ?_ ?_
 ·simp only [go_sem,mL,yM,kT]
 ·intro i hj _;have g0:(o.Hist.map SealM.A)[i]?=some [.v (.int .i64 o.Hist[i].Of.a),.v (.int .i64 o.Hist[i].Of.b),.v (.int .u64 o.Hist[i].Of.c),.ls 1 (bl o.Hist[i].Body)]:=aP _ o.Hist i hj;have hk:=hhi o.Hist[i] (jY hj);have k1:=wO hhi i (Ck hj);have es:A16++((o.Hist.take (i+1)).map SealM.B).flatten=(A16++((o.Hist.take i).map SealM.B).flatten)++SealM.B o.Hist[i]:=by rw [CA _ o.Hist i hj];simp only [eE]
  have k3:(A16++((o.Hist.take i).map SealM.B).flatten).length≤235460:=by rw [dU];omega
  rw [es];clear es;have hx:=ho.hist.2 o.Hist[i] (jY hj);generalize A16++((o.Hist.take i).map SealM.B).flatten=X at *
  generalize o.Hist[i]=x at *
  have ws:=aG (show i<9223372036854775807 by omega);simp only [go_sem,aL,aT hj,hj,g0];have u1:x.Of.B.length≤30:=Id.B_len _;have u2:(oQ x.Body).length≤1010:=by unfold oQ;rw [dU];have:=bP (x.Body.length:Int);have:=hx.2.1;omega
  have b1:X.length+x.Of.B.length≤140737488355328:=by omega
  have b2:X.length+x.Of.B.length≤maxLen:=by unfold maxLen;omega
  have b3:(X.length+x.Of.B.length)*1≤140737488355328:=by omega
  refine aS (aA _) rfl (aCH x.Of hx.1) ?_;simp only [go_sem,aL,hj,g0,b1,b2,b3,↓bT];rw [←gQ];obtain ⟨Y,hY⟩:∃ Y,Y=X++x.Of.B:=⟨_,rfl⟩
  rw [←hY];have lY:Y.length≤235490:=by rw [hY,dU];omega
  clear b1 b2 b3;have b1:Y.length+(oQ x.Body).length≤140737488355328:=by omega
  have b2:Y.length+(oQ x.Body).length≤maxLen:=by unfold maxLen;omega
  have b3:(Y.length+(oQ x.Body).length)*1≤140737488355328:=by omega
  refine aS (aA _) rfl (aAm (bsN x.Body) x.Body (CB hx.2.2) (G8 _) (by have:=hx.2.1;omega)) ?_;simp only [go_sem,aL,hj,g0,b1,b2,b3,↓bT,ws,gQ,eE,NodeM.B,SealM.B];rw [hY];simp only [gQ,eE]
  try rfl
 intro _;rw [kH];obtain ⟨A17,hA17⟩:∃ A17,A17=A16++(o.Hist.map SealM.B).flatten:=⟨_,rfl⟩
 rw [←hA17];have l17:A17.length≤235450:=by rw [hA17,dU];have:=MJ hhi;omega
 simp only [go_sem,aL,aX (cZ _)];rw [hA17,hA16,hA15,hA14,hA13,hA12,hA11,hA10,hA9,hA8,hA7,hA6,hA5,hA4,hA3,hA2,hA1];simp only [OpM.B,lI,sY,mR,pJ,eE,kT,cM,kL,cN,eQ,qP,yM]
end
end
section
def Pz:List Nat:=[110,111,110,99,101]
def Iu:List Nat:=[115,105,103,110]
def aAw:List Nat:=[108,101,97,100]
def aAx:List Nat:=[107,101,101,112]
def mH:Nat:=2305843009213693950
def AX:Nat→Nat→Nat→Nat→Nat
 | 0,_,_,out=>out
 | n+1,a,b,out=>if b=0 then out else AX n ((a+a)%mH) (b/2) (if b%2=1 then (out+a)%mH else out)
def IG:∀ (n a b out:Nat),b<2^n→out<mH→AX n a b out=(out+a*b)%mH
 | 0,a,b,out,hb,ho=>by
  have:b=0:=by simpa using hb
  subst this;rw [AX,Qs,yN,Ed ho]
 | n+1,a,b,out,hb,ho=>by
  rw [AX];split
  ·rename_i h;subst h;rw [Qs,yN,Ed ho]
  ·have hb2:b/2<2^n:=by rw [Cj] at hb;omega
   have hpos:0<mH:=by decide
   have e:a*b=(a+a)*(b/2)+a*(b%2):=by
    have:=Qn b 2
    conv=>lhs;rw [←this]
    rw [Nat.mul_add,←Ng];congr 2;omega
   split
   ·rename_i h1;rw [IG n _ _ _ hb2 (Aj _ hpos),e,h1,CL];rw [Qw,KX,Ak,KX,←Ak,←Qw];congr 1;omega
   ·rename_i h1;have h0:b%2=0:=by omega
    rw [IG n _ _ _ hb2 ho,e,h0,Qs,yN,Qw,Ak,KX,←Ak,←Qw]
def MN (a b:Nat):Nat:=(a*b)%mH
def CQ (secret:Nat) (b:List Nat):Nat:=NQ Pz [secret,(Px b).val]
def MO (secret:Nat) (b:List Nat):Fq:=(37:Fq)^CQ secret b
def aAy (secret:Nat) (b:List Nat):Nat:=(CQ secret b+MN (Ja (MO secret b).val ((37:Fq)^secret).val b).val secret)%mH
def Jb (lab:List Nat) (d:Nat):Nat:=NQ lab [d]
def pK (o:OpM):OpM:={ o with SR:=(MO (Jb Iu o.By.toNat) o.B).val,SS:=aAy (Jb Iu o.By.toNat) o.B }
def OJ (lab ns:List Nat):NQ lab ns<18446744073709551616:=Qh (Pq lab ns).2 (by decide)
section
variable {G:Nat→Option (List AV)}
set_option maxHeartbeats 4000000
def SG (o:OpM) (ho:o.ok):aC PQ G Gq [.ag o.A] [] λr T=>r=.ag (Af o).A∧T=[]:=by
 refine aF RW (by decide) ?_;have hb:=o.B_len ho;simp only [go_sem];refine aS (aA _) rfl (IF o ho) ?_;simp only [go_sem];refine bS (aA _) rfl rfl (R7 _ lOp o.B (by rfl) (by rfl) (yE (by decide)) (by decide) (o.B_ok ho) (by omega)) ?_;rintro r T' ⟨rfl,rfl⟩;refine ⟨by simp only [eY],by simp,?_⟩;simp only [go_sem];rfl
def wP:aC PQ G jR [] [] λr T=>r=uv mH∧T=[]:=by
 refine aF MA (by decide) ?_;simp only [go_sem,mH];rfl
def c_m (b:List Nat) (hb:wC b) (hl:b.length≤1000000):aC PQ G Ju [.ls 1 (bl b)] [] λr T=>r=.v (fu (Px b))∧T=[]:=by
 refine aF UD (by decide) ?_;simp only [go_sem];refine aB (aA _) rfl (R7 _ Pw b (by rfl) (by rfl) (yE (by decide)) (by decide) hb hl) rfl ?_;simp only [go_sem];rfl
def c_e (r pub:Nat) (b:List Nat) (hr:r<18446744073709551616) (hp:pub<18446744073709551616) (hb:wC b) (hl:b.length≤1000000):aC PQ G Jv [uv r,uv pub,.ls 1 (bl b)] [] λx T=>x=.v (fu (Ja r pub b))∧T=[]:=by
 refine aF UE (by decide) ?_;simp only [go_sem];refine aB (aA _) rfl (c_m b hb hl) rfl ?_;simp only [go_sem];refine bS (aA _) rfl rfl (aAh _ aEY [r,pub,(Px b).val] (by rfl) (by rfl) (yE (by decide)) (by decide) (λn hn=>?_) (by simp)) ?_
 ·simp only [gK,pQ,or_false] at hn;rcases hn with rfl | rfl | rfl
  ·exact hr
  ·exact hp
  ·exact BO _
 rintro x T' ⟨rfl,rfl⟩;refine ⟨by simp only [eY],by simp,?_⟩;simp only [go_sem];rfl
def ES (s:Nat) (hs:s<18446744073709551616):aC PQ G wX [uv s] [] λr T=>r=.v (fu ((37:Fq)^s))∧T=[]:=by
 refine aF Po (by decide) ?_;simp only [go_sem];refine aB (R:=.v (fu ((37:Fq)^s))) (aA _) rfl (R2 (37:Fq) s hs) rfl ?_;simp only [go_sem]
def aCI (a b:Nat) (ha:a<18446744073709551616) (hb:b<18446744073709551616):aC PQ G C7 [uv a,uv b] [] λr T=>r=uv (MN a b)∧T=[]:=by
 refine aF L9 (by decide) ?_;have hpos:0<mH:=by decide
 have r1:aZ .rem (.int .u64 (a:Int)) (.int .u64 (mH:Nat))=some (.int .u64 ((a%mH:Nat):Int)):=jW a mH (Qt hpos);have r2:aZ .rem (.int .u64 (b:Int)) (.int .u64 (mH:Nat))=some (.int .u64 ((b%mH:Nat):Int)):=jW b mH (Qt hpos);simp only [go_sem];refine aB (aA _) rfl wP rfl ?_;simp only [go_sem,↓r1];refine aB (aA _) rfl wP rfl ?_;simp only [go_sem,↓r2];have key:AX 64 (a%mH) (b%mH) 0=MN a b:=by
  rw [IG 64 _ _ _ (IX (Aj _ hpos) (by decide)) hpos,rW,MN,←Ak]
 rw [←key];have ha2:=Aj a hpos;have hb2:b%mH<2^64:=IX (Aj _ hpos) (by decide);generalize a%mH=a at *
 generalize b%mH=b at *
 clear key ha hb r1 r2;refine bU (λn s=>∃ a' b' out,AX n a' b' out=AX 64 a b 0∧a'<mH∧b'<2^n∧n≤64∧out<mH∧s=⟨0,[(0,uv a'),(1,uv b'),(5,uv out)],[]⟩) 64 ⟨a,b,0,rfl,ha2,hb2,fW _,hpos,?_⟩ ?_
 ·simp only [go_sem];rfl
 rintro n s ⟨a',b',out,he,ha',hb',hn,ho',rfl⟩;rw [←he];have q1:mH=2305843009213693950:=rfl;by_cases h0:b'=0
 ·subst h0;have t1:decide (((0:Nat):Int)>0)=false:=by decide
  have ef:AX n a' 0 out=out:=by cases n<;>simp [AX]
  rw [ef];simp only [go_sem,t1]
 cases n with
 | zero=>exact absurd (show b'=0 by simpa using hb') h0
 | succ n =>
  have t1:decide ((b':Int)>0)=true:=decide_eq_true (by omega);have hb64:b'<18446744073709551616:=CU hb' (Ms (by decide) hn);have rb:aZ .rem (.int .u64 (b':Int)) (.int .u64 2)=some (.int .u64 ((b'%2:Nat):Int)):=jW b' 2 (by decide);have qb:aZ .quo (.int .u64 (b':Int)) (.int .u64 2)=some (.int .u64 ((b'/2:Nat):Int)):=BI b' 2 (by decide) hb64;have aa:aZ .add (.int .u64 (a':Int)) (.int .u64 (a':Int))=some (.int .u64 ((a'+a':Nat):Int)):=cW a' a' (by omega);have ra:aZ .rem (.int .u64 ((a'+a':Nat):Int)) (.int .u64 (mH:Nat))=some (.int .u64 (((a'+a')%mH:Nat):Int)):=jW (a'+a') mH (Qt hpos);have oa:aZ .add (.int .u64 (out:Int)) (.int .u64 (a':Int))=some (.int .u64 ((out+a':Nat):Int)):=cW out a' (by omega);have ro:aZ .rem (.int .u64 ((out+a':Nat):Int)) (.int .u64 (mH:Nat))=some (.int .u64 (((out+a')%mH:Nat):Int)):=jW (out+a') mH (Qt hpos);have hb2':b'/2<2^n:=by rw [Cj] at hb';omega
  rw [AX,if_neg h0];simp only [go_sem,t1,↓rb];by_cases hod:b'%2=1
  ·have t2:(((b'%2:Nat):Int)==1)=true:=by rw [hod];rfl
   rw [if_pos hod];simp only [go_sem,t2,↓oa];refine aB (aA _) rfl wP rfl ?_;simp only [go_sem,↓ro,↓aa];refine aB (aA _) rfl wP rfl ?_;simp only [go_sem,↓ra,↓qb];exact ⟨n,by omega,_,_,_,rfl,Aj _ hpos,hb2',by omega,Aj _ hpos,rfl⟩
  ·have t2:(((b'%2:Nat):Int)==1)=false:=by rw [show b'%2=0 by omega];rfl
   rw [if_neg hod];simp only [go_sem,t2,↓aa];refine aB (aA _) rfl wP rfl ?_;simp only [go_sem,↓ra,↓qb];exact ⟨n,by omega,_,_,_,rfl,Aj _ hpos,hb2',by omega,ho',rfl⟩
def SH (pub:Nat) (b:List Nat) (R S:Nat) (hp:pub<18446744073709551616) (hR:R<18446744073709551616) (hS:S<18446744073709551616) (hb:wC b) (hl:b.length≤1000000):aC PQ G C9 [uv pub,.ls 1 (bl b),.ag [uv R,uv S]] [] λr T=>r=.v (.bool (CD pub b R S))∧T=[]:=by
 refine aF MC (by decide) ?_;have q1:mH=2305843009213693950:=rfl;have e1:∀ x:Nat,decide ((x:Int)<1)=!decide (1≤x):=λx=>by rw [oU];simp;omega
 have e2:∀ x:Nat,decide ((mH:Int)<(x:Int))=!decide (x≤2305843009213693950):=λx=>by rw [oU];simp;omega
 have e3:decide ((mH:Int)≤(S:Int))=!decide (S≤2305843009213693949):=by rw [oU];simp;omega
 simp only [go_sem,gt_iff_lt,ge_iff_le,e1];cases h1:decide (1≤pub)
 ·simp only [go_sem,undef,CD,h1,nG]
 simp only [go_sem,gt_iff_lt,ge_iff_le,e1];refine aB (aA _) rfl wP rfl ?_;simp only [go_sem,gt_iff_lt,ge_iff_le,e1,e2];cases h2:decide (pub≤2305843009213693950)
 ·simp only [go_sem,undef,CD,h1,h2,nG,Ch]
 simp only [go_sem,gt_iff_lt,ge_iff_le,e1,e2];cases h3:decide (1≤R)
 ·simp only [go_sem,undef,CD,h1,h2,h3,nG,Ch]
 simp only [go_sem,gt_iff_lt,ge_iff_le,e1,e2];refine aB (aA _) rfl wP rfl ?_;simp only [go_sem,gt_iff_lt,ge_iff_le,e1,e2];cases h4:decide (R≤2305843009213693950)
 ·simp only [go_sem,undef,CD,h1,h2,h3,h4,nG,Ch]
 simp only [go_sem,gt_iff_lt,ge_iff_le,e1,e2];refine aB (aA _) rfl wP rfl ?_;simp only [go_sem,gt_iff_lt,ge_iff_le,e1,e2,e3];cases h5:decide (S≤2305843009213693949)
 ·simp only [go_sem,undef,CD,h1,h2,h3,h4,h5,nG,Ch]
 simp only [decide_eq_true_eq] at h1 h2 h3 h4 h5;have u1:uv pub=.v (fu (SF pub)):=by simp only [fu,J6 (show pub<2305843009213693951 by omega)]
 have u2:uv R=.v (fu (SF R)):=by simp only [fu,J6 (show R<2305843009213693951 by omega)]
 simp only [go_sem,gt_iff_lt,ge_iff_le];refine aB (R:=.v (fu ((37:Fq)^S))) (aA _) rfl (R2 (37:Fq) S hS) rfl ?_;simp only [go_sem];refine aB (aA _) rfl (c_e R pub b hR hp hb hl) rfl ?_;simp only [go_sem];refine aB (R:=.v (fu (SF pub^(Ja R pub b).val))) (aA _) rfl (by rw [u1];exact R2 (SF pub) (Ja R pub b).val (BO _)) rfl ?_;simp only [go_sem];refine aB (R:=.v (fu (SF R*SF pub^(Ja R pub b).val))) (aA _) rfl (by rw [u2];exact R1 (SF R) _) rfl ?_;have e3:∀ x y:Fq,((x.val:Int)==(y.val:Int))=decide (x=y):=λx y=>by
  rw [oU];simp [Fin.ext_iff];omega
 simp only [go_sem,e3,CD];simp [h1,h2,h3,h4,h5]
def aF0 (s:Nat) (b:List Nat) (hs:s<18446744073709551616) (hb:wC b) (hl:b.length≤1000000):aC PQ G Fj [uv s,.ls 1 (bl b)] [] λr T=>r=.ag [.v (fu (MO s b)),uv (aAy s b)]∧T=[]:=by
 refine aF NO (by decide) ?_;have hpos:0<mH:=by decide
 have q1:mH=2305843009213693950:=rfl;simp only [go_sem];refine aB (aA _) rfl (c_m b hb hl) rfl ?_;simp only [go_sem];refine bS (aA _) rfl rfl (OG _ Pz [s,(Px b).val] (by rfl) (by rfl) (yE (by decide)) (by decide) (λn hn=>?_) (by simp)) ?_
 ·simp only [gK,pQ,or_false] at hn;rcases hn with rfl | rfl
  ·exact hs
  ·exact BO _
 rintro x T' ⟨rfl,rfl⟩;refine ⟨by simp only [eY],by simp,?_⟩;have ho:CQ s b<2305843009213693950:=by have:=Pq Pz [s,(Px b).val];unfold CQ;omega
 rw [show NQ Pz [s,(Px b).val]=CQ s b from rfl];simp only [go_sem];refine aB (R:=.v (fu (MO s b))) (aA _) rfl (R2 (37:Fq) (CQ s b) (by omega)) rfl ?_;simp only [go_sem];refine aB (aA _) rfl (ES s hs) rfl ?_;simp only [go_sem];refine aB (aA _) rfl (c_e (MO s b).val ((37:Fq)^s).val b (BO _) (BO _) hb hl) rfl ?_;simp only [go_sem];refine aB (aA _) rfl (aCI (Ja (MO s b).val ((37:Fq)^s).val b).val s (BO _) hs) rfl ?_;obtain ⟨x,hx⟩:∃ x,x=MN (Ja (MO s b).val ((37:Fq)^s).val b).val s:=⟨_,rfl⟩
 rw [←hx];have hxl:x<mH:=by rw [hx];exact Aj _ hpos
 have aa:aZ .add (.int .u64 (CQ s b:Int)) (.int .u64 (x:Int))=some (.int .u64 ((CQ s b+x:Nat):Int)):=cW (CQ s b) x (by omega);have ra:aZ .rem (.int .u64 ((CQ s b+x:Nat):Int)) (.int .u64 (mH:Nat))=some (.int .u64 (((CQ s b+x)%mH:Nat):Int)):=jW (CQ s b+x) mH (Qt hpos);simp only [go_sem,↓aa];refine aB (aA _) rfl wP rfl ?_;simp only [go_sem,↓ra];rw [hx];rfl
def wQ (S:ByteArray) (lab:List Nat) (d:Nat) (hS:jH S=bl lab) (hs:S.size=lab.length) (hb:wC lab) (hl:lab.length≤1000) (hd:d≤9223372036854775807):aC PQ G pC [.v (.string S),iv d] [] λr T=>r=uv (Jb lab d)∧T=[]:=by
 refine aF JE (by decide) ?_;have w1:IntKind.u64.wrap (d:Int)=(d:Int):=bG d (by omega);simp only [go_sem,w1];refine bS (aA _) rfl rfl (OG S lab [d] hS hs hb hl (λn hn=>?_) (by simp)) ?_
 ·simp only [gZ] at hn;subst hn;omega
 rintro x T' ⟨rfl,rfl⟩;refine ⟨by simp only [eY],by simp,?_⟩;simp only [go_sem];rfl
def Du (o:OpM) (ho:o.ok) (hd:0≤o.By):aC PQ G pA [.ag o.A] [] λr T=>r=.ag (pK o).A∧T=[]:=by
 refine aF JC (by decide) ?_;have hb:=o.B_len ho;have h1:=(ho.ints o.By (by simp)).2;obtain ⟨d,hdd⟩:∃ d:Nat,o.By=(d:Int):=⟨o.By.toNat,by omega⟩
 have hdn:o.By.toNat=d:=by rw [hdd];rfl
 simp only [go_sem];refine aB (R:=uv (Jb Iu o.By.toNat)) (aA _) rfl (by rw [hdn,hdd];exact wQ _ Iu d (by rfl) (by rfl) (yE (by decide)) (by decide) (by omega)) rfl ?_;simp only [go_sem];refine aS (aA _) rfl (IF o ho) ?_;simp only [go_sem];refine bS (aA _) rfl rfl (aF0 (Jb Iu o.By.toNat) o.B (OJ _ _) (o.B_ok ho) (by omega)) ?_;rintro x T' ⟨rfl,rfl⟩;refine ⟨by simp only [eY,qA];trivial,by simp,?_⟩;simp only [go_sem,OpM.A_def,pK]
end
end
end Hud
