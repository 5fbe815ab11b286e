import Derived.Test.YtdichbeaekjibaaGreatDoorLib14
set_option linter.all false
namespace Hud
open Go
section
def addM (g:GM) (o:OpM):GM×Int :=
 if (cX g o).1≠0 then (g,(cX g o).1)
 else (⟨g.Cards,g.L++[o],g.I++[Ao o],g.Up++[(cX g o).2],(g.In.map λr=>r++[false])++[lE g (cX g o).2++[false]]⟩,0)
def RD (g:GM) (o:OpM):(cX g o).2=[]∨(cX g o).2=o.Past.map λx=>(aM g.I x).toNat:=by
 grind [cX,Bl,xF,AB,MO]
def Nf (g:GM) (o:OpM):(cX g o).2.length≤o.Past.length:=by
 rcases RD g o with h | h<;>simp [h]
section
variable {G:Nat→Option (List AV)}
set_option maxHeartbeats 4000000
def aBc (g:GM) (o:OpM) (hg:g.ok) (ho:o.ok):aC PQ G xZ [.ag g.A,.ag o.A] [] λr T=>r=.tup [iv (cX g o).1,Ow (cX g o).2]∧T=[]:=by
 refine (ZP g o hg ho).fin [0] ?_;rintro r T' ⟨rfl,rfl⟩;simp only [go_sem,jJ]
def aDp (g:GM) (o:OpM) (hg:g.ok) (ho:o.ok):aC PQ G jQ [.ag g.A,.ag o.A] [] λr T=>(r=.tup [.ag g.A,iv (addM g o).2]∧T=[]∧addM g o=(g,(addM g o).2)) ∨
  (r=.tup [.ag [.ls 5 (g.Cards.map CardM.A),.own 0,.own 1,.own 2,.own 3],iv 0]∧T=[some (.arr 27 ((addM g o).1.L.map OpM.A)),some (.arr 3 ((addM g o).1.I.map Id.A)),some (.arr 1 ((addM g o).1.Up.map λl=>[Ow l])),some (.arr 1 ((addM g o).1.In.map λl=>[Qt l]))]∧(addM g o).1.Cards=g.Cards∧(addM g o).2=0):=by
 refine aD OQ (by decide) ?_;have hn:=hg.n;have hwl:=Nf g o;have hpl:=ho.past.1;simp only [go_sem];refine aB (aA _) rfl (aBc g o hg ho) rfl ?_;simp only [go_sem];refine aK (λh=>?_) (λh=>?_)<;>simp only [bne_iff_ne,ne_eq,bne_eq_false_iff_eq] at h
 ·have ha:addM g o=(g,(cX g o).1):=by rw [addM,if_pos h]
  simp only [go_sem];simp_all
 have ha:addM g o=(⟨g.Cards,g.L++[o],g.I++[Ao o],g.Up++[(cX g o).2],(g.In.map λr=>r++[false])++[lE g (cX g o).2++[false]]⟩,0):=by grind [addM]
 rw [ha];generalize (cX g o).2=up at *
 simp only [go_sem];refine aQ (aA _) rfl (TB g up hg (by omega)) ?_;have hpl2:=Ag g up;generalize lE g up=p at *
 have m1:g.L.length*328≤140737488355328:=by omega
 have m2:g.L.length≤maxLen:=by unfold maxLen;omega
 have m3:(g.L.length+1)*328≤140737488355328:=B7 (Ny 328 (show g.L.length+1≤1001 by omega)) (by decide);have m4:g.L.length+1≤maxLen:=by unfold maxLen;omega
 have m5:g.L.length*24≤140737488355328:=by omega
 have m6:(g.L.length+1)*24≤140737488355328:=by omega
 have m7:(g.L.length+1)*1≤140737488355328:=by omega
 have m8:g.L.length*1≤140737488355328:=by omega
 simp only [go_sem,aL,hg.i,m1,m2,m3,m4,m5];refine and_self_iff.2 ?_;refine aB (aA _) rfl (Q9 o ho) rfl ?_;simp only [go_sem,aL,hg.i,hg.un,m2,m4,m5,m6];refine aJ g.In.length (λi=>⟨0,[(2,.ptr 0 0),(4,.ptr 1 0),(8,.own 2),(9,.ptr 3 0),(10,iv i)],[some (.box g.A),some (.box [.v (.slice none 0 0),.v (.slice none 0 0),.v (.slice none 0 0),.v (.slice none 0 0),.v (.slice none 0 0)]),some (.arr 1 (Wx p)),some (.box [.ls 5 (g.Cards.map CardM.A),.own 4,.own 5,.own 6,.own 7]),some (.arr 27 (g.L.map OpM.A++[o.A])),some (.arr 3 (g.I.map Id.A++[(Ao o).A])),some (.arr 1 ((g.Up.map λl=>[Ow l])++[[Ow up]])),some (.arr 1 ((g.In.take i).map λr=>[Qt (r++[false])]))]⟩) (λ_=>True) ?_ trivial ?_ ?_
 ·simp only [go_sem]
 ·intro i hi _;have g0:(g.In.map λl=>[Qt l])[i]?=some [Qt g.In[i]]:=aI _ g.In i hi;have hrl:=hg.ins _ (iN hi);have ws:=aF (show i<9223372036854775807 by have:=hg.inn;omega);have hil:i<g.L.length:=by have:=hg.inn;omega
  have hmin:min i g.L.length=i:=by omega
  rw [oV hi,jA];generalize g.In[i]=row at *
  simp only [go_sem,aL,kM,hmin,bG hil,hg.inn,g0,hrl,ws,m2,m4,m7,m8,qT,show (i+1)*24≤140737488355328 by omega,show i+1≤maxLen by unfold maxLen;omega];simp
 intro _;rw [lP];simp only [go_sem,aL,hg.inn,aX (cN _),hpl2,m4,m6,m7];simp
def O9 (g:GM) (o:OpM) (hg:g.ok) (ho:o.ok):aC PQ G jQ [.ag g.A,.ag o.A] [] λr T=>r=.tup [.ag (addM g o).1.A,iv (addM g o).2]∧T=[]:=by
 refine (aDp g o hg ho).fin [0,1,2,3] ?_;rintro r T' (⟨rfl,rfl,h⟩ | ⟨rfl,rfl,h1,h2⟩)
 ·simp only [go_sem,jJ,List.getElem?_nil];rw [h]
 ·simp only [go_sem,jJ,GM.A_def,h1,h2]
def aBd {g:GM} {o:OpM} (hg:g.ok) (ho:o.ok) (hn:g.L.length<1000) (hid:(Ao o).ok):(addM g o).1.ok:=by
 unfold addM;split
 ·exact hg
 ·refine ⟨by simp;omega,hg.cn,hg.cs,?_,by simp [hg.i],?_,by simp [hg.un],?_,by simp [hg.inn],?_⟩
  ·intro x hx;rcases eM.1 hx with h | h
   ·exact hg.ops x h
   ·simp_all
  ·intro x hx;rcases eM.1 hx with h | h
   ·exact hg.is x h
   ·simp_all
  ·intro u hu;simp only [gK,wJ,jJ];rcases eM.1 hu with h | h
   ·exact ⟨(hg.up u h).1,λk hk=>by have:=(hg.up u h).2 k hk;omega⟩
   ·rw [iU.1 h];refine ⟨B7 (Nf g o) ho.past.1,λk hk=>?_⟩;rcases RD g o with e | e
    ·simp_all
    ·rw [e] at hk;obtain ⟨x,_,rfl⟩:=cZ.1 hk;have:=qR g.I x;have:=hg.i;omega
  ·intro r hr;simp only [gK,wJ,jJ];rcases eM.1 hr with h | h
   ·obtain ⟨r',h1,rfl⟩:=cZ.1 h;simp [hg.ins r' h1]
   ·grind [Ag]
def TC {o:OpM} (ho:o.ok):(Ao o).ok:=by
 refine ⟨ho.ints o.By (by simp),ho.ints o.Seq (by simp),?_,?_⟩
 ·grind [Ao]
 ·simp only [Ao];have:=Af (Q0 lOp o.B);omega
end
end
section
abbrev lC (W:List Nat):List AV:=W.map λw=>uv w
def Hy (W V:List Nat):List Nat:=List.zipWith (λa b=>a ||| b) W V
def MT (W:List Nat) (n:Nat):List Nat:=W.set (n/64) (W.getD (n/64) 0 ||| 2^(n%64))
def mT (W:List Nat) (n:Nat):Bool:=(W.getD (n/64) 0).testBit (n%64)
def FU (W:List Nat):Prop:=W.length=4∧∀ w∈W,w<18446744073709551616
def RE (a b:Nat) (ha:a<18446744073709551616) (hb:b<18446744073709551616):bM .or (.int .u64 (a:Int)) (.int .u64 (b:Int))=some (.int .u64 ((a ||| b:Nat):Int)):=by
 have hc:a ||| b<18446744073709551616:=Ph (n:=64) ha hb;have h1:(BitVec.ofInt IntKind.u64.bits (a:Int) ||| BitVec.ofInt IntKind.u64.bits (b:Int)).toNat=a ||| b:=by
  have ea:(BitVec.ofInt 64 (a:Int)).toNat=a:=by simp_all
  have eb:(BitVec.ofInt 64 (b:Int)).toNat=b:=by simp_all
  show (BitVec.ofInt 64 (a:Int) ||| BitVec.ofInt 64 (b:Int)).toNat=a ||| b;grind
 simp only [bM,if_true,h1];rw [bT _ (by omega)]
def HV (a b:Nat) (ha:a<18446744073709551616) (hb:b<18446744073709551616):bM .and (.int .u64 (a:Int)) (.int .u64 (b:Int))=some (.int .u64 ((a &&& b:Nat):Int)):=by
 have hc:a &&& b≤a:=Xr;have h1:(BitVec.ofInt IntKind.u64.bits (a:Int) &&& BitVec.ofInt IntKind.u64.bits (b:Int)).toNat=a &&& b:=by
  have ea:(BitVec.ofInt 64 (a:Int)).toNat=a:=by simp_all
  have eb:(BitVec.ofInt 64 (b:Int)).toNat=b:=by simp_all
  show (BitVec.ofInt 64 (a:Int) &&& BitVec.ofInt 64 (b:Int)).toNat=a &&& b;grind
 simp only [bM,if_true,h1];rw [bT _ (by omega)]
def HW (x m:Nat) (h:m≠0) (hx:x≤9223372036854775807):bM .quo (.int .i64 (x:Int)) (.int .i64 (m:Int))=some (.int .i64 ((x/m:Nat):Int)):=by
 have h0:¬((m:Int)=0):=by omega
 have e:(x:Int).tdiv (m:Int)=((x/m:Nat):Int):=rfl;have:x/m≤x:=Ml x m;have h3:((x/m:Nat):Int)≤9223372036854775807:=by omega
 have h4:(-9223372036854775808:Int)≤((x/m:Nat):Int):=by grind
 simp only [bM,if_true,h0,if_false,e];rw [bF h4 h3]
def HX (x m:Nat) (h:m≠0):bM .rem (.int .i64 (x:Int)) (.int .i64 (m:Int))=some (.int .i64 ((x%m:Nat):Int)):=by
 grind [bM]
def TD (k:Nat) (h:k<64):bM .shl (.int .u64 1) (.int .i64 (k:Int))=some (.int .u64 ((2^k:Nat):Int)):=by
 have h0:¬((k:Int)<0):=by omega
 have hm:min k 64=k:=by omega
 have h2:(2:Nat)^k<18446744073709551616:=AH (Xh (by decide) h) (by decide);have e:(1:Int)*2^(min (k:Int).toNat IntKind.u64.bits)=((2^k:Nat):Int):=by
  rw [Lp,show IntKind.u64.bits=64 from rfl,hm,Int.one_mul];exact (Int.natCast_pow 2 k).symm
 simp only [bM,h0,if_false,e];rw [bT _ (by omega)]
def Ng (x k:Nat) (h:k<64) (hx:x<18446744073709551616):bM .shr (.int .u64 (x:Int)) (.int .i64 (k:Int))=some (.int .u64 ((x/2^k:Nat):Int)):=by
 have h0:¬((k:Int)<0):=by omega
 have hm:min k 64=k:=by omega
 have e:(x:Int).fdiv (2^(min (k:Int).toNat IntKind.u64.bits))=((x/2^k:Nat):Int):=by
  rw [Lp,show IntKind.u64.bits=64 from rfl,hm,show ((2:Int)^k)=((2^k:Nat):Int) from (Int.natCast_pow 2 k).symm,Int.fdiv_eq_ediv_of_nonneg _ (Xn _)];rfl
 grind [bM]
def ZQ (W V:List Nat) (hl:V.length=W.length) (i:Nat) (h:i<W.length):(Hy W V).take (i+1)++W.drop (i+1)=((Hy W V).take i++W.drop i).set i (W.getD i 0 ||| V.getD i 0):=by
 have hol:(Hy W V).length=W.length:=by grind [Hy,List.length_zipWith]
 have hlt:((Hy W V).take i).length=i:=by simp_all;omega
 have e:(Hy W V)[i]'(by omega)=W.getD i 0 ||| V.getD i 0:=by
  grind [Hy]
 rw [oV (by omega),jI,e,VX h,Xf _ _ (by omega),hlt,Nat.sub_self];rfl
def PA {W V:List Nat} (hW:FU W) (hV:FU V):FU (Hy W V):=by
 refine ⟨by unfold Hy;rw [aBK,hW.1,hV.1];rfl,λw hw=>?_⟩;unfold Hy at hw;obtain ⟨i,hi,rfl⟩:=AG hw;rw [aEd];exact Ph (n:=64) (hW.2 _ (iN _)) (hV.2 _ (iN _))
def vZ {W:List Nat} (hW:FU W) (i:Nat):W.getD i 0<18446744073709551616:=by
 rw [uW];rcases gM i W.length with h | h
 ·rw [nQ h];exact hW.2 _ (iN h)
 ·simp_all
def U9 {W:List Nat} (hW:FU W) (n:Nat):FU (MT W n):=by
 refine ⟨by unfold MT;rw [gG,hW.1],λw hw=>?_⟩;unfold MT at hw;rcases aBV hw with h | h
 ·exact hW.2 w h
 ·rw [h];exact Ph (n:=64) (vZ hW _) (Xh (by decide) (vF _ (by decide)))
def Hz (x k:Nat):((((x/2^k &&& 1:Nat):Int))==1)=x.testBit k:=by
 grind
section
variable {G:Nat→Option (List AV)}
set_option maxHeartbeats 4000000
def Bn (W:List Nat) (i:Nat) (h:i<W.length):(lC W)[i]?=some (uv (W.getD i 0)):=by
 simp_all
def Wy (W:List Nat) (n:Nat) (hW:FU W) (hn:n<256):aC PQ G uL [.ptr 0 0,iv n] [some (.box (lC W))] λr T=>T=[some (.box (lC (MT W n)))]:=by
 refine aD E7 (by decide) ?_;have q1:bM .quo (.int .i64 (n:Int)) (.int .i64 64)=some (.int .i64 ((n/64:Nat):Int)):=HW n 64 (by decide) (by omega);have q2:bM .rem (.int .i64 (n:Int)) (.int .i64 64)=some (.int .i64 ((n%64:Nat):Int)):=HX n 64 (by decide);have hm:n%64<64:=vF _ (by decide);have hd:n/64<4:=by omega
 have s1:=TD (n%64) hm;have h2:(2:Nat)^(n%64)<18446744073709551616:=AH (Xh (by decide) hm) (by decide);have o1:=RE (W.getD (n/64) 0) (2^(n%64)) (vZ hW _) h2;have g0:=Bn W (n/64) (by rw [hW.1];exact hd);have hl:=hW.1;have p1:(0:Int)≤((n/64:Nat):Int):=by omega
 have p2:((n/64:Nat):Int)<4:=by omega
 have es:(lC W).take (n/64)++[uv (W.getD (n/64) 0 ||| 2^(n%64))]++(lC W).drop (n/64+1)=lC (MT W n):=by
  show _=(W.set (n/64) (W.getD (n/64) 0 ||| 2^(n%64))).map λw=>uv w;grind [List.map_set,List.set_eq_take_append_cons_drop,List.append_assoc]
 generalize n/64=a at *
 generalize n%64=b at *
 simp only [go_sem,↓q1,↓q2,↓s1,aL,hl,p1,p2,show a≤3 by omega,g0,↓o1,FX,qT,es]
def aBe {α:Type} (pre m post:List α) (i:Nat) (x:α) (h:i<m.length):(pre++(m++post)).take (pre.length+i)++[x]++(pre++(m++post)).drop (pre.length+i+1)=pre++(m.set i x++post):=by
 rw [aBQ,show pre.length+i+1=pre.length+(i+1) from rfl,Tq,XW (by omega),aBP (by omega),aBJ,if_pos h];simp
def PB {α:Type} (pre m post:List α) (i:Nat) (h:i<m.length):(pre++(m++post))[pre.length+i]?=m[i]?:=by
 grind
def H2 (pre post:List AV) (p:Nat) (hp:pre.length=p) (W V:List Nat) (hW:FU W) (hV:FU V) (h1:fU pre=[]) (h2:fU post=[]):aC PQ G kO [.ptr 0 p,.ag (lC V)] [some (.box (pre++(lC W++post)))] λr T=>T=[some (.box (pre++(lC (Hy W V)++post)))]:=by
 refine aD D7 (by decide) ?_;have hl:=hW.1;have hvl:=hV.1;have hone:(lC V).all eO=true:=by simp [lC,eO]
 have hids:∀ X:List Nat,fU (lC X)=[]:=λX=>NA _ X;have hrn:∀ (L:List Nat) (X:List Nat),uF L (pre++(lC X++post))=pre++(lC X++post):=λL X=>uJ (by simp only [F0,h1,h2,hids,nR]);have hid2:∀ X:List Nat,fU (pre++(lC X++post))=[]:=λX=>by simp only [F0,h1,h2,hids,nR]
 have hrV:∀ (L:List Nat),uF L (lC V)=lC V:=λL=>uJ (hids V);have hol:(Hy W V).length=4:=by grind [Hy,List.length_zipWith]
 simp only [go_sem,hone];refine aJ 4 (λi=>⟨1,[(0,.ptr 0 p),(3,.ptr 1 0),(5,iv i)],[some (.box (pre++(lC ((Hy W V).take i++W.drop i)++post))),some (.box (lC V))]⟩) (λ_=>True) ?_ trivial ?_ ?_
 ·simp only [go_sem,↓hid2,↓hids,↓hrn,↓hrV,rY]
 ·intro i hi _;have ws:=aF (show i<9223372036854775807 by omega);have hX:((Hy W V).take i++W.drop i).length=4:=by simp_all;omega
  have gX:((Hy W V).take i++W.drop i).getD i 0=W.getD i 0:=by
   grind
  rw [ZQ W V (by omega) i (by omega)];have o1:=RE (W.getD i 0) (V.getD i 0) (vZ hW _) (vZ hV _);have gv:=Bn V i (by omega);generalize (Hy W V).take i++W.drop i=X at *
  have gx:=Bn X i (by omega);rw [gX] at gx;have g0:=PB pre (lC X) post i (by rw [aL];omega);rw [gx,hp] at g0;have es:=aBe pre (lC X) post i (uv (W.getD i 0 ||| V.getD i 0)) (by rw [aL];omega);rw [hp] at es;have e2:(lC X).set i (uv (W.getD i 0 ||| V.getD i 0))=lC (X.set i (W.getD i 0 ||| V.getD i 0)):=by
   simp
  rw [e2] at es;have d1:decide ((i:Int)<4)=true:=decide_eq_true (by omega);have i1:(i:Int)<4:=by omega
  have hlen:p+i+1≤pre.length+(X.length+post.length):=by omega
  simp only [go_sem,i1,FX,qT,g0,gv,↓o1,hlen,es,ws,↓hid2,↓hids,↓hrn,↓hrV]
 ·intro _;rw [xR (by omega),Ln (by omega),nR];simp only [go_sem,↓hid2,↓hrn]
def TF (W V:List Nat) (hW:FU W) (hV:FU V):aC PQ G kO [.ptr 0 0,.ag (lC V)] [some (.box (lC W))] λr T=>T=[some (.box (lC (Hy W V)))]:=by
 have:=H2 (G:=G) [] [] 0 rfl W V hW hV rfl rfl;simpa using this
def Wz (pre post:List AV) (p:Nat) (hp:pre.length=p) (W:List Nat) (n:Nat) (hW:FU W) (hn:n<256) (h1:fU pre=[]) (h2:fU post=[]):aC PQ G jR [.ptr 0 p,iv n] [some (.box (pre++(lC W++post)))] λr T=>r=.v (.bool (mT W n))∧T=[some (.box (pre++(lC W++post)))]:=by
 refine aD qC (by decide) ?_;unfold pO;have q1:bM .quo (.int .i64 (n:Int)) (.int .i64 64)=some (.int .i64 ((n/64:Nat):Int)):=HW n 64 (by decide) (by omega);have q2:bM .rem (.int .i64 (n:Int)) (.int .i64 64)=some (.int .i64 ((n%64:Nat):Int)):=HX n 64 (by decide);have hm:n%64<64:=vF _ (by decide);have hd:n/64<4:=by omega
 have hx:=vZ hW (n/64);have s1:=Ng (W.getD (n/64) 0) (n%64) hm hx;have a1:bM .and (.int .u64 ((W.getD (n/64) 0/2^(n%64):Nat):Int)) (.int .u64 1)=some (.int .u64 ((W.getD (n/64) 0/2^(n%64) &&& 1:Nat):Int)):=HV _ 1 (Mg (Ml _ _) hx) (by decide);have t1:=Hz (W.getD (n/64) 0) (n%64);have g0:=PB pre (lC W) post (n/64) (by rw [aL,hW.1];exact hd);rw [Bn W (n/64) (by rw [hW.1];exact hd),hp] at g0;have p1:(0:Int)≤((n/64:Nat):Int):=by omega
 have p2:((n/64:Nat):Int)<4:=by omega
 have hids:∀ X:List Nat,fU (lC X)=[]:=λX=>NA _ X;have hrn:∀ (L:List Nat) (X:List Nat),uF L (pre++(lC X++post))=pre++(lC X++post):=λL X=>uJ (by simp only [F0,h1,h2,hids,nR]);have hid2:∀ X:List Nat,fU (pre++(lC X++post))=[]:=λX=>by simp only [F0,h1,h2,hids,nR]
 have hr:mT W n=(W.getD (n/64) 0).testBit (n%64):=rfl;rw [hr,←t1];clear t1 hr;generalize n/64=a at *
 generalize n%64=b at *
 simp only [go_sem,↓q1,↓q2,↓s1,↓a1,p1,p2,g0,FX,qT,↓hid2,↓hrn]
end
end
end Hud
section
namespace Hud
open Go Go.Proofs Go.Sort Go.Shelf
section
variable {P:Program} {α:Type} [Inhabited α] {enc:α→List Value} {k:Nat}
end
end Hud
end
namespace Hud
open Go
section
section
variable {G:Nat→Option (List AV)}
set_option maxHeartbeats 2000000
def Id.A_zero:[AV.v (.int .i64 0),AV.v (.int .i64 0),AV.v (.int .u64 0)]=Id.A ⟨0,0,0⟩:=rfl
def VA (a:List Id) (ha:a.length≤1000000):aC PQ G aR [ids a] [] λr T=>r=.own 0∧T=[some (.arr 3 (a.map Id.A))]:=by
 refine aD gR (by decide) ?_;unfold eD
 cases a with
 | nil=>simp only [go_sem,ids,show 0≤maxLen by decide]
 | cons x a =>
  have e1:(a.length+1)*24≤140737488355328:=by simp at ha;omega
  have e2:a.length+1≤maxLen:=by simp at ha;unfold maxLen;omega
  simp only [go_sem,ids,aL,e1,e2]
end
end
section
section
variable {G:Nat→Option (List AV)}
set_option maxHeartbeats 2000000
def xG (es:List (List AV)) (h:es.length≤1000000):aC PQ G bU [.ls 5 es] [] λr T=>r=.own 0∧T=[some (.arr 5 es)]:=by
 refine aD iG (by decide) ?_;unfold fC
 cases es with
 | nil=>simp only [go_sem,show 0≤maxLen by decide]
 | cons x a =>
  have e1:(a.length+1)*40≤140737488355328:=by simp at h;omega
  have e2:a.length+1≤maxLen:=by simp at h;unfold maxLen;omega
  simp only [go_sem,e1,e2]
def FM (es:List (List AV)) (h:es.length≤1000000):aC PQ G dT [.ls 1 es] [] λr T=>r=.own 0∧T=[some (.arr 1 es)]:=by
 refine aD uP (by decide) ?_
 cases es with
 | nil=>simp only [go_sem,show 0≤maxLen by decide]
 | cons x a =>
  have e1:(a.length+1)*1≤140737488355328:=by simp at h;omega
  have e2:a.length+1≤maxLen:=by simp at h;unfold maxLen;omega
  simp only [go_sem,e1,e2]
def xH (es:List (List AV)) (h:es.length≤1000000):aC PQ G dT [.ls 1 es] [] λr T=>r=.ls 1 es∧T=[]:=by
 refine (FM es h).fin [0] ?_;rintro r T' ⟨rfl,rfl⟩;simp only [go_sem,jJ]
def HY (es:List (List AV)) (h:es.length≤1000000):aC PQ G dF [.ls 1 es] [] λr T=>r=.own 0∧T=[some (.arr 1 es)]:=by
 refine aD wZ (by decide) ?_
 cases es with
 | nil=>simp only [go_sem,show 0≤maxLen by decide]
 | cons x a =>
  have e1:(a.length+1)*8≤140737488355328:=by simp at h;omega
  have e2:a.length+1≤maxLen:=by simp at h;unfold maxLen;omega
  simp only [go_sem,e1,e2]
def HZ (es:List (List AV)) (h:es.length≤1000000):aC PQ G dF [.ls 1 es] [] λr T=>r=.ls 1 es∧T=[]:=by
 refine (HY es h).fin [0] ?_;rintro r T' ⟨rfl,rfl⟩;simp only [go_sem,jJ]
def AC (es:List (List AV)) (h:es.length≤1000000):aC PQ G cE [.ls 4 es] [] λr T=>r=.own 0∧T=[some (.arr 4 es)]:=by
 refine aD qD (by decide) ?_
 cases es with
 | nil=>simp only [go_sem,show 0≤maxLen by decide]
 | cons x a =>
  have e1:(a.length+1)*32≤140737488355328:=by simp at h;omega
  have e2:a.length+1≤maxLen:=by simp at h;unfold maxLen;omega
  simp only [go_sem,e1,e2]
def pF (es:List (List AV)) (h:es.length≤1000000):aC PQ G cE [.ls 4 es] [] λr T=>r=.ls 4 es∧T=[]:=by
 refine (AC es h).fin [0] ?_;rintro r T' ⟨rfl,rfl⟩;simp only [go_sem,jJ]
def Bo (es:List (List AV)) (h:es.length≤1000000):aC PQ G dX [.ls 1 es] [] λr T=>r=.own 0∧T=[some (.arr 1 es)]:=by
 refine aD rL (by decide) ?_
 cases es with
 | nil=>simp only [go_sem,show 0≤maxLen by decide]
 | cons x a =>
  have e1:(a.length+1)*8≤140737488355328:=by simp at h;omega
  have e2:a.length+1≤maxLen:=by simp at h;unfold maxLen;omega
  simp only [go_sem,e1,e2]
def Bp (es:List (List AV)) (h:es.length≤1000000):aC PQ G dX [.ls 1 es] [] λr T=>r=.ls 1 es∧T=[]:=by
 refine (Bo es h).fin [0] ?_;rintro r T' ⟨rfl,rfl⟩;simp only [go_sem,jJ]
def xI (es:List (List AV)) (h:es.length≤1000000):aC PQ G eZ [.ls 2 es] [] λr T=>r=.own 0∧T=[some (.arr 2 es)]:=by
 refine aD oM (by decide) ?_
 cases es with
 | nil=>simp only [go_sem,show 0≤maxLen by decide]
 | cons x a =>
  have e1:(a.length+1)*32≤140737488355328:=by simp at h;omega
  have e2:a.length+1≤maxLen:=by simp at h;unfold maxLen;omega
  simp only [go_sem,e1,e2]
def sR (es:List (List AV)) (h:es.length≤1000000):aC PQ G dP [.ls 4 es] [] λr T=>r=.own 0∧T=[some (.arr 4 es)]:=by
 refine aD mI (by decide) ?_
 cases es with
 | nil=>simp only [go_sem,show 0≤maxLen by decide]
 | cons x a =>
  have e1:(a.length+1)*48≤140737488355328:=by simp at h;omega
  have e2:a.length+1≤maxLen:=by simp at h;unfold maxLen;omega
  simp only [go_sem,e1,e2]
def ZR (a:List Id) (ha:a.length≤1000000):aC PQ G aR [ids a] [] λr T=>r=ids a∧T=[]:=by
 refine (VA a ha).fin [0] ?_;rintro r T' ⟨rfl,rfl⟩;simp only [go_sem,jJ]
end
end
section
def AD (o:OpM):aH:=[some (.box [iv o.By,iv o.Seq,iv o.Kind,iv o.At,ids o.Past,iv o.Device,iv o.Old,iv o.Member,iv o.Role,.own 2,
 .v (.int .i64 o.Epoch.a),.v (.int .i64 o.Epoch.b),.v (.int .u64 o.Epoch.c),iv o.N,.ls 1 (bl o.Body),.ls 1 (ul o.Refs),.v (.int .i64 o.Of.a),.v (.int .i64 o.Of.b),.v (.int .u64 o.Of.c),uK o.Guards,
 iv o.Need,iv o.Wait,De o.Boxes,uv o.Pub,.own 3,uv o.SR,uv o.SS]),some (.box [AV.v (Value.int IntKind.i64 0),AV.v (Value.int IntKind.i64 0),AV.v (Value.int IntKind.i64 0),
        AV.v (Value.int IntKind.i64 0),AV.v (Value.slice none 0 0),AV.v (Value.int IntKind.i64 0),
        AV.v (Value.int IntKind.i64 0),AV.v (Value.int IntKind.i64 0),AV.v (Value.int IntKind.i64 0),
        AV.v (Value.slice none 0 0),AV.v (Value.int IntKind.i64 0),AV.v (Value.int IntKind.i64 0),
        AV.v (Value.int IntKind.u64 0),AV.v (Value.int IntKind.i64 0),AV.v (Value.slice none 0 0),
        AV.v (Value.slice none 0 0),AV.v (Value.int IntKind.i64 0),AV.v (Value.int IntKind.i64 0),
        AV.v (Value.int IntKind.u64 0),AV.v (Value.slice none 0 0),AV.v (Value.int IntKind.i64 0),
        AV.v (Value.int IntKind.i64 0),AV.v (Value.slice none 0 0),AV.v (Value.int IntKind.u64 0),
        AV.v (Value.slice none 0 0),AV.v (Value.int IntKind.u64 0),AV.v (Value.int IntKind.u64 0)]),some (.arr 2 (o.Path.map NodeM.A)),some (.arr 4 (o.Hist.map SealM.A))]
def RF {α β:Type} (f:α→β) (l:List α) (i:Nat) (h:i<l.length):(l.map f).set i (f l[i])=l.map f:=by
 rw [←Xq,List.set_getElem_self]
section
variable {G:Nat→Option (List AV)}
set_option maxHeartbeats 4000000
def ZS (o:OpM) (ho:o.ok):aC PQ G iQ [.ag o.A] [] λr T=>r=.ag [iv o.By,iv o.Seq,iv o.Kind,iv o.At,ids o.Past,iv o.Device,iv o.Old,iv o.Member,iv o.Role,.own 0,
 .v (.int .i64 o.Epoch.a),.v (.int .i64 o.Epoch.b),.v (.int .u64 o.Epoch.c),iv o.N,.ls 1 (bl o.Body),.ls 1 (ul o.Refs),.v (.int .i64 o.Of.a),.v (.int .i64 o.Of.b),.v (.int .u64 o.Of.c),uK o.Guards,
 iv o.Need,iv o.Wait,De o.Boxes,uv o.Pub,.own 1,uv o.SR,uv o.SS]∧T=[some (.arr 2 (o.Path.map NodeM.A)),some (.arr 4 (o.Hist.map SealM.A))]:=by
 refine aD HB (by decide) ?_
 have y1:=ho.past.1
 have y2:=ho.path.1
 have y3:=ho.refs.1
 have y4:=ho.guards.1
 have y5:=ho.boxes.1
 have y6:=ho.hist.1
 have y7:=ho.body.1
 simp only [go_sem,OpM.A_def]
 refine aB (aA _) rfl (ZR o.Past (by omega)) rfl ?_
 simp only [go_sem]
 refine aB (aA _) rfl (xH (bl o.Body) (by rw [aL];omega)) rfl ?_
 simp only [go_sem]
 refine aB (aA _) rfl (Bp (ul o.Refs) (by rw [aL];omega)) rfl ?_
 simp only [go_sem]
 refine aB (aA _) rfl (HZ (o.Guards.map λn=>[iv n]) (by rw [aL];omega)) rfl ?_
 simp only [go_sem]
 refine aB (aA _) rfl (pF (o.Boxes.map BoxM.A) (by rw [aL];omega)) rfl ?_
 simp only [go_sem]
 refine aQ (aA _) rfl (xI (o.Path.map NodeM.A) (by rw [aL];omega)) ?_
 simp only [go_sem]
 refine aQ (aA _) rfl (sR (o.Hist.map SealM.A) (by rw [aL];omega)) ?_
 simp only [go_sem,aL]
 refine aJ o.Path.length (λi=>⟨0,[(1,.ptr 0 0),(2,.ptr 1 0),(35,iv o.Path.length),(36,iv i)],AD o⟩) (λ_=>True) ?_ trivial ?_ ?_
 ·simp only [go_sem,AD]
 ·intro i hi _
  have ws:=aF (show i<9223372036854775807 by omega)
  have g0:(o.Path.map NodeM.A)[i]?=some [uv o.Path[i].Pub,De o.Path[i].Boxes]:=aI _ o.Path i hi
  have es:(o.Path.map NodeM.A).set i [uv o.Path[i].Pub,De o.Path[i].Boxes]=o.Path.map NodeM.A:=RF NodeM.A o.Path i hi
  have hb:=(ho.path.2 _ (iN hi)).2.1
  generalize o.Path[i]=x at *
  simp only [go_sem,AD,aL,bG hi,hi,g0]
  refine aB (aA _) rfl (pF (x.Boxes.map BoxM.A) (by rw [aL];omega)) rfl ?_
  simp only [go_sem,AD,aL,hi,g0,es,ws]
 intro _
 simp only [go_sem,AD,aL,aX (cN _)]
 refine aJ o.Hist.length (λi=>⟨0,[(1,.ptr 0 0),(2,.ptr 1 0),(54,iv o.Hist.length),(55,iv i)],AD o⟩) (λ_=>True) ?_ trivial ?_ ?_
 ·simp only [go_sem,AD]
 ·intro i hi _
  have ws:=aF (show i<9223372036854775807 by omega)
  have g0:(o.Hist.map SealM.A)[i]?=some [.v (.int .i64 o.Hist[i].Of.a),.v (.int .i64 o.Hist[i].Of.b),.v (.int .u64 o.Hist[i].Of.c),.ls 1 (bl o.Hist[i].Body)]:=aI _ o.Hist i hi
  have es:(o.Hist.map SealM.A).set i [.v (.int .i64 o.Hist[i].Of.a),.v (.int .i64 o.Hist[i].Of.b),.v (.int .u64 o.Hist[i].Of.c),.ls 1 (bl o.Hist[i].Body)]=o.Hist.map SealM.A:=RF SealM.A o.Hist i hi
  have hb:=(ho.hist.2 _ (iN hi)).2.1
  generalize o.Hist[i]=x at *
  simp only [go_sem,AD,aL,bG hi,hi,g0]
  refine aB (aA _) rfl (xH (bl x.Body) (by rw [aL];omega)) rfl ?_
  simp only [go_sem,AD,aL,hi,g0,es,ws]
 intro _
 simp only [go_sem,AD,aX (cN _)]
def PD (o:OpM) (ho:o.ok):aC PQ G iQ [.ag o.A] [] λr T=>r=.ag o.A∧T=[]:=by
 refine (ZS o ho).fin [0,1] ?_;rintro r T' ⟨rfl,rfl⟩;simp only [go_sem,jJ,OpM.A_def]
end
end
section
structure ND where
 o:OpM
 id:Id
 W:List Nat
 lv:Int
def ND.A (n:ND):List AV:=n.o.A++(n.id.A++(lC n.W++[iv n.lv]))
structure PGM where
 cards:List CardM
 nodes:List ND
def PGM.I (g:PGM):List Id:=g.nodes.map (·.id)
def MG (I:List Id):AObj:=.map true (I.map Id.K) ((List.range I.length).map λi:Nat=>iv (i:Int)) (List.range I.length) I.length
def TG (k:Nat) (g:PGM):aH:=[some (.box [.ls 5 (g.cards.map CardM.A),.mp (k+1),.own (k+2)]),some (MG g.I),some (.arr 35 (g.nodes.map ND.A))]
def Bq (x:Id):IB true [.int .i64,.int .i64,.int .u64] (.ag x.A)=some x.K:=by
 rfl
@[go_sem] def aE3 (x:Id):Eh x.A=some x.K:=by rfl
@[go_sem] def aIh (x:Id):oU [.int .i64,.int .i64,.int .u64] x.K x.K=some true:=by simp [Id.K,oU]
def yX (x:Id):∀ (I:List Id) (i:Nat),mK [.int .i64,.int .i64,.int .u64] x.K (I.map Id.K) i=some ((I.findIdx? λy=>decide (y=x)).map (· + i))
 | [],_=>rfl
 | y::I,i=>by
  simp only [fE,mK,Id.K,oU,and_self,if_true,AI,List.findIdx?_cons];have:=yX x I (i+1);simp only [Id.K] at this;have e:(x.a==y.a&&(x.b==y.b&&x.c==y.c))=decide (y=x):=by rw [Id.beq];rw [rX];simp [eq_comm]
  by_cases h:y=x
  ·subst h;simp
  ·have h2:decide (y=x)=false:=decide_eq_false h;rw [h2] at e ⊢;simp only [e,this,kB,if_false]
   cases I.findIdx? (λy=>decide (y=x)) with
   | none=>rfl
   | some j=>simp;omega
def xJ (n j:Nat) (h:j<n):((List.range n).map λi:Nat=>iv (i:Int))[j]?=some (iv (j:Int)):=by simp [h]
def kA {I:List Id} {x:Id} (h:x∉I):I.findIdx? (λy=>decide (y=x))=none:=by
 grind
def fN {I:List Id} {x:Id} (h:x∈I):∃ j,I.findIdx? (λy=>decide (y=x))=some j∧j<I.length∧∃ hj:j<I.length,I[j]=x:=by
 cases e:I.findIdx? (λy=>decide (y=x)) with
 | none=>exact absurd (aBW.1 e x h) (by simp)
 | some j =>
  obtain ⟨h1,h2,_⟩:=aAq.1 e;simp_all
section
variable {G:Nat→Option (List AV)}
set_option maxHeartbeats 4000000
def VB (g:PGM) (d:Int) (hn:g.cards.length≤1000):aC PQ G lI [.ptr 0 0,iv d] (TG 0 g) λr T=>r=.tup [.ag (eK g.cards d).1.A,.v (.bool (eK g.cards d).2)]∧T=TG 0 g:=by
 refine aD CD (by decide) ?_;simp only [go_sem,TG,MG,aL];refine aJ g.cards.length (λi=>⟨3,[(1,iv d),(4,.ptr 3 0),(11,.ls 5 (g.cards.map CardM.A)),(12,iv g.cards.length),(13,iv i)],[some (.box [.ls 5 (g.cards.map CardM.A),.mp 1,.own 2]),some (MG g.I),some (.arr 35 (g.nodes.map ND.A)),some (.box [iv 0,iv 0,AV.v (.int .u64 0),AV.v (.int .u64 0),AV.v (.int .u64 0)])]⟩) (λi=>∀ j (hj:j<g.cards.length),j<i→(g.cards[j].Device==d)=false) ?_ (by intro j hj h;omega) ?_ ?_
 ·simp only [go_sem,MG]
 ·intro i hi hJ;have g0:(g.cards.map CardM.A)[i]?=some [iv g.cards[i].Device,iv g.cards[i].Member,uv g.cards[i].Lead,uv g.cards[i].Keep,uv g.cards[i].Sign]:=aI _ g.cards i hi;simp only [go_sem,MG,bG hi,g0];refine aK (λh=>?_) (λh=>?_)<;>simp only [go_sem,MG,aF (show i<9223372036854775807 by omega)]
  ·have e:g.cards.find? (λc=>c.Device==d)=some g.cards[i]:=aBO.2 ⟨h,i,hi,rfl,λj hj=>by simp [hJ j (by omega) hj]⟩;simp only [eK,e,CardM.A_def]
  ·grind
 ·intro hJ;have e:g.cards.find? (λc=>c.Device==d)=none:=Ls.2 λx hx=>by
   obtain ⟨j,hj,rfl⟩:=AG hx;simp [hJ j hj hj]
  simp only [go_sem,MG,aX (cN _),eK,e,CardM.A_def];rfl
def Nh (g:PGM) (x:Id):aC PQ G cU [.ag x.A,.ptr 0 0] (some (.box [.ptr 1 0])::TG 1 g) λr T=>r=.v (.bool (decide (x∈g.I)))∧T=some (.box [.ptr 1 0])::TG 1 g:=by
 refine aD zX (by decide) ?_;have hk:=Bq x;have hf:=yX x g.I 0;by_cases hx:x∈g.I
 ·obtain ⟨j,h1,h2,_⟩:=fN hx;rw [h1] at hf;have gv:=xJ g.I.length j h2;simp only [lA,wK] at hf;simp only [go_sem,TG,MG,hf,gv,decide_eq_true hx]
 ·rw [kA hx] at hf;simp only [JV] at hf;simp only [go_sem,TG,MG,hf,decide_eq_false hx]
end
end
section
def VL (N:Nat) (l:List Nat):Prop:=∀ x∈l,x<N
def VL.pr {N a b:Nat} {l l':List Nat} (hp:PR a b l l') (hv:VL N l):VL N l':=λx hx=>hv x (hp.2.2.mem_iff.1 hx)
def VL.get {N:Nat} {l:List Nat} (hv:VL N l) {i:Nat} (h:i<l.length):l.getD i 0<N:=by
 rw [uW,nQ h];exact hv _ (iN h)
@[go_sem] def Id.dr3 (x:Id):x.A.drop 3=[]:=bJ rfl rfl
def Id.okA0 (b:Bool) (x:Id):x.A.all (Lu b)=true:=by cases b<;>simp [Id.A,eO,Lu,aO]
@[go_sem] def Id.okA (b:Bool) (x:Id):x.A.all (Lu b)=true:=Id.okA0 b x
section
variable {G:Nat→Option (List AV)} {g:PGM} {d:Nat→Id} {f N:Nat}
end
end
end Hud
