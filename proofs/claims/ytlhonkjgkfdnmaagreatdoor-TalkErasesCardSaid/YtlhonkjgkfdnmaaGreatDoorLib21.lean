import Derived.Test.YtlhonkjgkfdnmaaGreatDoorLib13
import Derived.Test.YtlhonkjgkfdnmaaGreatDoorLib17
import Derived.Test.YtlhonkjgkfdnmaaGreatDoorLib20
set_option linter.all false
set_option maxHeartbeats 40000000
namespace Hud
open Go
variable{G:L_}
def aK9:∀x,x<256->x ||| 128=x%128+128:=d5
def Ul(x:Nat)(a:x<256):bV .or (.int .u8 (x:Int)) (.int .u8 128)=some (.int .u8 ((x%128+128:Nat):Int)):=by
 have h1:(BitVec.ofInt IntKind.u8.bits (x:Int) ||| BitVec.ofInt IntKind.u8.bits 128).toNat=x%128+128:=by
  have ea:(BitVec.ofInt 8 (x:Int)).toNat=x:=h_;have b:(BitVec.ofInt 8 (128:Int)).toNat=128:=d_;show(BitVec.ofInt 8 (x:Int) ||| BitVec.ofInt 8 (128:Int)).toNat=x%128+128;rw[BitVec.toNat_or,ea,b,aK9 x a]
 simp only[bV,if_true,h1];rw[GI _ o_]
def Qz(x:Nat)(a:x<2^64):bV .shr (.int .u64 (x:Int)) (.int .u64 7)=some (.int .u64 ((x/128:Nat):Int)):=by
 have h2:(x:Int).fdiv (2^(min (7:Int).toNat IntKind.u64.bits))=((x/128:Nat):Int):=by show(x:Int).fdiv 128=_;grind
 grind[bV]
def I3 (A:V_) (k:Nat) (y:A.length<=1000000) (x:k<2^64):aA PQ G fD [.ptr 0 0,.v (.int .u64 (k:Int))] [some (.box [.own 1]),some (.arr 1 (bl A))] λr w=>w=[some (.box [.own 2]),none,some (.arr 1 (bl (A++gJ k)))]:=by
 apply aC Bz;simp only[go_sem];refine jG (λs=>∃(B:V_)(j:Nat),B++[j]=A++gJ k/\j<=127/\B.length<=A.length+9/\(s=⟨2,[(0,.ptr 0 0),(1,.v (.int .u64 (j:Int)))],[some (.box [.own 1]),some (.arr 1 (bl B))]⟩\/s=⟨2,[(0,.ptr 0 0),(1,.v (.int .u64 (j:Int)))],[some (.box [.own 2]),none,some (.arr 1 (bl B))]⟩)) ?_ ?_;refine cO (λm s=>∃(B:V_)(j:Nat),B++Do m j=A++gJ k/\j<2*128^m/\B.length+m<=A.length+9/\m<=9/\(s=⟨2,[(0,.ptr 0 0),(1,.v (.int .u64 (j:Int)))],[some (.box [.own 1]),some (.arr 1 (bl B))]⟩\/s=⟨2,[(0,.ptr 0 0),(1,.v (.int .u64 (j:Int)))],[some (.box [.own 2]),none,some (.arr 1 (bl B))]⟩)) 9 ⟨A,k,rfl,o_,o_,o_,.inl ?_⟩ ?_;simp only[go_sem];rintro m s ⟨B,j,l,g,p,o,a⟩;by_cases e:127<j
 cases m with
 |zero=>simp at g;omega|succ m=>
  have f:j<2^64:=CV g (uR (YF 2 (Gl d_ (o_:m+1<=9))) d_);have t1:decide ((128:Int)<=(j:Int))=true:=decide_eq_true o_;have w1:IntKind.u8.wrap (j:Int)=((j%256:Nat):Int):=Y_;have d:=Ul (j%256) o_;have t:j%256%128+128=j%128+128:=o_;rw[t]at d;have i:=Qz j f;have c:B.length+1<=maxLen:=g_;have b:(B.length+1)*1<=140737488355328:=o_;have u:B.length+1<=140737488355328:=o_;have h:B++[j%128+128]++Do m (j/128)=A++gJ k:=by grind[Do,List.append_assoc]
  have n:j/128<2*128^m:=o_;have q:bl B++[U8 (j%128+128)]=bl (B++[j%128+128]):=s_;rcases a with rfl|rfl;simp only[go_sem,aP,ge_iff_le,t1,w1,↓d,↓i,c,b];grind;simp only[go_sem,aP,ge_iff_le,t1,w1,↓d,↓i,c,b];grind
 have t1:decide ((128:Int)<=(j:Int))=false:=decide_eq_false o_;have h:B++[j]=A++gJ k:=by
  rw[<-l]
  cases m with
  |zero=>rfl|succ m=>rw[Do,if_neg e]
 rcases a with rfl|rfl;simp only[go_sem,ge_iff_le,t1];grind;simp only[go_sem,ge_iff_le,t1];grind;rintro s ⟨B,j,l,g,p,a⟩;have w1:IntKind.u8.wrap (j:Int)=(j:Int):=GI _ o_;have c:B.length+1<=maxLen:=g_;have b:(B.length+1)*1<=140737488355328:=o_;have u:B.length+1<=140737488355328:=o_;have q:bl B++[U8 j]=bl (B++[j]):=s_;rcases a with rfl|rfl;simp only[go_sem,aP,w1,c,b];simp_all;simp only[go_sem,aP,w1,c,b];simp_all
theorem aKa(n:Int):IntKind.u64.wrap n=n%2^64:=Y_
def aDd(a:Nat)(b:a<2^64):(BitVec.ofInt 64 (a:Int) ^^^ BitVec.ofInt 64 18446744073709551615).toNat=18446744073709551615-a:=by
 have e:BitVec.ofInt 64 18446744073709551615=BitVec.allOnes 64:=d_;rw[e,BitVec.xor_allOnes,BitVec.toNat_not];simp_all;omega
def aDe (n:Int) (h1:-9223372036854775808<=n) (h2:n<=2^63-1):aA PQ G FA [iv n] [] λr j=>r=.v (.int .u64 ((W3 n:Nat):Int))/\j=[]:=by
 apply aC OQ;have k:=OP h1 h2;by_cases i:n<0;obtain⟨a,l,h⟩:∃a:Nat,n*2%2^64=(a:Int)/\W3 n=18446744073709551615-a:=⟨(18446744073709551616+2*n).toNat,o_,by unfold W3;rw[if_pos i];omega⟩
 have c1:IntKind.u64.wrap n=n+18446744073709551616:=by rw[aKa];omega
 have e:bV .shl (.int .u64 (n+18446744073709551616)) (.int .u64 1)=some (.int .u64 (a:Int)):=by
  have h3:¬(1:Int)<0:=d_;have b:(n+18446744073709551616)*2^(min (1:Int).toNat IntKind.u64.bits)=n*2+36893488147419103232:=by show(n+18446744073709551616)*2=_;omega
  grind[bV,aKa]
 have d:bV .shr (.int .i64 n) (.int .u64 63)=some (.int .i64 (-1)):=by
  have h3:¬(63:Int)<0:=d_;have b:n.fdiv (2^(min (63:Int).toNat IntKind.i64.bits))=-1:=by show n.fdiv 9223372036854775808=-1;grind
  grind[bV]
 have c2:IntKind.u64.wrap (-1)=18446744073709551615:=d_;have c:bV .xor (.int .u64 (a:Int)) (.int .u64 18446744073709551615)=some (.int .u64 ((W3 n:Nat):Int)):=by have g:(BitVec.ofInt IntKind.u64.bits (a:Int) ^^^ BitVec.ofInt IntKind.u64.bits 18446744073709551615).toNat=18446744073709551615-a:=aDd a o_;simp only[bV,if_true,g];rw[bS _ o_,h]
 simp only[go_sem,c1,↓e,↓d,c2,↓c];obtain⟨m,rfl⟩:∃m:Nat,n=(m:Int):=⟨n.toNat,o_⟩
 have f:W3 (m:Int)=m*2:=by grind[W3]
 have c1:IntKind.u64.wrap (m:Int)=(m:Int):=bS m o_;have e:bV .shl (.int .u64 (m:Int)) (.int .u64 1)=some (.int .u64 ((m*2:Nat):Int)):=by
  have h3:¬(1:Int)<0:=d_;have b:(m:Int)*2^(min (1:Int).toNat IntKind.u64.bits)=((m*2:Nat):Int):=Y_;simp only[bV,h3,if_false,b];rw[bS _ o_]
 have d:bV .shr (.int .i64 (m:Int)) (.int .u64 63)=some (.int .i64 0):=by
  have h3:¬(63:Int)<0:=d_;have b:(m:Int).fdiv (2^(min (63:Int).toNat IntKind.i64.bits))=0:=by show(m:Int).fdiv 9223372036854775808=0;grind
  grind[bV]
 have c:bV .xor (.int .u64 ((m*2:Nat):Int)) (.int .u64 0)=some (.int .u64 ((m*2:Nat):Int)):=by
  have g:(BitVec.ofInt IntKind.u64.bits ((m*2:Nat):Int) ^^^ BitVec.ofInt IntKind.u64.bits 0).toNat=m*2:=by show(BitVec.ofInt 64 ((m*2:Nat):Int) ^^^ BitVec.ofInt 64 0).toNat=m*2;simp_all;omega
  simp only[bV,if_true,g];rw[bS _ o_]
 rw[f];simp only[go_sem,c1,↓e,↓d,↓c]
def zD(A:V_)(n:Int)(b:A.length<=1000000)(h1:-9223372036854775808<=n)(h2:n<=2^63-1):aA PQ G cD [.ptr 0 0,iv n] [some (.box [.own 1]),some (.arr 1 (bl A))] λr a=>a=[some (.box [.own 2]),none,some (.arr 1 (bl (A++bN n)))]:=by refine aC Bx ?_;simp only[go_sem];apply cX (aDe n h1 h2);simp only[go_sem];apply aG [0,1] (aB _) d_ s_ rfl rfl (I3 A (W3 n) b (OP h1 h2));rintro r a rfl;simp only[go_sem];rfl
def aFx(A:V_)(a b:Int)(c:Nat)(l:A.length<=900000)(h:-9223372036854775808<=a)(g:a<=2^63-1)(f:-9223372036854775808<=b)(e:b<=2^63-1)(i:c<2^64):
 aA PQ G fL [.ptr 0 0,.ag [iv a,iv b,.v (.int .u64 (c:Int))]] [some (.box [.own 1]),some (.arr 1 (bl A))] λr d=>d=[some (.box [.own 2]),none,some (.arr 1 (bl (A++idB a b c)))]:=by
 apply aC Ge;have k:=bX a;have j:=bX b;simp only[go_sem];apply aG [0,1] (aB _) d_ s_ rfl rfl (zD A a o_ h g);rintro r d rfl;simp only[go_sem];rw[<-bZ];apply aG [0,3] (aB _) d_ s_ rfl rfl (zD (A++bN a) b c_ f e);rintro r d rfl;simp only[go_sem];rw[<-bZ,<-bZ];apply aG [0,4] (aB _) d_ s_ rfl rfl (I3 (A++bN a++bN b) c c_ i);rintro r d rfl;simp only[go_sem,idB,eB]
def aDf(A:V_)(S:ByteArray)(b:V_)(f:lJ S=bl b)(a:S.size=b.length)(i:A.length<=900000)(h:b.length<=1000000):aA PQ G tO [.ptr 0 0,.v (.string S)] [some (.box [.own 1]),some (.arr 1 (bl A))] λr e=>e=[some (.box [.own 2]),none,some (.arr 1 (bl (A++(bN (b.length:Int)++b))))]:=by
 apply aC Hd;have g:=bX (b.length:Int);have d:(A++bN (b.length:Int)).length+b.length<=140737488355328:=p_;have c:(A++bN (b.length:Int)).length+b.length<=maxLen:=by rw[dZ];unfold maxLen;omega
 simp only[go_sem,a];apply aG [0,1] (aB _) d_ s_ rfl rfl (zD A (b.length:Int) o_ o_ o_);rintro r e rfl;rw[dZ]at d c;simp only[go_sem,aP,dZ,a,f,d,c,bZ,eB]
def aI1 (k:Nat) (x:k<2^64):aA PQ G fD [.ptr 0 0,.v (.int .u64 (k:Int))] [some (.box [.v (.slice none 0 0)])] λr w=>w=[some (.box [.own 1]),some (.arr 1 (bl (gJ k)))]:=by
 apply aC Bz;simp only[go_sem];refine jG (λs=>∃(B:V_)(j:Nat),B++[j]=gJ k/\j<=127/\B.length<=9/\((B=[]/\s=⟨1,[(0,.ptr 0 0),(1,.v (.int .u64 (j:Int)))],[some (.box [.v (.slice none 0 0)])]⟩)\/s=⟨1,[(0,.ptr 0 0),(1,.v (.int .u64 (j:Int)))],[some (.box [.own 1]),some (.arr 1 (bl B))]⟩)) ?_ ?_;refine cO (λm s=>∃(B:V_)(j:Nat),B++Do m j=gJ k/\j<2*128^m/\B.length+m<=9/\m<=9/\((B=[]/\s=⟨1,[(0,.ptr 0 0),(1,.v (.int .u64 (j:Int)))],[some (.box [.v (.slice none 0 0)])]⟩)\/s=⟨1,[(0,.ptr 0 0),(1,.v (.int .u64 (j:Int)))],[some (.box [.own 1]),some (.arr 1 (bl B))]⟩)) 9 ⟨[],k,rfl,o_,d_,o_,.inl ⟨rfl,?_⟩⟩ ?_;simp only[go_sem];rintro m s ⟨B,j,f,e,p,o,a⟩;by_cases c:127<j
 cases m with
 |zero=>simp at e;omega|succ m=>
  have d:j<2^64:=CV e (uR (YF 2 (Gl d_ (o_:m+1<=9))) d_);have t1:decide ((128:Int)<=(j:Int))=true:=decide_eq_true o_;have w1:IntKind.u8.wrap (j:Int)=((j%256:Nat):Int):=Y_;have b:=Ul (j%256) o_;have t:j%256%128+128=j%128+128:=o_;rw[t]at b;have l:=Qz j d;have i:B.length+1<=maxLen:=g_;have h:(B.length+1)*1<=140737488355328:=o_;have u:B.length+1<=140737488355328:=o_;have g:B++[j%128+128]++Do m (j/128)=gJ k:=by grind[Do,List.append_assoc]
  have n:j/128<2*128^m:=o_;have q:bl B++[U8 (j%128+128)]=bl (B++[j%128+128]):=s_;rcases a with⟨rfl,rfl⟩|rfl;simp only[go_sem,ge_iff_le,t1,w1,↓b,↓l,(d_:1<=maxLen)];grind;simp only[go_sem,aP,ge_iff_le,t1,w1,↓b,↓l,i,h];grind
 have t1:decide ((128:Int)<=(j:Int))=false:=decide_eq_false o_;have g:B++[j]=gJ k:=by
  rw[<-f]
  cases m with
  |zero=>rfl|succ m=>rw[Do,if_neg c]
 rcases a with⟨rfl,rfl⟩|rfl;simp only[go_sem,ge_iff_le,t1];grind;simp only[go_sem,ge_iff_le,t1];grind;rintro s ⟨B,j,f,e,p,a⟩;have w1:IntKind.u8.wrap (j:Int)=(j:Int):=GI _ o_;have i:B.length+1<=maxLen:=g_;have h:(B.length+1)*1<=140737488355328:=o_;have u:B.length+1<=140737488355328:=o_;have q:bl B++[U8 j]=bl (B++[j]):=s_;rcases a with⟨rfl,rfl⟩|rfl;rw[<-f];simp only[go_sem,w1,(d_:1<=maxLen)];simp only[go_sem,aP,w1,i,h];simp_all
def aI2(n:Int)(h1:-9223372036854775808<=n)(h2:n<=2^63-1):aA PQ G cD [.ptr 0 0,iv n] [some (.box [.v (.slice none 0 0)])] λr a=>a=[some (.box [.own 1]),some (.arr 1 (bl (bN n)))]:=by refine aC Bx ?_;simp only[go_sem];apply cX (aDe n h1 h2);simp only[go_sem];apply aG [0] (aB _) d_ s_ rfl rfl (aI1 (W3 n) (OP h1 h2));rintro r a rfl;simp only[go_sem];rfl
def Y8(A:V_)(d:A.length<=1000000):aA PQ G rQ [.ptr 0 0] [some (.box [.own 1]),some (.arr 1 (bl A))] λr c=>r=.own 2/\c=[some (.box [.own 1]),some (.arr 1 (bl A)),some (.arr 1 (bl A))]:=by
 apply aC Gd;have e:A.length<=140737488355328:=o_;have b:A.length<=maxLen:=g_;have a:A.length*1<=140737488355328:=o_;simp only[go_sem,aP,b,a]
def Id.B(x:Id):V_:=idB x.a x.b x.c.toNat
def nA{α:Type}(f:α->V_)(l:List α):V_:=bN (l.length:Int)++(l.map f).flatten
def OT{α:Type}{f:α->V_}{l:List α}{k:Nat}(h:∀x∈l,(f x).length<=k):((l.map f).flatten).length<=k*l.length:=by
 induction l with
 |nil=>simp|cons x l ih=>
  grind[List.flatten_cons,List.length_append,List.length_cons,Nat.mul_succ]
def nX{α:Type}{f:α->V_}{l:List α}{k:Nat}(h:∀x∈l,(f x).length<=k):(nA f l).length<=10+k*l.length:=by have h1:=bX (l.length:Int);have h2:=OT h;grind[nA,List.length_append]
def Dq{α:Type}(f:α->V_)(l:List α)(i:Nat)(h:i<l.length):((l.take (i+1)).map f).flatten=((l.take i).map f).flatten++f l[i]:=by rw[lB h,bZ,Kf];simp only[fG,uP,zK,B9,jO]
def AF{α:Type}{f:α->V_}{l:List α}{k:Nat}(h:∀x∈l,(f x).length<=k)(i:Nat)(b:i<=l.length):(((l.take i).map f).flatten).length<=k*l.length:=by refine uR (OT (l:=l.take i) λx a=>h x (C8 a)) (YF k ?_);simp_all
def Id.B_len(x:Id):x.B.length<=30:=by have h1:=bX x.a;have h2:=bX x.b;have h3:=iP x.c.toNat;grind[Id.B,idB,List.length_append]
def bsN(b:V_):ByteArray:=⟨(b.map UInt8.ofNat).toArray⟩
def FX:∀b:V_,aKs (bl b)=some (b.map UInt8.ofNat)|[]=>rfl|x::b=>by have h:=FX b;simp_all[bl,fG,aKs,nI]
def Dr{b:V_}(h:xN b):lJ (bsN b)=bl b:=by simp only[lJ,bsN,rI,bl];refine LD λx a=>?_;have:=h x a;simp_all;omega
def I5(b:V_):(bsN b).size=b.length:=by simp[bsN,ByteArray.size]
def aDi(A:V_)(l:B_)(p:A.length<=500000)(m:l.length<=1000)(f:∀x∈l,mZ x):aA PQ G Db [.ptr 0 0,rG l,.bm cD 1 [.ptr 0 0]] [some (.box [.own 1]),some (.arr 1 (bl A))] λr b=>b=[some (.box [.own 2]),none,some (.arr 1 (bl (A++nA bN l)))]:=by
 apply aC LP;have d:∀x∈l,(bN x).length<=10:=λx _=>bX x;have h:=bX (l.length:Int);simp only[go_sem,aP];apply aG [0,1] (aB _) d_ s_ rfl rfl (zD A (l.length:Int) o_ o_ o_);rintro r b rfl;simp only[go_sem];refine aQ l.length (λi=>⟨2,[(2,.bm cD 1 [.ptr 0 0]),(12,rG l),(13,iv l.length),(14,iv i)],[some (.box [.own 2]),none,some (.arr 1 (bl (A++(bN (l.length:Int)++((l.take i).map bN).flatten))))]⟩) (λ_=>True) ?_ trivial ?_ ?_;simp only[go_sem,uQ,B9,jO];intro i a _;have g:(l.map λn=>[iv n])[i]?=some [iv l[i]]:=aO _ l i a;have c:=f l[i] (eQ a);have o:=d l[i] (eQ a);have k:=AF d i o_;have e:A++(bN (l.length:Int)++((l.take (i+1)).map bN).flatten)=(A++(bN (l.length:Int)++((l.take i).map bN).flatten))++bN l[i]:=s8;rw[e];have j:(A++(bN (l.length:Int)++((l.take i).map bN).flatten)).length<=600000:=p_;clear e;generalize A++(bN (l.length:Int)++((l.take i).map bN).flatten)=X at *
 generalize l[i]=x at *
 simp only[go_sem,aT a,g];apply aG [0,2] (aB _) d_ s_ rfl rfl (zD X x o_ c.1 c.2);rintro r b rfl;simp only[go_sem,fQ i o_,bZ];intro _;rw[dE];simp only[go_sem,aS (bP _),nA]
def aDj(A:V_)(l:V_)(o:A.length<=500000)(m:l.length<=1000)(f:∀x∈l,x<2^64):aA PQ G yO [.ptr 0 0,.ls 1 (ul l),.bm fD 1 [.ptr 0 0]] [some (.box [.own 1]),some (.arr 1 (bl A))] λr b=>b=[some (.box [.own 2]),none,some (.arr 1 (bl (A++nA gJ l)))]:=by
 apply aC HT;have c:∀x∈l,(gJ x).length<=10:=λx _=>iP x;have h:=bX (l.length:Int);simp only[go_sem,aP];apply aG [0,1] (aB _) d_ s_ rfl rfl (zD A (l.length:Int) o_ o_ o_);rintro r b rfl;simp only[go_sem];refine aQ l.length (λi=>⟨2,[(2,.bm fD 1 [.ptr 0 0]),(12,.ls 1 (ul l)),(13,iv l.length),(14,iv i)],[some (.box [.own 2]),none,some (.arr 1 (bl (A++(bN (l.length:Int)++((l.take i).map gJ).flatten))))]⟩) (λ_=>True) ?_ trivial ?_ ?_;simp only[go_sem,uQ,B9,jO];intro i a _;have g:(ul l)[i]?=some [.v (.int .u64 ((l[i]:Nat):Int))]:=aO _ l i a;have e:=f l[i] (eQ a);have n:=c l[i] (eQ a);have k:=AF c i o_;have d:A++(bN (l.length:Int)++((l.take (i+1)).map gJ).flatten)=(A++(bN (l.length:Int)++((l.take i).map gJ).flatten))++gJ l[i]:=s8;rw[d];have j:(A++(bN (l.length:Int)++((l.take i).map gJ).flatten)).length<=600000:=p_;clear d;generalize A++(bN (l.length:Int)++((l.take i).map gJ).flatten)=X at *
 generalize l[i]=x at *
 simp only[go_sem,aT a,g];apply aG [0,2] (aB _) d_ s_ rfl rfl (I3 X x o_ e);rintro r b rfl;simp only[go_sem,fQ i o_,bZ];intro _;rw[dE];simp only[go_sem,aS (bP _),nA]
def aFy(A:V_)(x:Id)(e:A.length<=900000)(d:x.ok):aA PQ G fL [.ptr 0 0,.ag [iv x.a,iv x.b,.v (.int .u64 x.c)]] [some (.box [.own 1]),some (.arr 1 (bl A))] λr f=>f=[some (.box [.own 2]),none,some (.arr 1 (bl (A++x.B)))]:=by have:=aFx (G:=G) A x.a x.b x.c.toNat e d.1.1 d.1.2 d.2.1.1 d.2.1.2 (by have:=d.2.2;omega);rwa[Int.toNat_of_nonneg d.2.2.1]at this
def aFz(A:V_)(l:D_)(s:A.length<=500000)(p:l.length<=1000)(j:∀x∈l,x.ok):aA PQ G tY [.ptr 0 0,ids l,.bm fL 1 [.ptr 0 0]] [some (.box [.own 1]),some (.arr 1 (bl A))] λr e=>e=[some (.box [.own 2]),none,some (.arr 1 (bl (A++nA Id.B l)))]:=by
 apply aC EL;have f:∀x∈l,(Id.B x).length<=30:=λx _=>Id.B_len x;have m:=bX (l.length:Int);simp only[go_sem,aP];apply aG [0,1] (aB _) d_ s_ rfl rfl (zD A (l.length:Int) o_ o_ o_);rintro r e rfl;simp only[go_sem];refine aQ l.length (λi=>⟨2,[(2,.bm fL 1 [.ptr 0 0]),(12,ids l),(13,iv l.length),(14,iv i)],[some (.box [.own 2]),none,some (.arr 1 (bl (A++(bN (l.length:Int)++((l.take i).map Id.B).flatten))))]⟩) (λ_=>True) ?_ trivial ?_ ?_;simp only[go_sem,uQ,B9,jO];intro i d _;have k:(l.map Id.A)[i]?=some [.v (.int .i64 l[i].a),.v (.int .i64 l[i].b),.v (.int .u64 l[i].c)]:=aO _ l i d;have h:=j l[i] (eQ d);have q:=f l[i] (eQ d);have o:=AF f i o_;have g:A++(bN (l.length:Int)++((l.take (i+1)).map Id.B).flatten)=(A++(bN (l.length:Int)++((l.take i).map Id.B).flatten))++Id.B l[i]:=by rw[Dq _ l i d];simp only[eB]
 rw[g];have n:(A++(bN (l.length:Int)++((l.take i).map Id.B).flatten)).length<=600000:=p_;clear g;generalize A++(bN (l.length:Int)++((l.take i).map Id.B).flatten)=X at *
 generalize l[i]=x at *
 simp only[go_sem,aT d,k];apply aG [0,2] (aB _) d_ s_ rfl rfl (aFy X x o_ h);rintro r e rfl;simp only[go_sem,fQ i o_,bZ];intro _;rw[dE];simp only[go_sem,aS (bP _),nA]
def aKb(A:V_)(b:BoxM)(k:A.length<=600000)(c:b.ok):aA PQ G kZ [.ag b.A,.ptr 0 0] [some (.box [.ptr 1 0]),some (.box [.own 2]),some (.arr 1 (bl A))] λr a=>a=[some (.box [.ptr 1 0]),some (.box [.own 3]),none,some (.arr 1 (bl (A++b.B)))]:=by
 apply aC Nm;obtain⟨h1,h2,h3,d⟩:=c;have h:=iP b.To;have g:=iP b.Eph;have f:=iP b.Body;have e:=iP b.Tag;simp only[go_sem,BoxM.A];refine aQ 4 (λi=>match i with|0=>⟨3,[(1,.ptr 0 0),(13,.own 3),(14,.v (.int .i64 4)),(15,.v (.int .i64 0))],[some (.box [.ptr 1 0]),some (.box [.own 2]),some (.arr 1 (bl A)),some (.arr 1 [[uv b.To],[uv b.Eph],[uv b.Body],[uv b.Tag]])]⟩|i+1=>⟨3,[(1,.ptr 0 0),(13,.own 3),(14,.v (.int .i64 4)),(15,.v (.int .i64 ((i+1:Nat):Int)))],[some (.box [.ptr 1 0]),some (.box [.own 4]),none,some (.arr 1 [[uv b.To],[uv b.Eph],[uv b.Body],[uv b.Tag]]),some (.arr 1 (bl (A++mP ([b.To,b.Eph,b.Body,b.Tag].take (i+1)))))]⟩) (λ_=>True) ?_ trivial ?_ ?_;simp only[go_sem];intro i j _;rcases i with _|_|_|_|i;simp only[go_sem];apply aG [1,2] (aB _) d_ s_ rfl rfl (I3 A b.To o_ h1);rintro r a rfl;simp only[go_sem,mP,zK,B9];simp only[go_sem,mP,zK,B9];rw[<-bZ];apply aG [1,4] (aB _) d_ s_ rfl rfl (I3 (A++gJ b.To) b.Eph si h2);rintro r a rfl;simp only[go_sem,eB,mP,zK,B9,bZ];simp only[go_sem,mP,zK,B9];rw[<-bZ,<-bZ];apply aG [1,4] (aB _) d_ s_ rfl rfl (I3 (A++(gJ b.To++gJ b.Eph)) b.Body si h3);rintro r a rfl;simp only[go_sem,eB,mP,zK,B9,bZ];simp only[go_sem,mP,zK,B9];rw[<-bZ,<-bZ,<-bZ];apply aG [1,4] (aB _) d_ s_ rfl rfl (I3 (A++(gJ b.To++(gJ b.Eph++gJ b.Body))) b.Tag si d);rintro r a rfl;simp only[go_sem,eB,mP,zK,B9,bZ];omega;intro _;simp only[go_sem,BoxM.B]
def MJ(b:BoxM):b.B.length<=40:=AY [b.To,b.Eph,b.Body,b.Tag]
def Um(A:V_)(l:List BoxM)(o:A.length<=500000)(m:l.length<=1000)(f:∀x∈l,x.ok):aA PQ G rR [.ptr 0 0,F5 l,.cl kZ [.ptr 2 0]] [some (.box [.own 1]),some (.arr 1 (bl A)),some (.box [.ptr 0 0])] λr b=>b=[some (.box [.own 3]),none,some (.box [.ptr 0 0]),some (.arr 1 (bl (A++nA BoxM.B l)))]:=by
 apply aC Ga;have c:∀x∈l,(BoxM.B x).length<=40:=λx _=>MJ x;have h:=bX (l.length:Int);simp only[go_sem,aP];apply aG [0,1] (aB _) d_ s_ rfl rfl (zD A (l.length:Int) o_ o_ o_);rintro r b rfl;simp only[go_sem];refine aQ l.length (λi=>⟨3,[(2,.cl kZ [.ptr 2 0]),(12,F5 l),(13,iv l.length),(14,iv i)],[some (.box [.own 3]),none,some (.box [.ptr 0 0]),some (.arr 1 (bl (A++(bN (l.length:Int)++((l.take i).map BoxM.B).flatten))))]⟩) (λ_=>True) ?_ trivial ?_ ?_;simp only[go_sem,uQ,B9,jO];intro i a _;have g:(l.map BoxM.A)[i]?=some [uv l[i].To,uv l[i].Eph,uv l[i].Body,uv l[i].Tag]:=aO _ l i a;have e:=f l[i] (eQ a);have n:=c l[i] (eQ a);have k:=AF c i o_;have d:A++(bN (l.length:Int)++((l.take (i+1)).map BoxM.B).flatten)=(A++(bN (l.length:Int)++((l.take i).map BoxM.B).flatten))++BoxM.B l[i]:=s8;rw[d];have j:(A++(bN (l.length:Int)++((l.take i).map BoxM.B).flatten)).length<=600000:=p_;clear d;generalize A++(bN (l.length:Int)++((l.take i).map BoxM.B).flatten)=X at *
 generalize l[i]=x at *
 simp only[go_sem,aT a,g];apply aG [2,0,3] (aB _) d_ s_ rfl rfl (aKb X x o_ e);rintro r b rfl;simp only[go_sem,fQ i o_,bZ];intro _;rw[dE];simp only[go_sem,aS (bP _),nA]
def NodeM.B(n:NodeM):V_:=gJ n.Pub++nA BoxM.B n.Boxes
def I6{n:NodeM}(h:n.ok):n.B.length<=4020:=by have h1:=iP n.Pub;have h2:=nX (f:=BoxM.B) (l:=n.Boxes) (k:=40) λx _=>MJ x;have h3:=h.2.1;grind[NodeM.B,List.length_append]
def aI3(A:V_)(n:NodeM)(d:A.length<=450000)(a:n.ok):aA PQ G xS [.ag n.A,.ptr 0 0,.ptr 1 0] [some (.box [.ptr 2 0]),some (.box [.cl kZ [.ptr 0 0]]),some (.box [.own 3]),some (.arr 1 (bl A))] λr b=>b=[some (.box [.ptr 2 0]),some (.box [.cl kZ [.ptr 0 0]]),some (.box [.own 4]),none,some (.arr 1 (bl (A++n.B)))]:=by refine aC Nn ?_;have c:=iP n.Pub;simp only[go_sem,NodeM.A];apply aG [2,3] (aB _) d_ s_ rfl rfl (I3 A n.Pub o_ a.1);rintro r b rfl;simp only[go_sem];rw[<-bZ];apply aG [2,5,0] (aB _) d_ s_ rfl rfl (Um (A++gJ n.Pub) n.Boxes si (by have:=a.2.1;omega) a.2.2);rintro r b rfl;simp only[go_sem,NodeM.B,eB]
def SealM.B(x:SealM):V_:=x.Of.B++rD x.Body
def I7{x:SealM}(h:x.ok):x.B.length<=1040:=by have h1:=Id.B_len x.Of;have h2:=bX (x.Body.length:Int);have h3:=h.2.1;grind[SealM.B,rD,List.length_append]
def aI4(A:V_)(x:SealM)(e:A.length<=600000)(a:x.ok):aA PQ G xT [.ag x.A,.ptr 0 0] [some (.box [.ptr 1 0]),some (.box [.own 2]),some (.arr 1 (bl A))] λr b=>b=[some (.box [.ptr 1 0]),some (.box [.own 3]),none,some (.arr 1 (bl (A++x.B)))]:=by refine aC No ?_;have d:=Id.B_len x.Of;have c:=a.2.1;simp only[go_sem,SealM.A];apply aG [1,2] (aB _) d_ s_ rfl rfl (aFy A x.Of o_ a.1);rintro r b rfl;simp only[go_sem,↓FX];rw[<-bZ];apply aG [1,4] (aB _) d_ s_ rfl rfl (aDf (A++x.Of.B) (bsN x.Body) x.Body (Dr a.2.2) (I5 _) si o_);rintro r b rfl;simp only[go_sem,SealM.B,rD,eB]
def aAJ(A:V_)(l:List NodeM)(p:A.length<=400000)(n:l.length<=10)(d:∀x∈l,x.ok):aA PQ G vA [.ptr 0 0,.ls 2 (l.map NodeM.A),.cl xS [.ptr 2 0,.ptr 3 0]] [some (.box [.own 1]),some (.arr 1 (bl A)),some (.box [.ptr 0 0]),some (.box [.cl kZ [.ptr 2 0]])] λr b=>b=[some (.box [.own 4]),none,some (.box [.ptr 0 0]),some (.box [.cl kZ [.ptr 2 0]]),some (.arr 1 (bl (A++nA NodeM.B l)))]:=by
 apply aC FC;have c:∀x∈l,(NodeM.B x).length<=4020:=λx g=>I6 (d x g);have j:=bX (l.length:Int);simp only[go_sem,aP];apply aG [0,1] (aB _) d_ s_ rfl rfl (zD A (l.length:Int) o_ o_ o_);rintro r b rfl;simp only[go_sem];refine aQ l.length (λi=>⟨4,[(2,.cl xS [.ptr 2 0,.ptr 3 0]),(12,.ls 2 (l.map NodeM.A)),(13,iv l.length),(14,iv i)],[some (.box [.own 4]),none,some (.box [.ptr 0 0]),some (.box [.cl kZ [.ptr 2 0]]),some (.arr 1 (bl (A++(bN (l.length:Int)++((l.take i).map NodeM.B).flatten))))]⟩) (λ_=>True) ?_ trivial ?_ ?_;simp only[go_sem,uQ,B9,jO];intro i a _;have h:(l.map NodeM.A)[i]?=some [uv l[i].Pub,F5 l[i].Boxes]:=aO _ l i a;have f:=d l[i] (eQ a);have o:=c l[i] (eQ a);have m:=AF c i o_;have e:A++(bN (l.length:Int)++((l.take (i+1)).map NodeM.B).flatten)=(A++(bN (l.length:Int)++((l.take i).map NodeM.B).flatten))++NodeM.B l[i]:=s8;rw[e];have k:(A++(bN (l.length:Int)++((l.take i).map NodeM.B).flatten)).length<=450000:=p_;clear e;generalize A++(bN (l.length:Int)++((l.take i).map NodeM.B).flatten)=X at *
 generalize l[i]=x at *
 simp only[go_sem,aT a,h];apply aG [2,3,0,4] (aB _) d_ s_ rfl rfl (aI3 X x o_ f);rintro r b rfl;simp only[go_sem,fQ i o_,bZ];intro _;rw[dE];simp only[go_sem,aS (bP _),nA]
def aAK(A:V_)(l:List SealM)(t:A.length<=450000)(q:l.length<=100)(g:∀x∈l,x.ok):aA PQ G sJ [.ptr 0 0,.ls 4 (l.map SealM.A),.cl xT [.ptr 2 0]] [some (.box [.own 1]),some (.arr 1 (bl A)),some (.box [.ptr 0 0])] λr e=>e=[some (.box [.own 3]),none,some (.box [.ptr 0 0]),some (.arr 1 (bl (A++nA SealM.B l)))]:=by
 apply aC Dd;have f:∀x∈l,(SealM.B x).length<=1040:=λx k=>I7 (g x k);have n:=bX (l.length:Int);simp only[go_sem,aP];apply aG [0,1] (aB _) d_ s_ rfl rfl (zD A (l.length:Int) o_ o_ o_);rintro r e rfl;simp only[go_sem];refine aQ l.length (λi=>⟨3,[(2,.cl xT [.ptr 2 0]),(12,.ls 4 (l.map SealM.A)),(13,iv l.length),(14,iv i)],[some (.box [.own 3]),none,some (.box [.ptr 0 0]),some (.arr 1 (bl (A++(bN (l.length:Int)++((l.take i).map SealM.B).flatten))))]⟩) (λ_=>True) ?_ trivial ?_ ?_;simp only[go_sem,uQ,B9,jO];intro i d _;have m:(l.map SealM.A)[i]?=some [.v (.int .i64 l[i].Of.a),.v (.int .i64 l[i].Of.b),.v (.int .u64 l[i].Of.c),.ls 1 (bl l[i].Body)]:=aO _ l i d;have j:=g l[i] (eQ d);have s:=f l[i] (eQ d);have p:=AF f i o_;have h:A++(bN (l.length:Int)++((l.take (i+1)).map SealM.B).flatten)=(A++(bN (l.length:Int)++((l.take i).map SealM.B).flatten))++SealM.B l[i]:=by rw[Dq _ l i d];simp only[eB]
 rw[h];have o:(A++(bN (l.length:Int)++((l.take i).map SealM.B).flatten)).length<=600000:=p_;clear h;generalize A++(bN (l.length:Int)++((l.take i).map SealM.B).flatten)=X at *
 generalize l[i]=x at *
 simp only[go_sem,aT d,m];apply aG [2,0,3] (aB _) d_ s_ rfl rfl (aI4 X x o_ j);rintro r e rfl;simp only[go_sem,fQ i o_,bZ];intro _;rw[dE];simp only[go_sem,aS (bP _),nA]
def aAL (b:V_) (hb:xN b) (hl:b.length<=1000000):aA PQ G iB [.v (.slice none 0 0),.cl nS [.ptr 0 0]] [some (.box [.ls 1 (bl b)])] λr T'=>r=.own 1/\T'=[some (.box [.ls 1 (bl b)]),some (.arr 1 (ul (eN b)))]:=by
 apply aC sM;simp only[go_sem];refine NX rfl (vZ qG) λr U T W ab=>?_;simp only[go_sem];refine Ic [0,1,2,3] (aB _) d_ (λi D=>by simp at D⊢;omega) rfl rfl (aC qG ?_);simp only[go_sem];apply kM (Y6 _);simp only[go_sem];refine NX rfl (vZ fN) λM N q2 V aa=>?_;simp only[go_sem];refine Ic [0,1,2,3,4,5,6,7] (aB _) d_ (λi D=>by simp at D⊢;omega) rfl rfl (aC fN ?_);simp only[go_sem]
 refine cO (λn s=>∃(i:Nat)(A:V_),n=b.length+7-i/\i<=b.length+6/\A.length<=i/\A++eN (b.drop i)=eN b/\(s=⟨8,[(0,.yl 7),(1,.ptr 5 0),(2,.ptr 6 0),(4,iv i)],[some (.box [.ls 1 (bl b)]),some (.box [.own 2]),some (.arr 1 (ul A)),some (.lp r [(2,.ptr 1 0)]),some (.box [.yl 3]),some (.box [.ls 1 (bl b)]),some (.box [iv 7]),some (.lp M [(2,.ptr 4 0)])]⟩ \/
   s=⟨8,[(0,.yl 7),(1,.ptr 5 0),(2,.ptr 6 0),(4,iv i)],[some (.box [.ls 1 (bl b)]),some (.box [.own 8]),none,some (.lp r [(2,.ptr 1 0)]),some (.box [.yl 3]),some (.box [.ls 1 (bl b)]),some (.box [iv 7]),some (.lp M [(2,.ptr 4 0)]),some (.arr 1 (ul A))]⟩)) (b.length+7) ⟨0,[],o_,o_,cN _,s_,.inl ?_⟩ ?_
 simp only[go_sem];rintro n s ⟨i,A,rfl,D,hA,o,p⟩;by_cases l:i<b.length;obtain⟨e,ae,ad,ac⟩:∃e:Nat,e=min 7 (b.length-i)/\1<=e/\e<=7:=⟨min 7 (b.length-i),rfl,o_,o_⟩
 have u:(if((b.length-i:Nat):Int)<7 then((b.length-i:Nat):Int) else(7:Int))=(e:Int):=ax;have w1:IntKind.i64.wrap ((i:Int)+(e:Int))=((i+e:Nat):Int):=a_;have S:i<=i+e:=o_;have R:i+e<=b.length:=o_;have Q:¬i+e=i:=o_;have P:i<=b.length:=o_;have O:i+e-i=e:=o_;have B:((bl b).drop i).take e=bl ((b.drop i).take e):=s_;have z:((b.drop i).take e).length=e:=c_;have k:xN ((b.drop i).take e):=uU (Ih hb i) _;have I:(b.drop i).take 7=(b.drop i).take e:=h_;have a:=FV (b:=b.drop i) (λh=>by have:=congrArg List.length h;simp at this;omega);rw[I,Kg]at a;rw[a]at o;generalize af:(b.drop i).take e=c at *
 have y:c.take e=c:=sG o_;have w:∀j,j<e->∃x:Nat,(bl c)[j]?=some [.v (.int .u8 (x:Int))]/\IntKind.u64.wrap (x:Int)=(x:Int)/\IntKind.i64.wrap (8*(j:Int))=((8*j:Nat):Int)/\bV .shl (.int .u64 (x:Int)) (.int .i64 ((8*j:Nat):Int))=some (.int .u64 ((x*2^(8*j):Nat):Int)) /\
   bV .or (.int .u64 ((xA (c.take j):Nat):Int)) (.int .u64 ((x*2^(8*j):Nat):Int))=some (.int .u64 ((xA (c.take (j+1)):Nat):Int)):=λj X=>by
  have m:j<c.length:=o_;have hx:=k c[j] (eQ m);have C:=OJ (uU k j);rw[eC,Kj o_]at C;have ah:xA (c.take j)<72057594037927936:=Qw (uU k j) s6;have J:xA (c.take (j+1))<72057594037927936:=Qw (uU k _) s6;have q:=Uo m;rw[q]at J;refine⟨c[j],aO U8 c j m,bS _ o_,a_,Q0 _ j o_ hx,?_⟩;have ho:=aDk (xA (c.take j)) c[j] j C;have H:c[j]*2^(8*j)<2^64:=by
   have:256^j*c[j]=c[j]*2^(8*j):=by rw[QP,show(256:Nat)^j=2^(8*j) by rw[IA]]
   omega
  have g:=Uq (xA (c.take j)) (c[j]*2^(8*j)) o_ H o_;simp_all
 have Z:A.length+1<=maxLen:=g_;have Y:(A.length+1)*8<=140737488355328:=o_;have L:IntKind.i64.wrap ((i:Int)+7)=((i+7:Nat):Int):=a_;have d:ul A++[[AV.v (.int .u64 ((xA c:Nat):Int))]]=ul (A++[xA c]):=s_;rcases p with rfl|rfl;simp only[go_sem,aP,aT l,u,w1,S,R,Q,P,O,B];apply V _ _ _ _ _ rfl rfl;simp only[go_sem,aP,z];refine cO (λn s=>∃j:Nat,j<=e/\n=e-j/\s=⟨8,[(2,.ptr 4 0),(4,.v (.int .u64 ((xA (c.take j):Nat):Int))),(10,.ls 1 (bl c)),(11,iv e),(12,iv j)],[some (.box [.ls 1 (bl b)]),some (.box [.own 2]),some (.arr 1 (ul A)),some (.lp r [(2,.ptr 1 0)]),some (.box [.yl 3]),some (.box [.ls 1 (bl b)]),some (.box [iv 7]),none]⟩) e ⟨0,pR _,rfl,?_⟩ ?_;simp only[go_sem,uQ,xA];rintro n s ⟨j,X,rfl,rfl⟩;by_cases f:j<e;obtain⟨x,K,E,v2,F,g⟩:=w j f;simp only[go_sem,aT f,K,E,v2,↓F,↓g,fQ j o_];exact⟨e-(j+1),o_,j+1,o_,rfl,rfl⟩;obtain rfl:j=e:=o_;rw[y];simp only[go_sem,aS (bP _)];apply W _ _ _ _ _ rfl rfl;simp only[go_sem,aP,Z,Y,L];exact⟨b.length+7-(i+7),o_,i+7,A++[xA c],o_,o_,c_,by rw[eB];exact o,.inr (by rw[d])⟩;simp only[go_sem,aP,aT l,u,w1,S,R,Q,P,O,B];apply V _ _ _ _ _ rfl rfl;simp only[go_sem,aP,z];refine cO (λn s=>∃j:Nat,j<=e/\n=e-j/\s=⟨9,[(2,.ptr 4 0),(4,.v (.int .u64 ((xA (c.take j):Nat):Int))),(10,.ls 1 (bl c)),(11,iv e),(12,iv j)],[some (.box [.ls 1 (bl b)]),some (.box [.own 8]),none,some (.lp r [(2,.ptr 1 0)]),some (.box [.yl 3]),some (.box [.ls 1 (bl b)]),some (.box [iv 7]),none,some (.arr 1 (ul A))]⟩) e ⟨0,pR _,rfl,?_⟩ ?_;simp only[go_sem,uQ,xA];rintro n s ⟨j,X,rfl,rfl⟩;by_cases f:j<e;obtain⟨x,K,E,v2,F,g⟩:=w j f;simp only[go_sem,aT f,K,E,v2,↓F,↓g,fQ j o_];exact⟨e-(j+1),o_,j+1,o_,rfl,rfl⟩;obtain rfl:j=e:=o_;rw[y];simp only[go_sem,aS (bP _)];apply W _ _ _ _ _ rfl rfl;simp only[go_sem,aP,Z,Y,L];exact⟨b.length+7-(i+7),o_,i+7,A++[xA c],o_,o_,c_,by rw[eB];exact o,.inr (by rw[d])⟩;have t:eN (b.drop i)=[]:=by rw[LB o_];rfl
 rw[t,jO]at o;rw[<-o];rcases p with rfl|rfl;simp only[go_sem,aP,aS l,N,q2,U,T];simp only[go_sem,aP,aS l,N,q2,U,T]
def aAM(b:V_)(d:xN b)(c:b.length<=1000000):aA PQ G nP [.cl nS [.ptr 0 0]] [some (.box [.ls 1 (bl b)])] λr a=>r=.own 1/\a=[some (.box [.ls 1 (bl b)]),some (.arr 1 (ul (eN b)))]:=by refine aC As ?_;simp only[go_sem];apply aG [0] (aB _) d_ s_ rfl rfl (aAL b d c);rintro r a ⟨rfl,rfl⟩;simp only[go_sem]
def Ur(S:ByteArray)(a b:V_)(l:lJ S=bl a)(i:S.size=a.length)(k:xN a)(d:1<=a.length)(j:a.length<=7)(c:xN b)(e:b.length<=1000000):aA PQ G zZ [.v (.string S),.ls 1 (bl b)] [] λr f=>r=.v (fu (Uj a b))/\f=[]:=by
 apply aC LZ;have h:=Hc b;have q:=J1 c;have g:IntKind.u64.wrap (b.length:Int)=(b.length:Int):=bS _ o_;have p:(eN b).length+1<=maxLen:=g_;have o:((eN b).length+1)*8<=140737488355328:=o_;simp only[go_sem];apply kM (Y5 _);simp only[go_sem];apply aG [0] (aB _) d_ s_ rfl rfl (aAM b c e);rintro r f ⟨rfl,rfl⟩;have m:ul (eN b)++[[AV.v (.int .u64 (b.length:Int))]]=ul (eN b++[b.length]):=s_;simp only[go_sem,aP,g,p,o];rw[m];refine iJ (aB _) rfl rfl (aH4 S a (eN b++[b.length]) l i k d j (λn s=>?_) c_) ?_;grind;simp only[go_sem];rfl
def OpM.B(o:OpM):V_ :=
 cZ [o.By,o.Seq,o.Kind,o.At]++(nA Id.B o.Past++(cZ [o.Device,o.Old,o.Member,o.Role]++(nA NodeM.B o.Path++(o.Epoch.B++(bN o.N++(rD o.Body++(nA gJ o.Refs++(o.Of.B++(nA bN o.Guards++(cZ [o.Need,o.Wait]++(nA BoxM.B o.Boxes++(gJ o.Pub++nA SealM.B o.Hist))))))))))))
def aGd:cZ []=[]:=rfl
def uC(x:Int)(l:B_):cZ (x::l)=bN x++cZ l:=by simp[cZ]
def OU{l:B_}{i:Nat}(h:i<l.length):cZ (l.take (i+1))=cZ (l.take i)++bN l[i]:=by rw[lB h,OS]
def aDl(A:V_)(l:B_):Nat->aK|0=>[some (.arr 1 (l.map λn=>[iv n])),some (.box [.ptr 2 0]),some (.box [.own 3]),some (.arr 1 (bl A))]|i+1=>[some (.arr 1 (l.map λn=>[iv n])),some (.box [.ptr 2 0]),some (.box [.own 4]),none,some (.arr 1 (bl (A++cZ (l.take (i+1)))))]
def Sh(A:V_)(l:B_):aDl A l 0=[some (.arr 1 (l.map λn=>[iv n])),some (.box [.ptr 2 0]),some (.box [.own 3]),some (.arr 1 (bl A))]:=rfl
def ML(A:V_)(l:B_)(i:Nat):aDl A l (i+1)=[some (.arr 1 (l.map λn=>[iv n])),some (.box [.ptr 2 0]),some (.box [.own 4]),none,some (.arr 1 (bl (A++cZ (l.take (i+1)))))]:=rfl
def aDm(a b c d:Int):Nat->aK|0=>[some (.arr 1 [[iv a],[iv b],[iv c],[iv d]]),some (.box [.ptr 2 0]),some (.box [.v (.slice none 0 0)])]|i+1=>[some (.arr 1 [[iv a],[iv b],[iv c],[iv d]]),some (.box [.ptr 2 0]),some (.box [.own 3]),some (.arr 1 (bl (cZ ([a,b,c,d].take (i+1)))))]
def ZA(a b c d:Int):aDm a b c d 0=[some (.arr 1 [[iv a],[iv b],[iv c],[iv d]]),some (.box [.ptr 2 0]),some (.box [.v (.slice none 0 0)])]:=rfl
def B0(a b c d:Int)(i:Nat):aDm a b c d (i+1)=[some (.arr 1 [[iv a],[iv b],[iv c],[iv d]]),some (.box [.ptr 2 0]),some (.box [.own 3]),some (.arr 1 (bl (cZ ([a,b,c,d].take (i+1)))))]:=rfl
def aDn(A:V_)(l:B_)(k:A.length<=600000)(j:l.length<=1000)(g:∀x∈l,mZ x):aA PQ G uI [.own 0,.ptr 1 0] [some (.arr 1 (l.map λn=>[iv n])),some (.box [.ptr 2 0]),some (.box [.own 3]),some (.arr 1 (bl A))] λr c=>c=[some (.arr 1 (l.map λn=>[iv n])),some (.box [.ptr 2 0]),some (.box [.own 4]),none,some (.arr 1 (bl (A++cZ l)))]\/(l=[]/\c=[some (.arr 1 (l.map λn=>[iv n])),some (.box [.ptr 2 0]),some (.box [.own 3]),some (.arr 1 (bl A))]):=by
 apply aC FB;simp only[go_sem,aP];refine aQ l.length (λi=>⟨4,[(1,.ptr 1 0),(5,.own 0),(6,iv l.length),(7,iv i)],aDl A l i⟩) (λ_=>True) ?_ trivial ?_ ?_;simp only[go_sem,Sh];intro i a _;have d:(l.map λn=>[iv n])[i]?=some [iv l[i]]:=aO _ l i a;have b:=g l[i] (eQ a);have e:=fQ i o_
 cases i with
 |zero=>
  have h:cZ (l.take (0+1))=bN l[0]:=by rw[OU a];simp[cZ]
  rw[Sh,ML,h];simp only[go_sem,aP,show decide ((0:Int)<(l.length:Int))=true from decide_eq_true o_,a,d];apply aG [2,3] (aB _) d_ s_ rfl rfl (zD A l[0] o_ b.1 b.2);rintro r c rfl;simp only[go_sem,bZ]
 |succ i=>
  have f:=lF (l.take (i+1));rw[eC]at f;rw[ML,ML,OU a];generalize cZ (l.take (i+1))=X at *
  generalize l[i+1]=x at *
  simp only[go_sem,aP,aT a,a,d];rw[<-bZ];apply aG [2,4] (aB _) d_ s_ rfl rfl (zD (A++X) x k6 b.1 b.2);rintro r c rfl;simp only[go_sem,bZ,eB,e]
 intro _
 cases l with
 |nil=>simp only[gQ,Sh,go_sem];exact .inr trivial|cons x l=>
  simp only[sE];rw[ML,show(x::l).take (l.length+1)=x::l from sG s_];simp only[go_sem,show decide (((l.length+1:Nat):Int)<((l.length+1:Nat):Int))=false from decide_eq_false o_];exact .inl trivial
def aFA(A:V_)(a b c d:Int)(f:A.length<=600000)(k:mZ a)(j:mZ b)(i:mZ c)(g:mZ d):aA PQ G uI [.own 0,.ptr 1 0] [some (.arr 1 [[iv a],[iv b],[iv c],[iv d]]),some (.box [.ptr 2 0]),some (.box [.own 3]),some (.arr 1 (bl A))] λr e=>e=[some (.arr 1 [[iv a],[iv b],[iv c],[iv d]]),some (.box [.ptr 2 0]),some (.box [.own 4]),none,some (.arr 1 (bl (A++cZ [a,b,c,d])))]:=
 (aDn (G:=G) A [a,b,c,d] f s_ (by simp only[cS,pP,or_false];rintro x (rfl|rfl|rfl|rfl)<;>assumption)).mono λr e h=>h_
def aFB(A:V_)(a b:Int)(d:A.length<=600000)(f:mZ a)(e:mZ b):aA PQ G uI [.own 0,.ptr 1 0] [some (.arr 1 [[iv a],[iv b]]),some (.box [.ptr 2 0]),some (.box [.own 3]),some (.arr 1 (bl A))] λr c=>c=[some (.arr 1 [[iv a],[iv b]]),some (.box [.ptr 2 0]),some (.box [.own 4]),none,some (.arr 1 (bl (A++cZ [a,b])))]:=
 (aDn (G:=G) A [a,b] d s_ (by simp only[cS,pP,or_false];rintro x (rfl|rfl)<;>assumption)).mono λr c h=>h_
def aFC(a b c d:Int)(j:mZ a)(h:mZ b)(g:mZ c)(f:mZ d):aA PQ G uI [.own 0,.ptr 1 0] [some (.arr 1 [[iv a],[iv b],[iv c],[iv d]]),some (.box [.ptr 2 0]),some (.box [.v (.slice none 0 0)])] λr e=>e=[some (.arr 1 [[iv a],[iv b],[iv c],[iv d]]),some (.box [.ptr 2 0]),some (.box [.own 3]),some (.arr 1 (bl (cZ [a,b,c,d])))]:=by refine aC FB ?_;have m:=bX a;have l:=bX b;have k:=bX c;simp only[go_sem];refine aQ 4 (λi=>⟨3,[(1,.ptr 1 0),(5,.own 0),(6,iv 4),(7,iv i)],aDm a b c d i⟩) (λ_=>True) ?_ trivial ?_ ?_;simp only[go_sem,ZA];intro i n _;rcases i with _|_|_|_|i;rw[ZA,B0];simp only[go_sem];apply aG [2] (aB _) d_ s_ rfl rfl (aI2 a j.1 j.2);rintro r e rfl;simp only[go_sem,uC,aGd];rw[B0,B0];simp only[go_sem,uC,aGd];apply aG [2,3] (aB _) d_ s_ rfl rfl (zD (bN a) b o_ h.1 h.2);rintro r e rfl;simp only[go_sem,uC,aGd,bZ];rw[B0,B0];simp only[go_sem,uC,aGd];rw[<-bZ];apply aG [2,3] (aB _) d_ s_ rfl rfl (zD (bN a++bN b) c k6 g.1 g.2);rintro r e rfl;simp only[go_sem,uC,aGd,bZ,eB];rw[B0,B0];simp only[go_sem,uC,aGd];rw[<-bZ,<-bZ];apply aG [2,3] (aB _) d_ s_ rfl rfl (zD (bN a++(bN b++bN c)) d (by rw[dZ,dZ];omega) f.1 f.2);rintro r e rfl;simp only[go_sem,uC,aGd,bZ,eB];omega;intro _;rw[B0];simp only[go_sem]
def ZB(o:OpM)(a:o.ok):aA PQ G F9 [.ag o.A] [] λr b=>r=.ptr 0 0/\b=[some (.box [.own 1]),some (.arr 1 (bl o.B))]:=by
 apply aC SD;have c:∀n,n∈[o.By,o.Seq,o.Kind,o.At,o.Device,o.Old,o.Member,o.Role,o.N,o.Need,o.Wait]->mZ n:=a.ints;have b1:(cZ [o.By,o.Seq,o.Kind,o.At]).length<=40:=lF [o.By,o.Seq,o.Kind,o.At];have b2:(nA Id.B o.Past).length<=30010:=dh;have b3:(cZ [o.Device,o.Old,o.Member,o.Role]).length<=40:=lF [o.Device,o.Old,o.Member,o.Role];have b4:(nA NodeM.B o.Path).length<=40210:=og;have b5:o.Epoch.B.length<=30:=Id.B_len _;have b6:(bN o.N).length<=10:=bX _;have b7:(rD o.Body).length<=1010:=d8;have b8:(nA gJ o.Refs).length<=10010:=dw;have b9:o.Of.B.length<=30:=Id.B_len _;have aa:(nA bN o.Guards).length<=10010:=dc;have Z:(cZ [o.Need,o.Wait]).length<=20:=lF [o.Need,o.Wait];have Y:(nA BoxM.B o.Boxes).length<=40010:=dp;have X:(gJ o.Pub).length<=10:=iP _;have W:(nA SealM.B o.Hist).length<=104010:=ot;simp only[go_sem];apply aG [4,2,1] (aB _) d_ s_ rfl rfl (aFC o.By o.Seq o.Kind o.At (c _ s_) (c _ s_) (c _ s_) (c _ s_));rintro r b rfl;obtain⟨Q,y⟩:∃Q,Q=cZ [o.By,o.Seq,o.Kind,o.At]:=⟨_,rfl⟩
 rw[<-y];have l1:Q.length<=40:=by rw[y];exact b1
 simp only[go_sem];apply aG [1,5] (aB _) d_ s_ rfl rfl (aFz Q o.Past o_ a.past.1 a.past.2);rintro r b rfl;obtain⟨P,I⟩:∃P,P=Q++(nA Id.B o.Past):=⟨_,rfl⟩
 rw[<-I];have l2:P.length<=30050:=p_;simp only[go_sem];apply aG [7,2,1,6] (aB _) d_ s_ rfl rfl (aFA P o.Device o.Old o.Member o.Role o_ (c _ s_) (c _ s_) (c _ s_) (c _ s_));rintro r b rfl;obtain⟨O,H⟩:∃O,O=P++(cZ [o.Device,o.Old,o.Member,o.Role]):=⟨_,rfl⟩
 rw[<-H];have l3:O.length<=30090:=p_;simp only[go_sem];apply aG [1,8,2,3] (aB _) d_ s_ rfl rfl (aAJ O o.Path o_ a.path.1 a.path.2);rintro r b rfl;obtain⟨M,F⟩:∃M,M=O++(nA NodeM.B o.Path):=⟨_,rfl⟩
 rw[<-F];have l4:M.length<=70300:=p_;simp only[go_sem];apply aG [1,9] (aB _) d_ s_ rfl rfl (aFy M o.Epoch o_ a.epoch);rintro r b rfl;obtain⟨L,E⟩:∃L,L=M++o.Epoch.B:=⟨_,rfl⟩
 rw[<-E];have l5:L.length<=70330:=p_;simp only[go_sem];apply aG [1,10] (aB _) d_ s_ rfl rfl (zD L o.N o_ (c o.N s_).1 (c o.N s_).2);rintro r b rfl;obtain⟨D,w⟩:∃D,D=L++(bN o.N):=⟨_,rfl⟩
 rw[<-w];have l6:D.length<=70340:=by rw[w,dZ];omega
 simp only[go_sem,↓FX];apply aG [1,11] (aB _) d_ s_ rfl rfl (aDf D (bsN o.Body) o.Body (Dr a.body.2) (I5 _) o_ (by have:=a.body.1;omega));rintro r b rfl;obtain⟨C,v⟩:∃C,C=D++rD o.Body:=⟨_,rfl⟩
 rw[show D++(bN (o.Body.length:Int)++o.Body)=C from v.symm];have l7:C.length<=71350:=by rw[v,dZ];omega
 simp only[go_sem];apply aG [1,12] (aB _) d_ s_ rfl rfl (aDj C o.Refs o_ a.refs.1 a.refs.2);rintro r b rfl;obtain⟨K,u⟩:∃K,K=C++(nA gJ o.Refs):=⟨_,rfl⟩
 rw[<-u];have l8:K.length<=81360:=by rw[u,dZ];omega
 simp only[go_sem];apply aG [1,13] (aB _) d_ s_ rfl rfl (aFy K o.Of o_ a.of);rintro r b rfl;obtain⟨J,t⟩:∃J,J=K++o.Of.B:=⟨_,rfl⟩
 rw[<-t];have l9:J.length<=81390:=by rw[t,dZ];omega
 simp only[go_sem];apply aG [1,14] (aB _) d_ s_ rfl rfl (aDi J o.Guards o_ a.guards.1 a.guards.2);rintro r b rfl;obtain⟨s,j⟩:∃s,s=J++(nA bN o.Guards):=⟨_,rfl⟩
 rw[<-j];have V:s.length<=91400:=by rw[j,dZ];omega
 simp only[go_sem];apply aG [16,2,1,15] (aB _) d_ s_ rfl rfl (aFB s o.Need o.Wait o_ (c _ s_) (c _ s_));rintro r b rfl;obtain⟨q,i⟩:∃q,q=s++(cZ [o.Need,o.Wait]):=⟨_,rfl⟩
 rw[<-i];have U:q.length<=91420:=by rw[i,dZ];omega
 simp only[go_sem];apply aG [1,17,2] (aB _) d_ s_ rfl rfl (Um q o.Boxes o_ a.boxes.1 a.boxes.2);rintro r b rfl;obtain⟨p,g⟩:∃p,p=q++(nA BoxM.B o.Boxes):=⟨_,rfl⟩
 rw[<-g];have T:p.length<=131430:=by rw[g,dZ];omega
 simp only[go_sem];apply aG [1,18] (aB _) d_ s_ rfl rfl (I3 p o.Pub o_ (a.nums o.Pub s_));rintro r b rfl;obtain⟨m,e⟩:∃m,m=p++(gJ o.Pub):=⟨_,rfl⟩
 rw[<-e];have S:m.length<=131440:=by rw[e,dZ];omega
 simp only[go_sem];apply aG [1,19,2] (aB _) d_ s_ rfl rfl (aAK m o.Hist o_ a.hist.1 a.hist.2);rintro r b rfl;obtain⟨z,d⟩:∃z,z=m++(nA SealM.B o.Hist):=⟨_,rfl⟩
 rw[<-d];have R:z.length<=235450:=by rw[d,dZ];omega
 simp only[go_sem];rw[d,e,g,i,j,t,u,v,w,E,F,H,I,y];simp only[OpM.B,eB]
def OpM.B_len(o:OpM)(a:o.ok):o.B.length<=300000:=by
 have t:(cZ [o.By,o.Seq,o.Kind,o.At]).length<=40:=lF [o.By,o.Seq,o.Kind,o.At];have s:(nA Id.B o.Past).length<=30010:=dh;have r:(cZ [o.Device,o.Old,o.Member,o.Role]).length<=40:=lF [o.Device,o.Old,o.Member,o.Role];have q:(nA NodeM.B o.Path).length<=40210:=og;have p:o.Epoch.B.length<=30:=Id.B_len _;have n:(bN o.N).length<=10:=bX _;have m:(rD o.Body).length<=1010:=d8;have j:(nA gJ o.Refs).length<=10010:=dw;have i:o.Of.B.length<=30:=Id.B_len _;have g:(nA bN o.Guards).length<=10010:=dc;have e:(cZ [o.Need,o.Wait]).length<=20:=lF [o.Need,o.Wait];have d:(nA BoxM.B o.Boxes).length<=40010:=dp;have c:(gJ o.Pub).length<=10:=iP _;have b:(nA SealM.B o.Hist).length<=104010:=ot;grind[OpM.B,List.length_append]
def Ds{α:Type}{f:α->V_}{l:List α}(e:l.length<=1000000)(h:∀x∈l,xN (f x)):xN (nA f l):=by unfold nA;refine kN (Dp o_ o_) λx d=>?_;obtain⟨y,c,a⟩:=Kh.1 d;obtain⟨z,b,rfl⟩:=dF.1 c;exact h z b x a
def OV{l:B_}(h:∀x∈l,mZ x):xN (cZ l):=λx d=>by obtain⟨y,c,a⟩:=Kh.1 d;obtain⟨z,b,rfl⟩:=dF.1 c;exact Dp (h z b).1 (h z b).2 x a
def aDo{l:V_}(h:∀x∈l,x<2^64):xN (mP l):=λx d=>by obtain⟨y,c,a⟩:=Kh.1 d;obtain⟨z,b,rfl⟩:=dF.1 c;exact GG (h z b) x a
def Id.B_ok{x:Id}(h:x.ok):xN x.B:=kN (kN (Dp h.1.1 h.1.2) (Dp h.2.1.1 h.2.1.2)) (GG (by have:=h.2.2;omega))
def aDp{b:BoxM}(h:b.ok):xN b.B:=aDo λx a=>by obtain⟨h1,h2,h3,c⟩:=h;simp_all;omega
def Us{b:V_}(a:b.length<=1000000)(h:xN b):xN (rD b):=kN (Dp o_ o_) h
def OpM.B_ok(o:OpM)(b:o.ok):xN o.B:=by have c:=b.ints;unfold OpM.B;apply kN (OV λx a=>c x (by simp at a⊢;rcases a with h|h|h|h<;>simp[h]));apply kN (Ds (by have:=b.past.1;omega) λx a=>Id.B_ok (b.past.2 x a));apply kN (OV λx a=>c x (by simp at a⊢;rcases a with h|h|h|h<;>simp[h]));apply kN (Ds (by have:=b.path.1;omega) λx a=>kN (GG (b.path.2 x a).1) (Ds (by have:=(b.path.2 x a).2.1;omega) λy d=>aDp ((b.path.2 x a).2.2 y d)));apply kN (Id.B_ok b.epoch);apply kN (Dp (c o.N s_).1 (c o.N s_).2);apply kN (Us (by have:=b.body.1;omega) b.body.2);apply kN (Ds (by have:=b.refs.1;omega) λx a=>GG (b.refs.2 x a));apply kN (Id.B_ok b.of);apply kN (Ds (by have:=b.guards.1;omega) λx a=>Dp (b.guards.2 x a).1 (b.guards.2 x a).2);apply kN (OV λx a=>c x (by simp at a⊢;rcases a with h|h<;>simp[h]));apply kN (Ds (by have:=b.boxes.1;omega) λx a=>aDp (b.boxes.2 x a));apply kN (GG (b.nums o.Pub s_));exact Ds (by have:=b.hist.1;omega) λx a=>kN (Id.B_ok (b.hist.2 x a).1) (Us (by have:=(b.hist.2 x a).2.1;omega) (b.hist.2 x a).2.2)
def OpM.P(o:OpM):V_:=o.B++mP [o.SR,o.SS]
def lOp:V_:=[111,112]
def Si:V_:=[115,105,103,110,101,100]
def aI5:V_:=[115,105,103]
def C7(o:OpM):Id:=⟨o.By,o.Seq,((Uj lOp o.B).val:Nat)⟩
def TP(n:Nat):Fq:=⟨n%PP,zM _ d_⟩
def MN{n:Nat}(h:n<2305843009213693951):(TP n).val=n:=EZ h
def Sj(b:V_):Fq:=Uj Si b
def I8(r a:Nat)(b:V_):Fq:=FW aI5 [r,a,(Sj b).val]
def BW(a:Nat)(b:V_)(R S:Nat):Bool :=
 (decide (1<=a)&&decide (a<=2305843009213693950))&&(decide (1<=R)&&decide (R<=2305843009213693950))&&decide (S<=2305843009213693949) &&
 decide ((37:Fq)^S=TP R*TP a^(I8 R a b).val)
def Az{l:V_}(h:(l.all λx=>decide (x<256))=true):xN l:=λx a=>by simpa using oD.1 h x a
def Cr(a:Fq):a.val<2^64:=QQ a.isLt d_
def aFD(o:OpM)(a:o.ok):aA PQ G Ik [.ag o.A] [] λr T=>r=.ag (C7 o).A/\T=[]:=by refine aC WP ?_;have c:=o.B_len a;simp only[go_sem];apply kM (ZB o a);simp only[go_sem];apply aG [2,3] (aB _) d_ s_ rfl rfl (Y8 o.B o_);rintro r b ⟨rfl,rfl⟩;simp only[go_sem];apply cH (aB _) rfl rfl (Ur _ lOp o.B Y_ Y_ (Az d_) d_ d_ (o.B_ok a) o_);rintro r b ⟨rfl,rfl⟩;refine⟨x_,s_,?_⟩;simp only[go_sem];rfl
def aI6(a r:Nat)(b:V_)(e:a<2^64)(d:r<2^64)(f:xN b)(g:b.length<=1000000):aA PQ G E9 [uv a,uv r,.ls 1 (bl b)] [] λx T=>x=.tup [.v (fu (Sj b)),.v (fu (I8 r a b))]/\T=[]:=by refine aC OR ?_;simp only[go_sem];apply cX (Ur _ Si b Y_ Y_ (Az d_) d_ d_ f o_);simp only[go_sem];refine cH (aB _) rfl rfl (aH4 _ aI5 [r,a,(Sj b).val] Y_ Y_ (Az d_) d_ d_ (λn c=>?_) s_) ?_;simp only[cS,pP,or_false]at c;rcases c with rfl|rfl|rfl;exact d;exact e;exact Cr _;rintro x h ⟨rfl,rfl⟩;refine⟨x_,s_,?_⟩;simp only[go_sem];rfl
def OW(n lo a:Nat):aA PQ G Ap [uv n,uv lo,uv a] [] λr T=>r=.v (.bool (decide (lo<=n)&&decide (n<=a)))/\T=[]:=by
 apply aC I2;have c:decide ((lo:Int)<=(n:Int))=decide (lo<=n):=by rw[CT];simp
 have b:decide ((n:Int)<=(a:Int))=decide (n<=a):=by rw[CT];simp
 simp only[go_sem,ge_iff_le,c];cases decide (lo<=n)<;>simp only[go_sem,undef,b,mF,lR]
def Sk(a:Nat)(b:V_)(R S:Nat)(d:a<2^64)(h:R<2^64)(g:S<2^64)(f:xN b)(e:b.length<=1000000):aA PQ G DX [uv a,.ls 1 (bl b),.ag [uv R,uv S]] [] λr T=>r=.v (.bool (BW a b R S))/\T=[]:=by
 apply aC La;simp only[go_sem];apply cX (OW a 1 2305843009213693950);cases h1:(decide (1<=a)&&decide (a<=2305843009213693950));simp only[go_sem,undef,BW,h1,lR];simp only[go_sem];apply cX (OW R 1 2305843009213693950);cases h2:(decide (1<=R)&&decide (R<=2305843009213693950));simp only[go_sem,undef,BW,h1,h2,lR,Ea];simp only[go_sem];apply cX (OW S 0 2305843009213693949);cases h3:decide (S<=2305843009213693949);simp only[go_sem,BW,h1,h2,h3,lR,Ea,pR,mF];simp only[go_sem,pR];apply cX (aI6 a R b d h f e);simp only[zJ,decide_eq_true_eq]at h1 h2 h3;have k:uv a=.v (fu (TP a)):=by simp only[fu,MN (o_:a<2305843009213693951)]
 have j:uv R=.v (fu (TP R)):=by simp only[fu,MN (o_:R<2305843009213693951)]
 have c:AV.v (.int .u64 37)=.v (fu (37:Fq)):=rfl;simp only[go_sem];apply aU (R:=.v (fu ((37:Fq)^S))) (aB _) rfl (aD8 (37:Fq) S g) rfl;simp only[go_sem];apply aU (R:=.v (fu (TP a^(I8 R a b).val))) (aB _) rfl (by rw[k];exact aD8 (TP a) (I8 R a b).val (Cr _)) rfl;simp only[go_sem];apply aU (R:=.v (fu (TP R*TP a^(I8 R a b).val))) (aB _) rfl (by rw[j];exact Ud (TP R) _) rfl;have i:∀x y:Fq,((x.val:Int)==(y.val:Int))=decide (x=y):=λx y=>by rw[CT];simp[Fin.ext_iff];omega
 simp only[go_sem,i,BW];simp[h1,h2,h3]
def aDq(c:CardM)(o:OpM)(a:o.ok)(b:c.Sign<2^64):aA PQ G E1 [.ag c.A,.ag o.A] [] λr T=>r=.v (.bool ((o.By==c.Device)&&BW c.Sign o.B o.SR o.SS))/\T=[]:=by refine aC Nl ?_;have f:=o.B_len a;have h1:=a.nums o.SR s_;have h2:=a.nums o.SS s_;simp only[go_sem,CardM.A_def];cases e:(o.By==c.Device);simp only[go_sem,undef,lR];simp only[go_sem];apply kM (ZB o a);simp only[go_sem];apply aG [2,3] (aB _) d_ s_ rfl rfl (Y8 o.B o_);rintro r d ⟨rfl,rfl⟩;simp only[go_sem];apply cH (aB _) rfl rfl (Sk c.Sign o.B o.SR o.SS b h1 h2 (o.B_ok a) o_);rintro r d ⟨rfl,rfl⟩;refine⟨x_,s_,?_⟩;simp only[go_sem,mF]
def aFE(x:Id)(d:x.ok):aA PQ G qS [.ag x.A] [] λr e=>r=.own 0/\e=[some (.arr 1 (bl x.B))]:=by have:=aFw (G:=G) x.a x.b x.c.toNat d.1.1 d.1.2 d.2.1.1 d.2.1.2 (by have:=d.2.2;omega);rw[Int.toNat_of_nonneg d.2.2.1]at this;exact this
def J2(o:OpM)(j:o.ok):aA PQ G xQ [.ag o.A] [] λr T'=>r=.own 0/\T'=[some (.arr 1 (bl o.B))]:=by
 refine aC Nc ?_;have y:∀n,n∈[o.By,o.Seq,o.Kind,o.At,o.Device,o.Old,o.Member,o.Role,o.N,o.Need,o.Wait]->mZ n:=j.ints;have y1:=j.past.1;have y2:=j.path.1;have y3:=j.refs.1;have y4:=j.guards.1;have y5:=j.boxes.1;have y6:=j.hist.1;have y7:=j.body.1;have z1:(cZ [o.By,o.Seq,o.Kind,o.At,(o.Past.length:Int)]).length<=50:=lF [o.By,o.Seq,o.Kind,o.At,(o.Past.length:Int)];have z2:(cZ [o.Device,o.Old,o.Member,o.Role,(o.Path.length:Int)]).length<=50:=lF [o.Device,o.Old,o.Member,o.Role,(o.Path.length:Int)];have z3:o.Epoch.B.length<=30:=Id.B_len _;have z4:(bN o.N).length<=10:=bX _;have z5:(rD o.Body).length<=1010:=by unfold rD;rw[dZ];have:=bX (o.Body.length:Int);omega
 have z6:(bN (o.Refs.length:Int)).length<=10:=bX _;have z7:(mP o.Refs).length<=10000:=by have:=AY o.Refs;omega
 have z8:o.Of.B.length<=30:=Id.B_len _;have z9:(bN (o.Guards.length:Int)).length<=10:=bX _;have am:(cZ o.Guards).length<=10000:=by have:=lF o.Guards;omega
 have al:(cZ [o.Need,o.Wait]).length<=20:=lF [o.Need,o.Wait];have ak:(vJ o.Boxes).length<=40010:=by unfold vJ;rw[dZ];have:=bX (o.Boxes.length:Int);have:=I4 o.Boxes;omega
 have aj:(gJ o.Pub).length<=10:=iP _;have ai:(bN (o.Hist.length:Int)).length<=10:=bX _;have R:∀x∈o.Past,x.B.length<=30:=λx _=>Id.B_len x;have Q:∀x∈o.Path,x.B.length<=4020:=λx h=>I6 (j.path.2 x h);have S:∀x∈o.Hist,x.B.length<=1040:=λx h=>I7 (j.hist.2 x h);have fl:∀{k:Nat}{W:V_},k<100000000->W.length<=k->(∀e∈bl W,∀c∈e,∃x,c=AV.v x):=λ_ _ e he c hc=>by obtain⟨n,_,rfl⟩:=dF.1 he;exact⟨_,cA.1 hc⟩
 simp only[go_sem,aP];refine cH (aB _) rfl rfl (Sg [o.By,o.Seq,o.Kind,o.At,(o.Past.length:Int)] (by simp) (λn O=>?_)) ?_;simp only[cS,pP,or_false]at O;rcases O with h|h|h|h|h;exact h ▸ y _ (by simp);exact h ▸ y _ (by simp);exact h ▸ y _ (by simp);exact h ▸ y _ (by simp);subst h;exact⟨by omega,by omega⟩;rintro r T' ⟨rfl,rfl⟩;refine⟨by simp only[fX],by simp only[cA,xH,forall_eq];exact fl (k:=50) (by decide) z1,?_⟩;obtain⟨M,af⟩:∃M,M=cZ [o.By,o.Seq,o.Kind,o.At,(o.Past.length:Int)]:=⟨_,rfl⟩
 rw[<-af];have l1:M.length<=50:=by rw[af];exact z1
 simp only[go_sem];refine aQ o.Past.length (λi=>⟨0,[(1,.ptr 0 0),(3,.own 1),(4,iv i)],[some (.box o.A),some (.arr 1 (bl (M++((o.Past.take i).map Id.B).flatten)))]⟩) (λ_=>True) ?_ trivial ?_ ?_;simp only[go_sem,uQ,B9,jO];intro i l _;have g0:(o.Past.map Id.A)[i]?=some o.Past[i].A:=aO _ o.Past i l;have hk:=R o.Past[i] (eQ l);have k1:=AF R i (H9 l);have P:M++((o.Past.take (i+1)).map Id.B).flatten=(M++((o.Past.take i).map Id.B).flatten)++Id.B o.Past[i]:=by rw[Dq _ o.Past i l];simp only[eB]
 have k3:(M++((o.Past.take i).map Id.B).flatten).length<=30060:=by rw[dZ];omega
 rw[P];clear P;have z:=j.past.2 o.Past[i] (eQ l);generalize M++((o.Past.take i).map Id.B).flatten=X at *
 generalize o.Past[i]=x at *
 have ws:=fQ i (by omega);simp only[go_sem,aP,aT l,g0];have g:X.length+x.B.length<=140737488355328:=by omega
 have f:X.length+x.B.length<=maxLen:=by unfold maxLen;omega
 have d:(X.length+x.B.length)*1<=140737488355328:=by omega
 refine kM (aFE x z) ?_;simp only[go_sem,aP,f,d,ws,bZ];intro _;rw[dE];obtain⟨A2,ae⟩:∃A2,A2=M++(o.Past.map Id.B).flatten:=⟨_,rfl⟩
 rw[<-ae];have l2:A2.length<=30050:=by rw[ae,dZ];have:=OT R;omega
 simp only[go_sem,aP,aS (bP _)];have g:A2.length+(cZ [o.Device,o.Old,o.Member,o.Role,(o.Path.length:Int)]).length<=140737488355328:=by omega
 have f:A2.length+(cZ [o.Device,o.Old,o.Member,o.Role,(o.Path.length:Int)]).length<=maxLen:=by unfold maxLen;omega
 have d:(A2.length+(cZ [o.Device,o.Old,o.Member,o.Role,(o.Path.length:Int)]).length)*1<=140737488355328:=by omega
 refine cH (aB _) rfl rfl (Sg [o.Device,o.Old,o.Member,o.Role,(o.Path.length:Int)] (by simp) (λn O=>?_)) ?_;simp only[cS,pP,or_false]at O;rcases O with h|h|h|h|h;exact h ▸ y _ (by simp);exact h ▸ y _ (by simp);exact h ▸ y _ (by simp);exact h ▸ y _ (by simp);subst h;exact⟨by omega,by omega⟩;rintro r T' ⟨rfl,rfl⟩;refine⟨by simp only[fX],by simp only[cA,xH,forall_eq];exact fl (k:=50) (by decide) (by omega),?_⟩;simp only[go_sem,aP,f,d];rw[<-bZ];obtain⟨L,ad⟩:∃L,L=A2++(cZ [o.Device,o.Old,o.Member,o.Role,(o.Path.length:Int)]):=⟨_,rfl⟩
 rw[<-ad];have l3:L.length<=30100:=by rw[ad,dZ];omega
 clear g f d;refine aQ o.Path.length (λi=>⟨0,[(1,.ptr 0 0),(3,.own 1),(5,iv i)],[some (.box o.A),some (.arr 1 (bl (L++((o.Path.take i).map NodeM.B).flatten)))]⟩) (λ_=>True) ?_ trivial ?_ ?_;simp only[go_sem,uQ,B9,jO]
 ·intro i l _;have g0:(o.Path.map NodeM.A)[i]?=some [uv o.Path[i].Pub,F5 o.Path[i].Boxes]:=aO _ o.Path i l;have hk:=Q o.Path[i] (eQ l);have k1:=AF Q i (H9 l);have P:L++((o.Path.take (i+1)).map NodeM.B).flatten=(L++((o.Path.take i).map NodeM.B).flatten)++NodeM.B o.Path[i]:=by rw[Dq _ o.Path i l];simp only[eB]
  have k3:(L++((o.Path.take i).map NodeM.B).flatten).length<=70310:=by rw[dZ];omega
  rw[P];clear P;have z:=j.path.2 o.Path[i] (eQ l);generalize L++((o.Path.take i).map NodeM.B).flatten=X at *
  generalize o.Path[i]=x at *
  have ws:=fQ i (by omega);simp only[go_sem,aP,aT l,g0];have u1:(gJ x.Pub).length<=10:=iP _;have u2:(vJ x.Boxes).length<=4010:=by unfold vJ;rw[dZ];have:=bX (x.Boxes.length:Int);have:=I4 x.Boxes;have:=z.2.1;omega
  have g:X.length+(gJ x.Pub).length<=140737488355328:=by omega
  have f:X.length+(gJ x.Pub).length<=maxLen:=by unfold maxLen;omega
  have d:(X.length+(gJ x.Pub).length)*1<=140737488355328:=by omega
  refine kM (Qx x.Pub z.1) ?_;simp only[go_sem,aP,g0,f,d];rw[<-bZ];obtain⟨Y,T⟩:∃Y,Y=X++(gJ x.Pub):=⟨_,rfl⟩
  rw[<-T];have lY:Y.length<=70320:=by rw[T,dZ];omega
  clear g f d;have g:Y.length+(vJ x.Boxes).length<=140737488355328:=by omega
  have f:Y.length+(vJ x.Boxes).length<=maxLen:=by unfold maxLen;omega
  have d:(Y.length+(vJ x.Boxes).length)*1<=140737488355328:=by omega
  refine kM (Y9 x.Boxes (by have:=z.2.1;omega) z.2.2) ?_;simp only[go_sem,aP,f,d,ws,bZ,NodeM.B];rw[T];simp only[bZ,eB]
  try rfl
 intro _;rw[dE];obtain⟨A4,ac⟩:∃A4,A4=L++(o.Path.map NodeM.B).flatten:=⟨_,rfl⟩
 rw[<-ac];have l4:A4.length<=70300:=by rw[ac,dZ];have:=OT Q;omega
 simp only[go_sem,aP,aS (bP _)];have g:A4.length+o.Epoch.B.length<=140737488355328:=by omega
 have f:A4.length+o.Epoch.B.length<=maxLen:=by unfold maxLen;omega
 have d:(A4.length+o.Epoch.B.length)*1<=140737488355328:=by omega
 refine kM (aFE o.Epoch j.epoch) ?_;simp only[go_sem,aP,f,d];rw[<-bZ];obtain⟨A5,ab⟩:∃A5,A5=A4++o.Epoch.B:=⟨_,rfl⟩
 rw[<-ab];have l5:A5.length<=70330:=by rw[ab,dZ];omega
 clear g f d;have g:A5.length+(bN o.N).length<=140737488355328:=by omega
 have f:A5.length+(bN o.N).length<=maxLen:=by unfold maxLen;omega
 have d:(A5.length+(bN o.N).length)*1<=140737488355328:=by omega
 refine kM (vI o.N (y o.N (by simp)).1 (y o.N (by simp)).2) ?_;simp only[go_sem,aP,f,d,↓FX];rw[<-bZ];obtain⟨A6,aa⟩:∃A6,A6=A5++(bN o.N):=⟨_,rfl⟩
 rw[<-aa];have l6:A6.length<=70340:=by rw[aa,dZ];omega
 clear g f d;have g:A6.length+(rD o.Body).length<=140737488355328:=by omega
 have f:A6.length+(rD o.Body).length<=maxLen:=by unfold maxLen;omega
 have d:(A6.length+(rD o.Body).length)*1<=140737488355328:=by omega
 refine kM (aDh (bsN o.Body) o.Body (Dr j.body.2) (I5 _) (by omega)) ?_;simp only[go_sem,aP,f,d];rw[<-bZ];obtain⟨A7,Z⟩:∃A7,A7=A6++(rD o.Body):=⟨_,rfl⟩
 rw[<-Z];have l7:A7.length<=71350:=by rw[Z,dZ];omega
 clear g f d;have g:A7.length+(bN (o.Refs.length:Int)).length<=140737488355328:=by omega
 have f:A7.length+(bN (o.Refs.length:Int)).length<=maxLen:=by unfold maxLen;omega
 have d:(A7.length+(bN (o.Refs.length:Int)).length)*1<=140737488355328:=by omega
 refine kM (vI (o.Refs.length:Int) (by omega) (by omega)) ?_;simp only[go_sem,aP,f,d];rw[<-bZ];obtain⟨A8,V⟩:∃A8,A8=A7++(bN (o.Refs.length:Int)):=⟨_,rfl⟩
 rw[<-V];have l8:A8.length<=71360:=by rw[V,dZ];omega
 clear g f d;have g:A8.length+(mP o.Refs).length<=140737488355328:=by omega
 have f:A8.length+(mP o.Refs).length<=maxLen:=by unfold maxLen;omega
 have d:(A8.length+(mP o.Refs).length)*1<=140737488355328:=by omega
 refine kM (aDg o.Refs (by omega) j.refs.2) ?_;simp only[go_sem,aP,f,d];rw[<-bZ];obtain⟨A9,U⟩:∃A9,A9=A8++(mP o.Refs):=⟨_,rfl⟩
 rw[<-U];have l9:A9.length<=81360:=by rw[U,dZ];omega
 clear g f d;have g:A9.length+o.Of.B.length<=140737488355328:=by omega
 have f:A9.length+o.Of.B.length<=maxLen:=by unfold maxLen;omega
 have d:(A9.length+o.Of.B.length)*1<=140737488355328:=by omega
 refine kM (aFE o.Of j.of) ?_;simp only[go_sem,aP,f,d];rw[<-bZ];obtain⟨w,K⟩:∃w,w=A9++o.Of.B:=⟨_,rfl⟩
 rw[<-K];have aw:w.length<=81390:=by rw[K,dZ];omega
 clear g f d;have g:w.length+(bN (o.Guards.length:Int)).length<=140737488355328:=by omega
 have f:w.length+(bN (o.Guards.length:Int)).length<=maxLen:=by unfold maxLen;omega
 have d:(w.length+(bN (o.Guards.length:Int)).length)*1<=140737488355328:=by omega
 refine kM (vI (o.Guards.length:Int) (by omega) (by omega)) ?_;simp only[go_sem,aP,f,d];rw[<-bZ];obtain⟨u,J⟩:∃u,u=w++(bN (o.Guards.length:Int)):=⟨_,rfl⟩
 rw[<-J];have av:u.length<=81400:=by rw[J,dZ];omega
 clear g f d;have g:u.length+(cZ o.Guards).length<=140737488355328:=by omega
 have f:u.length+(cZ o.Guards).length<=maxLen:=by unfold maxLen;omega
 have d:(u.length+(cZ o.Guards).length)*1<=140737488355328:=by omega
 refine kM (Sg o.Guards (by omega) j.guards.2) ?_;simp only[go_sem,aP,f,d];rw[<-bZ];obtain⟨t,I⟩:∃t,t=u++(cZ o.Guards):=⟨_,rfl⟩
 rw[<-I];have au:t.length<=91400:=by rw[I,dZ];omega
 clear g f d;have g:t.length+(cZ [o.Need,o.Wait]).length<=140737488355328:=by omega
 have f:t.length+(cZ [o.Need,o.Wait]).length<=maxLen:=by unfold maxLen;omega
 have d:(t.length+(cZ [o.Need,o.Wait]).length)*1<=140737488355328:=by omega
 refine cH (aB _) rfl rfl (Sg [o.Need,o.Wait] (by simp) (λn O=>?_)) ?_;simp only[cS,pP,or_false]at O;rcases O with h|h;exact h ▸ y _ (by simp);exact h ▸ y _ (by simp);rintro r T' ⟨rfl,rfl⟩;refine⟨by simp only[fX],by simp only[cA,xH,forall_eq];exact fl (k:=20) (by decide) (by omega),?_⟩;simp only[go_sem,aP,f,d];rw[<-bZ];obtain⟨s,H⟩:∃s,s=t++(cZ [o.Need,o.Wait]):=⟨_,rfl⟩
 rw[<-H];have ar:s.length<=91420:=by rw[H,dZ];omega
 clear g f d;have g:s.length+(vJ o.Boxes).length<=140737488355328:=by omega
 have f:s.length+(vJ o.Boxes).length<=maxLen:=by unfold maxLen;omega
 have d:(s.length+(vJ o.Boxes).length)*1<=140737488355328:=by omega
 refine kM (Y9 o.Boxes (by omega) j.boxes.2) ?_;simp only[go_sem,aP,f,d];rw[<-bZ];obtain⟨q,F⟩:∃q,q=s++(vJ o.Boxes):=⟨_,rfl⟩
 rw[<-F];have aq:q.length<=131430:=by rw[F,dZ];omega
 clear g f d;have g:q.length+(gJ o.Pub).length<=140737488355328:=by omega
 have f:q.length+(gJ o.Pub).length<=maxLen:=by unfold maxLen;omega
 have d:(q.length+(gJ o.Pub).length)*1<=140737488355328:=by omega
 refine kM (Qx o.Pub (j.nums o.Pub (by simp))) ?_;simp only[go_sem,aP,f,d];rw[<-bZ];obtain⟨p,E⟩:∃p,p=q++(gJ o.Pub):=⟨_,rfl⟩
 rw[<-E];have ap:p.length<=131440:=by rw[E,dZ];omega
 clear g f d;have g:p.length+(bN (o.Hist.length:Int)).length<=140737488355328:=by omega
 have f:p.length+(bN (o.Hist.length:Int)).length<=maxLen:=by unfold maxLen;omega
 have d:(p.length+(bN (o.Hist.length:Int)).length)*1<=140737488355328:=by omega
 refine kM (vI (o.Hist.length:Int) (by omega) (by omega)) ?_;simp only[go_sem,aP,f,d];rw[<-bZ];obtain⟨m,D⟩:∃m,m=p++(bN (o.Hist.length:Int)):=⟨_,rfl⟩
 rw[<-D];have ao:m.length<=131450:=by rw[D,dZ];omega
 clear g f d;refine aQ o.Hist.length (λi=>⟨0,[(1,.ptr 0 0),(3,.own 1),(6,iv i)],[some (.box o.A),some (.arr 1 (bl (m++((o.Hist.take i).map SealM.B).flatten)))]⟩) (λ_=>True) ?_ trivial ?_ ?_;simp only[go_sem,uQ,B9,jO]
 ·intro i l _;have g0:(o.Hist.map SealM.A)[i]?=some [.v (.int .i64 o.Hist[i].Of.a),.v (.int .i64 o.Hist[i].Of.b),.v (.int .u64 o.Hist[i].Of.c),.ls 1 (bl o.Hist[i].Body)]:=aO _ o.Hist i l;have hk:=S o.Hist[i] (eQ l);have k1:=AF S i (H9 l);have P:m++((o.Hist.take (i+1)).map SealM.B).flatten=(m++((o.Hist.take i).map SealM.B).flatten)++SealM.B o.Hist[i]:=by rw[Dq _ o.Hist i l];simp only[eB]
  have k3:(m++((o.Hist.take i).map SealM.B).flatten).length<=235460:=by rw[dZ];omega
  rw[P];clear P;have z:=j.hist.2 o.Hist[i] (eQ l);generalize m++((o.Hist.take i).map SealM.B).flatten=X at *
  generalize o.Hist[i]=x at *
  have ws:=fQ i (by omega);simp only[go_sem,aP,aT l,g0];have u1:x.Of.B.length<=30:=Id.B_len _;have u2:(rD x.Body).length<=1010:=by unfold rD;rw[dZ];have:=bX (x.Body.length:Int);have:=z.2.1;omega
  have g:X.length+x.Of.B.length<=140737488355328:=by omega
  have f:X.length+x.Of.B.length<=maxLen:=by unfold maxLen;omega
  have d:(X.length+x.Of.B.length)*1<=140737488355328:=by omega
  refine kM (aFE x.Of z.1) ?_;simp only[go_sem,aP,g0,f,d,↓FX];rw[<-bZ];obtain⟨Y,T⟩:∃Y,Y=X++x.Of.B:=⟨_,rfl⟩
  rw[<-T];have lY:Y.length<=235490:=by rw[T,dZ];omega
  clear g f d;have g:Y.length+(rD x.Body).length<=140737488355328:=by omega
  have f:Y.length+(rD x.Body).length<=maxLen:=by unfold maxLen;omega
  have d:(Y.length+(rD x.Body).length)*1<=140737488355328:=by omega
  refine kM (aDh (bsN x.Body) x.Body (Dr z.2.2) (I5 _) (by have:=z.2.1;omega)) ?_;simp only[go_sem,aP,f,d,ws,bZ,SealM.B];rw[T];simp only[bZ,eB]
  try rfl
 intro _;rw[dE];obtain⟨ah,C⟩:∃ah,ah=m++(o.Hist.map SealM.B).flatten:=⟨_,rfl⟩
 rw[<-C];have an:ah.length<=235450:=by rw[C,dZ];have:=OT S;omega
 simp only[go_sem,aP,aS (bP _)];rw[C,D,E,F,H,I,J,K,U,V,Z,aa,ab,ac,ad,ae,af];simp only[OpM.B,nA,vJ,eB,jO,cZ,mP,fG,uP,zK,B9]
end Hud
