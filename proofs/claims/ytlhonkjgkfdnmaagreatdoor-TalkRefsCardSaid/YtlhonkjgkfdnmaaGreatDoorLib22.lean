import Derived.Test.YtlhonkjgkfdnmaaGreatDoorLib13
import Derived.Test.YtlhonkjgkfdnmaaGreatDoorLib16
import Derived.Test.YtlhonkjgkfdnmaaGreatDoorLib19
import Derived.Test.YtlhonkjgkfdnmaaGreatDoorLib20
set_option linter.all false
set_option maxHeartbeats 40000000
namespace Hud
set_option maxRecDepth 99999
open Go
def Sc:=eVf (cF F7 [])
def LX:=eVf (cF zY [])
def Sd:=eVf (cF AW [])
def Pv:=eVf (cF HN [])
def Wz:=eVf (cF MA [])
def OK:=eVf (cF E6 [])
def W0:=eVf (cF MB [])
def OL:=eVf (cF kY [])
def OM:=eVf (cF qS [(2,none,1)])
def Se:=eVf (cF uH [(2,none,1),(3,none,1)])
def LY:=eVf (cF iM [])
def ON:=eVf (cF E4 [])
def OO:=eVf (cF Bl [])
def Pw:=eVf (cF DU [])
end Hud
namespace Hud
open Go
variable{G:L_}
def Do:Nat->Nat->V_|0,k=>[k]|n+1,k=>if 127<k then(k%128+128)::Do n (k/128) else [k]
def gJ(k:Nat):V_:=Do 9 k
def W3(n:Int):Nat:=if n<0 then(2*(-(n+1))+1).toNat else(2*n).toNat
def OP{n:Int}(h1:-9223372036854775808<=n)(h2:n<=2^63-1):W3 n<2^64:=by grind[W3]
def bN(n:Int):V_:=gJ (W3 n)
def Y7:∀(n k:Nat),k<2*128^n->xN (Do n k)|0,k,h=>λx a=>by simp[Do]at a;subst a;simp at h;omega| n+1,k,h=>by simp only[Do];split;intro x a;rcases cS.1 a with rfl|a;omega;exact Y7 n (k/128) (by rw[QM]at h;omega) x a;intro x a;simp_all;omega
def Ui:∀(n k:Nat),(Do n k).length<=n+1|0,k=>by simp[Do]|n+1,k=>by simp only[Do];split;have:=Ui n (k/128);simp;omega;simp
def GG{k:Nat}(h:k<2^64):xN (gJ k):=Y7 9 k o_
def iP(k:Nat):(gJ k).length<=10:=Ui 9 k
def GI(x:Nat)(h:x<256):IntKind.u8.wrap (x:Int)=(x:Int):=dg
def Qx (k:Nat) (o:k<2^64):aA PQ G uH [.v (.int .u64 (k:Int))] [] λr n=>r=.own 0/\n=[some (.arr 1 (bl (gJ k)))]:=by
 apply aC Se;simp only[go_sem];refine jG (λs=>∃(A:V_)(j:Nat),A++[j]=gJ k/\j<=127/\s=⟨0,[(0,.v (.int .u64 (j:Int))),(3,.own 0)],[some (.arr 1 (bl A))]⟩) ?_ ?_;refine cO (λm s=>∃(A:V_)(j:Nat),A++Do m j=gJ k/\j<2*128^m/\A.length+m<=9/\s=⟨0,[(0,.v (.int .u64 (j:Int))),(3,.own 0)],[some (.arr 1 (bl A))]⟩) 9 ⟨[],k,rfl,o_,d_,?_⟩ ?_;simp only[go_sem];rintro m s ⟨A,j,a,e,c,rfl⟩;by_cases b:127<j
 cases m with
 |zero=>simp at e;omega|succ m=>
  have d:j<2^64:=CV e (uR (YF 2 (Gl d_ (o_:m+1<=9))) d_);have t1:decide ((j:Int)>127)=true:=decide_eq_true o_;have h:bV .rem (.int .u64 (j:Int)) (.int .u64 128)=some (.int .u64 ((j%128:Nat):Int)):=mD j 128 d_;have i:bV .quo (.int .u64 (j:Int)) (.int .u64 128)=some (.int .u64 ((j/128:Nat):Int)):=Cp j 128 d_ d;have w1:IntKind.u8.wrap ((j%128:Nat):Int)=((j%128:Nat):Int):=GI _ o_;have w2:IntKind.u8.wrap (((j%128:Nat):Int)+128)=((j%128+128:Nat):Int):=GI (j%128+128) o_;have l:A.length+1<=140737488355328:=o_;have g:A.length+1<=maxLen:=g_;have f:(A.length+1)*1<=140737488355328:=o_;simp only[go_sem,aP,t1,↓h,↓i,w1,w2,g,f];refine⟨m,o_,A++[j%128+128],j/128,?_,?_,?_,?_⟩;simp_all[a,Do,eB];omega;simp;omega;simp
 have t1:decide ((j:Int)>127)=false:=decide_eq_false o_;simp only[go_sem,t1];refine⟨A,j,?_,o_,rfl⟩;rw[<-a]
 cases m with
 |zero=>rfl|succ m=>rw[Do,if_neg b]
 rintro s ⟨A,j,a,e,rfl⟩;have c:=iP k;rw[<-a]at c;simp at c;have w1:IntKind.u8.wrap (j:Int)=(j:Int):=GI _ o_;have g:A.length+1<=maxLen:=g_;have f:(A.length+1)*1<=140737488355328:=o_;have l:A.length+1<=140737488355328:=o_;rw[<-a];simp only[go_sem,aP,w1,g,f,bZ,fG,uP]
def vI(n:Int)(h1:-9223372036854775808<=n)(h2:n<=2^63-1):aA PQ G iM [iv n] [] λr e=>r=.own 0/\e=[some (.arr 1 (bl (bN n)))]:=by
 apply aC LY;have f:=OP h1 h2;unfold bN;simp only[go_sem];by_cases c:n<0;obtain⟨m,rfl,g⟩:∃m:Nat,n=-((m:Int)+1)/\m<=(2^63-1):=⟨(-(n+1)).toNat,o_,o_⟩
 have t1:decide (-((m:Int)+1)<0)=true:=decide_eq_true c;have w1:IntKind.i64.wrap (-((m:Int)+1)+1)=-(m:Int):=a_;have w2:IntKind.i64.wrap (0 - -(m:Int))=(m:Int):=a_;have w3:IntKind.u64.wrap (m:Int)=(m:Int):=bS m o_;have b:bV .mul (.int .u64 (m:Int)) (.int .u64 2)=some (.int .u64 ((m*2:Nat):Int)):=lE m 2 o_;have d:bV .add (.int .u64 ((m*2:Nat):Int)) (.int .u64 1)=some (.int .u64 ((m*2+1:Nat):Int)):=eY (m*2) 1 o_;have a:W3 (-((m:Int)+1))=m*2+1:=by grind[W3]
 rw[a];simp only[go_sem,t1,w1,w2,w3,↓b,↓d];apply kM (Qx (m*2+1) o_);simp only[go_sem];obtain⟨m,rfl⟩:∃m:Nat,n=(m:Int):=⟨n.toNat,o_⟩
 have t1:decide ((m:Int)<0)=false:=decide_eq_false c;have w3:IntKind.u64.wrap (m:Int)=(m:Int):=bS m o_;have b:bV .mul (.int .u64 (m:Int)) (.int .u64 2)=some (.int .u64 ((m*2:Nat):Int)):=lE m 2 o_;have a:W3 (m:Int)=m*2:=by grind[W3]
 rw[a];simp only[go_sem,t1,w3,↓b];apply kM (Qx (m*2) o_);simp only[go_sem]
def bX(n:Int):(bN n).length<=10:=iP _
def Dp{n:Int}(h1:-9223372036854775808<=n)(h2:n<=2^63-1):xN (bN n):=GG (OP h1 h2)
def idB(a b:Int)(c:Nat):V_:=bN a++bN b++gJ c
def aFw(a b:Int)(c:Nat)(g:-9223372036854775808<=a)(f:a<=2^63-1)(e:-9223372036854775808<=b)(d:b<=2^63-1)(h:c<2^64):
 aA PQ G qS [.ag [iv a,iv b,.v (.int .u64 (c:Int))]] [] λr m=>r=.own 0/\m=[some (.arr 1 (bl (idB a b c)))]:=by
 apply aC OM;have p:=bX a;have o:=bX b;have n:=iP c;have t:(bl (bN a)).length=(bN a).length:=s_;have s:(bl (bN b)).length=(bN b).length:=s_;have q:(bl (gJ c)).length=(gJ c).length:=s_;simp only[go_sem];apply kM (vI a g f);simp only[go_sem];apply kM (vI b e d);have w:(bN a).length+(bN b).length<=140737488355328:=o_;have l:(bN a).length+(bN b).length<=maxLen:=g_;have k:((bN a).length+(bN b).length)*1<=140737488355328:=o_;simp only[go_sem,aP,l,k];apply kM (Qx c h);have u:(bN a).length+(bN b).length+(gJ c).length<=140737488355328:=o_;have j:(bN a).length+(bN b).length+(gJ c).length<=maxLen:=g_;have i:((bN a).length+(bN b).length+(gJ c).length)*1<=140737488355328:=o_;simp only[go_sem,aP,dZ,j,i,idB,bl,bZ]
def Uj(a b:V_):Fq:=FW a (eN b++[b.length])
def Uk(S:ByteArray)(a b:V_)(j:lJ S=bl a)(f:S.size=a.length)(i:xN a)(g:a.length<=1000)(c:xN b)(h:b.length<=1000000):aA PQ G Bl [.v (.string S),.ls 1 (bl b)] [] λr o=>r=.v (fu (Uj a b))/\o=[]:=by
 apply aC OO;have e:=Hc b;have p:=J1 c;have d:IntKind.u64.wrap (b.length:Int)=(b.length:Int):=bS _ o_;have m:(eN b).length+1<=maxLen:=g_;have l:((eN b).length+1)*8<=140737488355328:=o_;simp only[go_sem];apply kM (Ug b c o_);have k:ul (eN b)++[[AV.v (.int .u64 (b.length:Int))]]=ul (eN b++[b.length]):=s_;simp only[go_sem,aP,d,m,l];rw[k];refine iJ (aB _) rfl rfl (aDc S a (eN b++[b.length]) j f i g (λn q=>?_) c_) ?_;grind;simp only[go_sem];rfl
def Px(a b:V_):Nat:=1+(FW a b).val%2305843009213693949
def Sf(a b:V_):1<=Px a b/\Px a b<=2305843009213693949:=by unfold Px;omega
def Qy(S:ByteArray)(a b:V_)(j:lJ S=bl a)(f:S.size=a.length)(i:xN a)(h:a.length<=1000)(g:∀n∈b,n<2^64)(c:b.length<=10000000):aA PQ G zY [.v (.string S),.ls 1 (ul b)] [] λr l=>r=.v (.int .u64 ((Px a b:Nat):Int))/\l=[]:=by refine aC LX ?_;have d:=Sf a b;have e:bV .rem (fu (FW a b)) (.int .u64 2305843009213693949)=some (.int .u64 (((FW a b).val%2305843009213693949:Nat):Int)):=mD _ 2305843009213693949 d_;have k:bV .add (.int .u64 1) (.int .u64 (((FW a b).val%2305843009213693949:Nat):Int))=some (.int .u64 ((Px a b:Nat):Int)):=eY 1 _ (by unfold Px at d;omega);simp only[go_sem];apply cX (aDc S a b j f i h g c);simp only[go_sem,↓e,↓k]
def aK9:∀x,x<256->x ||| 128=x%128+128:=d5
def Ul(x:Nat)(a:x<256):bV .or (.int .u8 (x:Int)) (.int .u8 128)=some (.int .u8 ((x%128+128:Nat):Int)):=by
 have h1:(BitVec.ofInt IntKind.u8.bits (x:Int) ||| BitVec.ofInt IntKind.u8.bits 128).toNat=x%128+128:=by
  have ea:(BitVec.ofInt 8 (x:Int)).toNat=x:=h_;have b:(BitVec.ofInt 8 (128:Int)).toNat=128:=d_;show(BitVec.ofInt 8 (x:Int) ||| BitVec.ofInt 8 (128:Int)).toNat=x%128+128;rw[BitVec.toNat_or,ea,b,aK9 x a]
 simp only[bV,if_true,h1];rw[GI _ o_]
def Qz(x:Nat)(a:x<2^64):bV .shr (.int .u64 (x:Int)) (.int .u64 7)=some (.int .u64 ((x/128:Nat):Int)):=by
 have h2:(x:Int).fdiv (2^(min (7:Int).toNat IntKind.u64.bits))=((x/128:Nat):Int):=by show(x:Int).fdiv 128=_;grind
 grind[bV]
def I3 (A:V_) (k:Nat) (y:A.length<=1000000) (x:k<2^64):aA PQ G fD [.ptr 0 0,.v (.int .u64 (k:Int))] [some (.box [.own 1]),some (.arr 1 (bl A))] λr w=>w=[some (.box [.own 2]),none,some (.arr 1 (bl (A++gJ k)))]:=by
 apply aC Bz;simp only[go_sem];refine jG (λs=>∃(B:V_)(j:Nat),B++[j]=A++gJ k/\j<=127/\B.length<=A.length+9/\(s=⟨2,[(0,.ptr 0 0),(1,.v (.int .u64 (j:Int)))],[some (.box [.own 1]),some (.arr 1 (bl B))]⟩\/s=⟨2,[(0,.ptr 0 0),(1,.v (.int .u64 (j:Int)))],[some (.box [.own 2]),none,some (.arr 1 (bl B))]⟩)) ?_ ?_;refine cO (λm s=>∃(B:V_)(j:Nat),B++Do m j=A++gJ k/\j<2*128^m/\B.length+m<=A.length+9/\m<=9/\(s=⟨2,[(0,.ptr 0 0),(1,.v (.int .u64 (j:Int)))],[some (.box [.own 1]),some (.arr 1 (bl B))]⟩\/s=⟨2,[(0,.ptr 0 0),(1,.v (.int .u64 (j:Int)))],[some (.box [.own 2]),none,some (.arr 1 (bl B))]⟩)) 9 ⟨A,k,rfl,o_,o_,o_,.inl ?_⟩ ?_;simp only[go_sem];rintro m s ⟨B,j,l,g,p,o,a⟩;by_cases e:127<j
 cases m with
 |zero=>simp at g;omega|succ m=>
  have f:j<2^64:=CV g (uR (YF 2 (Gl d_ (o_:m+1<=9))) d_);have t1:decide ((128:Int)<=(j:Int))=true:=decide_eq_true o_;have w1:IntKind.u8.wrap (j:Int)=((j%256:Nat):Int):=Y_;have d:=Ul (j%256) o_;have t:j%256%128+128=j%128+128:=o_;rw[t]at d;have i:=Qz j f;have c:B.length+1<=maxLen:=g_;have b:(B.length+1)*1<=140737488355328:=o_;have u:B.length+1<=140737488355328:=o_;have h:B++[j%128+128]++Do m (j/128)=A++gJ k:=by grind[Do,List.append_assoc]
  have n:j/128<2*128^m:=o_;have q:bl B++[U8 (j%128+128)]=bl (B++[j%128+128]):=s_;rcases a with rfl|rfl;simp only[go_sem,aP,ge_iff_le,t1,w1,↓d,↓i,c,b];grind;simp only[go_sem,aP,ge_iff_le,t1,w1,↓d,↓i,c,b];grind
 have t1:decide ((128:Int)<=(j:Int))=false:=decide_eq_false o_;have h:B++[j]=A++gJ k:=by
  rw[<-l]
  cases m with
  |zero=>rfl|succ m=>rw[Do,if_neg e]
 rcases a with rfl|rfl;simp only[go_sem,ge_iff_le,t1];grind;simp only[go_sem,ge_iff_le,t1];grind;rintro s ⟨B,j,l,g,p,a⟩;have w1:IntKind.u8.wrap (j:Int)=(j:Int):=GI _ o_;have c:B.length+1<=maxLen:=g_;have b:(B.length+1)*1<=140737488355328:=o_;have u:B.length+1<=140737488355328:=o_;have q:bl B++[U8 j]=bl (B++[j]):=s_;rcases a with rfl|rfl;simp only[go_sem,aP,w1,c,b];simp_all;simp only[go_sem,aP,w1,c,b];simp_all
theorem aKa(n:Int):IntKind.u64.wrap n=n%2^64:=Y_
def aDd(a:Nat)(b:a<2^64):(BitVec.ofInt 64 (a:Int) ^^^ BitVec.ofInt 64 18446744073709551615).toNat=18446744073709551615-a:=by
 have e:BitVec.ofInt 64 18446744073709551615=BitVec.allOnes 64:=d_;rw[e,BitVec.xor_allOnes,BitVec.toNat_not];simp_all;omega
def aDe (n:Int) (h1:-9223372036854775808<=n) (h2:n<=2^63-1):aA PQ G FA [iv n] [] λr j=>r=.v (.int .u64 ((W3 n:Nat):Int))/\j=[]:=by
 apply aC OQ;have k:=OP h1 h2;by_cases i:n<0;obtain⟨a,l,h⟩:∃a:Nat,n*2%2^64=(a:Int)/\W3 n=18446744073709551615-a:=⟨(18446744073709551616+2*n).toNat,o_,by unfold W3;rw[if_pos i];omega⟩
 have c1:IntKind.u64.wrap n=n+18446744073709551616:=by rw[aKa];omega
 have e:bV .shl (.int .u64 (n+18446744073709551616)) (.int .u64 1)=some (.int .u64 (a:Int)):=by
  have h3:¬(1:Int)<0:=d_;have b:(n+18446744073709551616)*2^(min (1:Int).toNat IntKind.u64.bits)=n*2+36893488147419103232:=by show(n+18446744073709551616)*2=_;omega
  grind[bV,aKa]
 have d:bV .shr (.int .i64 n) (.int .u64 63)=some (.int .i64 (-1)):=by
  have h3:¬(63:Int)<0:=d_;have b:n.fdiv (2^(min (63:Int).toNat IntKind.i64.bits))=-1:=by show n.fdiv 9223372036854775808=-1;grind
  grind[bV]
 have c2:IntKind.u64.wrap (-1)=18446744073709551615:=d_;have c:bV .xor (.int .u64 (a:Int)) (.int .u64 18446744073709551615)=some (.int .u64 ((W3 n:Nat):Int)):=by have g:(BitVec.ofInt IntKind.u64.bits (a:Int) ^^^ BitVec.ofInt IntKind.u64.bits 18446744073709551615).toNat=18446744073709551615-a:=aDd a o_;simp only[bV,if_true,g];rw[bS _ o_,h]
 simp only[go_sem,c1,↓e,↓d,c2,↓c];obtain⟨m,rfl⟩:∃m:Nat,n=(m:Int):=⟨n.toNat,o_⟩
 have f:W3 (m:Int)=m*2:=by grind[W3]
 have c1:IntKind.u64.wrap (m:Int)=(m:Int):=bS m o_;have e:bV .shl (.int .u64 (m:Int)) (.int .u64 1)=some (.int .u64 ((m*2:Nat):Int)):=by
  have h3:¬(1:Int)<0:=d_;have b:(m:Int)*2^(min (1:Int).toNat IntKind.u64.bits)=((m*2:Nat):Int):=Y_;simp only[bV,h3,if_false,b];rw[bS _ o_]
 have d:bV .shr (.int .i64 (m:Int)) (.int .u64 63)=some (.int .i64 0):=by
  have h3:¬(63:Int)<0:=d_;have b:(m:Int).fdiv (2^(min (63:Int).toNat IntKind.i64.bits))=0:=by show(m:Int).fdiv 9223372036854775808=0;grind
  grind[bV]
 have c:bV .xor (.int .u64 ((m*2:Nat):Int)) (.int .u64 0)=some (.int .u64 ((m*2:Nat):Int)):=by
  have g:(BitVec.ofInt IntKind.u64.bits ((m*2:Nat):Int) ^^^ BitVec.ofInt IntKind.u64.bits 0).toNat=m*2:=by show(BitVec.ofInt 64 ((m*2:Nat):Int) ^^^ BitVec.ofInt 64 0).toNat=m*2;simp_all;omega
  simp only[bV,if_true,g];rw[bS _ o_]
 rw[f];simp only[go_sem,c1,↓e,↓d,↓c]
def zD(A:V_)(n:Int)(b:A.length<=1000000)(h1:-9223372036854775808<=n)(h2:n<=2^63-1):aA PQ G cD [.ptr 0 0,iv n] [some (.box [.own 1]),some (.arr 1 (bl A))] λr a=>a=[some (.box [.own 2]),none,some (.arr 1 (bl (A++bN n)))]:=by refine aC Bx ?_;simp only[go_sem];apply cX (aDe n h1 h2);simp only[go_sem];apply aG [0,1] (aB _) d_ s_ rfl rfl (I3 A (W3 n) b (OP h1 h2));rintro r a rfl;simp only[go_sem];rfl
def aFx(A:V_)(a b:Int)(c:Nat)(l:A.length<=900000)(h:-9223372036854775808<=a)(g:a<=2^63-1)(f:-9223372036854775808<=b)(e:b<=2^63-1)(i:c<2^64):
 aA PQ G fL [.ptr 0 0,.ag [iv a,iv b,.v (.int .u64 (c:Int))]] [some (.box [.own 1]),some (.arr 1 (bl A))] λr d=>d=[some (.box [.own 2]),none,some (.arr 1 (bl (A++idB a b c)))]:=by
 apply aC Ge;have k:=bX a;have j:=bX b;simp only[go_sem];apply aG [0,1] (aB _) d_ s_ rfl rfl (zD A a o_ h g);rintro r d rfl;simp only[go_sem];rw[<-bZ];apply aG [0,3] (aB _) d_ s_ rfl rfl (zD (A++bN a) b c_ f e);rintro r d rfl;simp only[go_sem];rw[<-bZ,<-bZ];apply aG [0,4] (aB _) d_ s_ rfl rfl (I3 (A++bN a++bN b) c c_ i);rintro r d rfl;simp only[go_sem,idB,eB]
def aDf(A:V_)(S:ByteArray)(b:V_)(f:lJ S=bl b)(a:S.size=b.length)(i:A.length<=900000)(h:b.length<=1000000):aA PQ G tO [.ptr 0 0,.v (.string S)] [some (.box [.own 1]),some (.arr 1 (bl A))] λr e=>e=[some (.box [.own 2]),none,some (.arr 1 (bl (A++(bN (b.length:Int)++b))))]:=by
 apply aC Hd;have g:=bX (b.length:Int);have d:(A++bN (b.length:Int)).length+b.length<=140737488355328:=p_;have c:(A++bN (b.length:Int)).length+b.length<=maxLen:=by rw[dZ];unfold maxLen;omega
 simp only[go_sem,a];apply aG [0,1] (aB _) d_ s_ rfl rfl (zD A (b.length:Int) o_ o_ o_);rintro r e rfl;rw[dZ]at d c;simp only[go_sem,aP,dZ,a,f,d,c,bZ,eB]
def aI1 (k:Nat) (x:k<2^64):aA PQ G fD [.ptr 0 0,.v (.int .u64 (k:Int))] [some (.box [.v (.slice none 0 0)])] λr w=>w=[some (.box [.own 1]),some (.arr 1 (bl (gJ k)))]:=by
 apply aC Bz;simp only[go_sem];refine jG (λs=>∃(B:V_)(j:Nat),B++[j]=gJ k/\j<=127/\B.length<=9/\((B=[]/\s=⟨1,[(0,.ptr 0 0),(1,.v (.int .u64 (j:Int)))],[some (.box [.v (.slice none 0 0)])]⟩)\/s=⟨1,[(0,.ptr 0 0),(1,.v (.int .u64 (j:Int)))],[some (.box [.own 1]),some (.arr 1 (bl B))]⟩)) ?_ ?_;refine cO (λm s=>∃(B:V_)(j:Nat),B++Do m j=gJ k/\j<2*128^m/\B.length+m<=9/\m<=9/\((B=[]/\s=⟨1,[(0,.ptr 0 0),(1,.v (.int .u64 (j:Int)))],[some (.box [.v (.slice none 0 0)])]⟩)\/s=⟨1,[(0,.ptr 0 0),(1,.v (.int .u64 (j:Int)))],[some (.box [.own 1]),some (.arr 1 (bl B))]⟩)) 9 ⟨[],k,rfl,o_,d_,o_,.inl ⟨rfl,?_⟩⟩ ?_;simp only[go_sem];rintro m s ⟨B,j,f,e,p,o,a⟩;by_cases c:127<j
 cases m with
 |zero=>simp at e;omega|succ m=>
  have d:j<2^64:=CV e (uR (YF 2 (Gl d_ (o_:m+1<=9))) d_);have t1:decide ((128:Int)<=(j:Int))=true:=decide_eq_true o_;have w1:IntKind.u8.wrap (j:Int)=((j%256:Nat):Int):=Y_;have b:=Ul (j%256) o_;have t:j%256%128+128=j%128+128:=o_;rw[t]at b;have l:=Qz j d;have i:B.length+1<=maxLen:=g_;have h:(B.length+1)*1<=140737488355328:=o_;have u:B.length+1<=140737488355328:=o_;have g:B++[j%128+128]++Do m (j/128)=gJ k:=by grind[Do,List.append_assoc]
  have n:j/128<2*128^m:=o_;have q:bl B++[U8 (j%128+128)]=bl (B++[j%128+128]):=s_;rcases a with⟨rfl,rfl⟩|rfl;simp only[go_sem,ge_iff_le,t1,w1,↓b,↓l,(d_:1<=maxLen)];grind;simp only[go_sem,aP,ge_iff_le,t1,w1,↓b,↓l,i,h];grind
 have t1:decide ((128:Int)<=(j:Int))=false:=decide_eq_false o_;have g:B++[j]=gJ k:=by
  rw[<-f]
  cases m with
  |zero=>rfl|succ m=>rw[Do,if_neg c]
 rcases a with⟨rfl,rfl⟩|rfl;simp only[go_sem,ge_iff_le,t1];grind;simp only[go_sem,ge_iff_le,t1];grind;rintro s ⟨B,j,f,e,p,a⟩;have w1:IntKind.u8.wrap (j:Int)=(j:Int):=GI _ o_;have i:B.length+1<=maxLen:=g_;have h:(B.length+1)*1<=140737488355328:=o_;have u:B.length+1<=140737488355328:=o_;have q:bl B++[U8 j]=bl (B++[j]):=s_;rcases a with⟨rfl,rfl⟩|rfl;rw[<-f];simp only[go_sem,w1,(d_:1<=maxLen)];simp only[go_sem,aP,w1,i,h];simp_all
def aI2(n:Int)(h1:-9223372036854775808<=n)(h2:n<=2^63-1):aA PQ G cD [.ptr 0 0,iv n] [some (.box [.v (.slice none 0 0)])] λr a=>a=[some (.box [.own 1]),some (.arr 1 (bl (bN n)))]:=by refine aC Bx ?_;simp only[go_sem];apply cX (aDe n h1 h2);simp only[go_sem];apply aG [0] (aB _) d_ s_ rfl rfl (aI1 (W3 n) (OP h1 h2));rintro r a rfl;simp only[go_sem];rfl
def Y8(A:V_)(d:A.length<=1000000):aA PQ G rQ [.ptr 0 0] [some (.box [.own 1]),some (.arr 1 (bl A))] λr c=>r=.own 2/\c=[some (.box [.own 1]),some (.arr 1 (bl A)),some (.arr 1 (bl A))]:=by
 apply aC Gd;have e:A.length<=140737488355328:=o_;have b:A.length<=maxLen:=g_;have a:A.length*1<=140737488355328:=o_;simp only[go_sem,aP,b,a]
def cZ(l:B_):V_:=(l.map bN).flatten
def mP(l:V_):V_:=(l.map gJ).flatten
def OS(l:B_)(x:Int):cZ (l++[x])=cZ l++bN x:=by simp[cZ]
def W4(l:V_)(x:Nat):mP (l++[x])=mP l++gJ x:=by simp[mP]
def lF:∀l:B_,(cZ l).length<=10*l.length
 |[]=>by simp[cZ]
 |x::l=>by
  have:=lF l;have h:=bX x;simp only[cZ,fG,zK,dZ,sE]at *
  omega
def AY:∀l:V_,(mP l).length<=10*l.length
 |[]=>by simp[mP]
 |x::l=>by
  have:=AY l;have h:=iP x;simp only[mP,fG,zK,dZ,sE]at *
  omega
def Sg(l:B_)(m:l.length<=1000000)(e:∀n∈l,mZ n):aA PQ G wE [rG l] [] λr j=>r=.own 0/\j=[some (.arr 1 (bl (cZ l)))]:=by
 apply aC Pc;simp only[go_sem];refine aQ l.length (λi=>⟨0,[(0,rG l),(3,.own 0),(4,iv i)],[some (.arr 1 (bl (cZ (l.take i))))]⟩) (λ_=>True) ?_ trivial ?_ ?_;simp only[go_sem];rfl;intro i a _;have f:(l.map λn=>[iv n])[i]?=some [iv l[i]]:=aO _ l i a;have b:=e l[i] (eQ a);have d:cZ (l.take (i+1))=cZ (l.take i)++bN l[i]:=by rw[lB a,OS]
 have c:=lF (l.take i);have k:=bX l[i];rw[d];rw[eC]at c;generalize cZ (l.take i)=X at *
 generalize l[i]=x at *
 have h:X.length+(bN x).length<=maxLen:=g_;have g:(X.length+(bN x).length)*1<=140737488355328:=o_;have o:X.length+(bN x).length<=140737488355328:=o_;simp only[go_sem,aP,aT a,f];apply kM (vI x b.1 b.2);simp only[go_sem,aP,h,g,fQ i o_,bZ];intro _;rw[dE];simp only[go_sem,aP,aS (bP _)]
def aDg(l:V_)(m:l.length<=1000000)(e:∀n∈l,n<2^64):aA PQ G DV [.ls 1 (ul l)] [] λr j=>r=.own 0/\j=[some (.arr 1 (bl (mP l)))]:=by
 apply aC Pd;simp only[go_sem];refine aQ l.length (λi=>⟨0,[(0,.ls 1 (ul l)),(3,.own 0),(4,iv i)],[some (.arr 1 (bl (mP (l.take i))))]⟩) (λ_=>True) ?_ trivial ?_ ?_;simp only[go_sem];rfl;intro i a _;have f:(ul l)[i]?=some [.v (.int .u64 ((l[i]:Nat):Int))]:=aO _ l i a;have c:=e l[i] (eQ a);have d:mP (l.take (i+1))=mP (l.take i)++gJ l[i]:=by rw[lB a,W4]
 have b:=AY (l.take i);have k:=iP l[i];rw[d];rw[eC]at b;generalize mP (l.take i)=X at *
 generalize l[i]=x at *
 have h:X.length+(gJ x).length<=maxLen:=g_;have g:(X.length+(gJ x).length)*1<=140737488355328:=o_;have o:X.length+(gJ x).length<=140737488355328:=o_;simp only[go_sem,aP,aT a,f];apply kM (Qx x c);simp only[go_sem,aP,h,g,fQ i o_,bZ];intro _;rw[dE];simp only[go_sem,aP,aS (bP _)]
def BoxM.B(b:BoxM):V_:=mP [b.To,b.Eph,b.Body,b.Tag]
def vJ(l:List BoxM):V_:=bN (l.length:Int)++(l.map BoxM.B).flatten
def I4:∀l:List BoxM,((l.map BoxM.B).flatten).length<=40*l.length
 |[]=>by simp
 |x::l=>by
  have:=I4 l;have h:x.B.length<=10*4:=AY [x.To,x.Eph,x.Body,x.Tag];simp only[fG,zK,dZ,sE]at *
  omega
def Y9(l:List BoxM)(y:l.length<=1000000)(k:∀b∈l,b.ok):aA PQ G Bm [F5 l] [] λr f=>r=.own 0/\f=[some (.arr 1 (bl (vJ l)))]:=by
 apply aC Nf;have h0:=bX (l.length:Int);simp only[go_sem,aP];apply kM (vI (l.length:Int) o_ o_);simp only[go_sem];refine aQ l.length (λi=>⟨0,[(0,F5 l),(3,.own 0),(4,iv i)],[some (.arr 1 (bl (bN (l.length:Int)++((l.take i).map BoxM.B).flatten)))]⟩) (λ_=>True) ?_ trivial ?_ ?_;simp only[go_sem,uQ,B9,jO];intro i a _;have q:(l.map BoxM.A)[i]?=some l[i].A:=aO _ l i a;have h:=k l[i] (eQ a);have j:bN (l.length:Int)++((l.take (i+1)).map BoxM.B).flatten=(bN (l.length:Int)++((l.take i).map BoxM.B).flatten)++l[i].B:=by rw[lB a,bZ,Kf,eB];simp only[fG,uP,zK,B9,jO]
 have g:=I4 (l.take i);rw[eC]at g;have w:l[i].B.length<=10*4:=AY [l[i].To,l[i].Eph,l[i].Body,l[i].Tag];have u:(bN (l.length:Int)++((l.take i).map BoxM.B).flatten).length<=40000010:=k6;rw[j];generalize bN (l.length:Int)++((l.take i).map BoxM.B).flatten=X at *
 generalize l[i]=x at *
 have t:X.length+x.B.length<=maxLen:=g_;have s:(X.length+x.B.length)*1<=140737488355328:=o_;have C:X.length+x.B.length<=140737488355328:=o_;have p:(l.map BoxM.A)[i]?=some [uv x.To,uv x.Eph,uv x.Body,uv x.Tag]:=q;simp only[go_sem,aP,aT a,p];refine cH (aB _) rfl rfl (aDg [x.To,x.Eph,x.Body,x.Tag] s_ (λn d=>?_)) ?_;simp only[cS,pP,or_false]at d;obtain⟨h1,h2,h3,z⟩:=h;rcases d with rfl|rfl|rfl|rfl<;>assumption;rintro r f ⟨rfl,rfl⟩;refine⟨x_,by simp only[cA,xH,forall_eq,bl,dF];rintro e ⟨n,_,rfl⟩ c m;exact⟨_,cA.1 m⟩,?_⟩;have o:mP [x.To,x.Eph,x.Body,x.Tag]=x.B:=rfl;rw[o];simp only[go_sem,aP,t,s,fQ i o_,bZ];intro _;rw[dE];simp only[go_sem,aP,aS (bP _),vJ]
def rD(b:V_):V_:=bN (b.length:Int)++b
def aDh(S:ByteArray)(b:V_)(c:lJ S=bl b)(a:S.size=b.length)(h:b.length<=1000000):aA PQ G DU [.v (.string S)] [] λr f=>r=.own 0/\f=[some (.arr 1 (bl (rD b)))]:=by
 apply aC Pw;have g:=bX (b.length:Int);have e:(bN (b.length:Int)).length+b.length<=140737488355328:=o_;have d:(bN (b.length:Int)).length+b.length<=maxLen:=g_;simp only[go_sem,a];apply kM (vI (b.length:Int) o_ o_);simp only[go_sem,aP,a,c,e,d,rD,bZ]
def Id.B(x:Id):V_:=idB x.a x.b x.c.toNat
def nA{α:Type}(f:α->V_)(l:List α):V_:=bN (l.length:Int)++(l.map f).flatten
def OT{α:Type}{f:α->V_}{l:List α}{k:Nat}(h:∀x∈l,(f x).length<=k):((l.map f).flatten).length<=k*l.length:=by
 induction l with
 |nil=>simp|cons x l ih=>
  grind[List.flatten_cons,List.length_append,List.length_cons,Nat.mul_succ]
def nX{α:Type}{f:α->V_}{l:List α}{k:Nat}(h:∀x∈l,(f x).length<=k):(nA f l).length<=10+k*l.length:=by have h1:=bX (l.length:Int);have h2:=OT h;grind[nA,List.length_append]
def Dq{α:Type}(f:α->V_)(l:List α)(i:Nat)(h:i<l.length):((l.take (i+1)).map f).flatten=((l.take i).map f).flatten++f l[i]:=by rw[lB h,bZ,Kf];simp only[fG,uP,zK,B9,jO]
def AF{α:Type}{f:α->V_}{l:List α}{k:Nat}(h:∀x∈l,(f x).length<=k)(i:Nat)(b:i<=l.length):(((l.take i).map f).flatten).length<=k*l.length:=by refine uR (OT (l:=l.take i) λx a=>h x (C8 a)) (YF k ?_);simp_all
def Id.B_len(x:Id):x.B.length<=30:=by have h1:=bX x.a;have h2:=bX x.b;have h3:=iP x.c.toNat;grind[Id.B,idB,List.length_append]
def bsN(b:V_):ByteArray:=⟨(b.map UInt8.ofNat).toArray⟩
def FX:∀b:V_,aKs (bl b)=some (b.map UInt8.ofNat)|[]=>rfl|x::b=>by have h:=FX b;simp_all[bl,fG,aKs,nI]
def Dr{b:V_}(h:xN b):lJ (bsN b)=bl b:=by simp only[lJ,bsN,rI,bl];refine LD λx a=>?_;have:=h x a;simp_all;omega
def I5(b:V_):(bsN b).size=b.length:=by simp[bsN,ByteArray.size]
def aDi(A:V_)(l:B_)(p:A.length<=500000)(m:l.length<=1000)(f:∀x∈l,mZ x):aA PQ G Db [.ptr 0 0,rG l,.bm cD 1 [.ptr 0 0]] [some (.box [.own 1]),some (.arr 1 (bl A))] λr b=>b=[some (.box [.own 2]),none,some (.arr 1 (bl (A++nA bN l)))]:=by
 apply aC LP;have d:∀x∈l,(bN x).length<=10:=λx _=>bX x;have h:=bX (l.length:Int);simp only[go_sem,aP];apply aG [0,1] (aB _) d_ s_ rfl rfl (zD A (l.length:Int) o_ o_ o_);rintro r b rfl;simp only[go_sem];refine aQ l.length (λi=>⟨2,[(2,.bm cD 1 [.ptr 0 0]),(12,rG l),(13,iv l.length),(14,iv i)],[some (.box [.own 2]),none,some (.arr 1 (bl (A++(bN (l.length:Int)++((l.take i).map bN).flatten))))]⟩) (λ_=>True) ?_ trivial ?_ ?_;simp only[go_sem,uQ,B9,jO];intro i a _;have g:(l.map λn=>[iv n])[i]?=some [iv l[i]]:=aO _ l i a;have c:=f l[i] (eQ a);have o:=d l[i] (eQ a);have k:=AF d i o_;have e:A++(bN (l.length:Int)++((l.take (i+1)).map bN).flatten)=(A++(bN (l.length:Int)++((l.take i).map bN).flatten))++bN l[i]:=s8;rw[e];have j:(A++(bN (l.length:Int)++((l.take i).map bN).flatten)).length<=600000:=p_;clear e;generalize A++(bN (l.length:Int)++((l.take i).map bN).flatten)=X at *
 generalize l[i]=x at *
 simp only[go_sem,aT a,g];apply aG [0,2] (aB _) d_ s_ rfl rfl (zD X x o_ c.1 c.2);rintro r b rfl;simp only[go_sem,fQ i o_,bZ];intro _;rw[dE];simp only[go_sem,aS (bP _),nA]
def aDj(A:V_)(l:V_)(o:A.length<=500000)(m:l.length<=1000)(f:∀x∈l,x<2^64):aA PQ G yO [.ptr 0 0,.ls 1 (ul l),.bm fD 1 [.ptr 0 0]] [some (.box [.own 1]),some (.arr 1 (bl A))] λr b=>b=[some (.box [.own 2]),none,some (.arr 1 (bl (A++nA gJ l)))]:=by
 apply aC HT;have c:∀x∈l,(gJ x).length<=10:=λx _=>iP x;have h:=bX (l.length:Int);simp only[go_sem,aP];apply aG [0,1] (aB _) d_ s_ rfl rfl (zD A (l.length:Int) o_ o_ o_);rintro r b rfl;simp only[go_sem];refine aQ l.length (λi=>⟨2,[(2,.bm fD 1 [.ptr 0 0]),(12,.ls 1 (ul l)),(13,iv l.length),(14,iv i)],[some (.box [.own 2]),none,some (.arr 1 (bl (A++(bN (l.length:Int)++((l.take i).map gJ).flatten))))]⟩) (λ_=>True) ?_ trivial ?_ ?_;simp only[go_sem,uQ,B9,jO];intro i a _;have g:(ul l)[i]?=some [.v (.int .u64 ((l[i]:Nat):Int))]:=aO _ l i a;have e:=f l[i] (eQ a);have n:=c l[i] (eQ a);have k:=AF c i o_;have d:A++(bN (l.length:Int)++((l.take (i+1)).map gJ).flatten)=(A++(bN (l.length:Int)++((l.take i).map gJ).flatten))++gJ l[i]:=s8;rw[d];have j:(A++(bN (l.length:Int)++((l.take i).map gJ).flatten)).length<=600000:=p_;clear d;generalize A++(bN (l.length:Int)++((l.take i).map gJ).flatten)=X at *
 generalize l[i]=x at *
 simp only[go_sem,aT a,g];apply aG [0,2] (aB _) d_ s_ rfl rfl (I3 X x o_ e);rintro r b rfl;simp only[go_sem,fQ i o_,bZ];intro _;rw[dE];simp only[go_sem,aS (bP _),nA]
def aFy(A:V_)(x:Id)(e:A.length<=900000)(d:x.ok):aA PQ G fL [.ptr 0 0,.ag [iv x.a,iv x.b,.v (.int .u64 x.c)]] [some (.box [.own 1]),some (.arr 1 (bl A))] λr f=>f=[some (.box [.own 2]),none,some (.arr 1 (bl (A++x.B)))]:=by have:=aFx (G:=G) A x.a x.b x.c.toNat e d.1.1 d.1.2 d.2.1.1 d.2.1.2 (by have:=d.2.2;omega);rwa[Int.toNat_of_nonneg d.2.2.1]at this
def aFz(A:V_)(l:D_)(s:A.length<=500000)(p:l.length<=1000)(j:∀x∈l,x.ok):aA PQ G tY [.ptr 0 0,ids l,.bm fL 1 [.ptr 0 0]] [some (.box [.own 1]),some (.arr 1 (bl A))] λr e=>e=[some (.box [.own 2]),none,some (.arr 1 (bl (A++nA Id.B l)))]:=by
 apply aC EL;have f:∀x∈l,(Id.B x).length<=30:=λx _=>Id.B_len x;have m:=bX (l.length:Int);simp only[go_sem,aP];apply aG [0,1] (aB _) d_ s_ rfl rfl (zD A (l.length:Int) o_ o_ o_);rintro r e rfl;simp only[go_sem];refine aQ l.length (λi=>⟨2,[(2,.bm fL 1 [.ptr 0 0]),(12,ids l),(13,iv l.length),(14,iv i)],[some (.box [.own 2]),none,some (.arr 1 (bl (A++(bN (l.length:Int)++((l.take i).map Id.B).flatten))))]⟩) (λ_=>True) ?_ trivial ?_ ?_;simp only[go_sem,uQ,B9,jO];intro i d _;have k:(l.map Id.A)[i]?=some [.v (.int .i64 l[i].a),.v (.int .i64 l[i].b),.v (.int .u64 l[i].c)]:=aO _ l i d;have h:=j l[i] (eQ d);have q:=f l[i] (eQ d);have o:=AF f i o_;have g:A++(bN (l.length:Int)++((l.take (i+1)).map Id.B).flatten)=(A++(bN (l.length:Int)++((l.take i).map Id.B).flatten))++Id.B l[i]:=by rw[Dq _ l i d];simp only[eB]
 rw[g];have n:(A++(bN (l.length:Int)++((l.take i).map Id.B).flatten)).length<=600000:=p_;clear g;generalize A++(bN (l.length:Int)++((l.take i).map Id.B).flatten)=X at *
 generalize l[i]=x at *
 simp only[go_sem,aT d,k];apply aG [0,2] (aB _) d_ s_ rfl rfl (aFy X x o_ h);rintro r e rfl;simp only[go_sem,fQ i o_,bZ];intro _;rw[dE];simp only[go_sem,aS (bP _),nA]
def aKb(A:V_)(b:BoxM)(k:A.length<=600000)(c:b.ok):aA PQ G kZ [.ag b.A,.ptr 0 0] [some (.box [.ptr 1 0]),some (.box [.own 2]),some (.arr 1 (bl A))] λr a=>a=[some (.box [.ptr 1 0]),some (.box [.own 3]),none,some (.arr 1 (bl (A++b.B)))]:=by
 apply aC Nm;obtain⟨h1,h2,h3,d⟩:=c;have h:=iP b.To;have g:=iP b.Eph;have f:=iP b.Body;have e:=iP b.Tag;simp only[go_sem,BoxM.A];refine aQ 4 (λi=>match i with|0=>⟨3,[(1,.ptr 0 0),(13,.own 3),(14,.v (.int .i64 4)),(15,.v (.int .i64 0))],[some (.box [.ptr 1 0]),some (.box [.own 2]),some (.arr 1 (bl A)),some (.arr 1 [[uv b.To],[uv b.Eph],[uv b.Body],[uv b.Tag]])]⟩|i+1=>⟨3,[(1,.ptr 0 0),(13,.own 3),(14,.v (.int .i64 4)),(15,.v (.int .i64 ((i+1:Nat):Int)))],[some (.box [.ptr 1 0]),some (.box [.own 4]),none,some (.arr 1 [[uv b.To],[uv b.Eph],[uv b.Body],[uv b.Tag]]),some (.arr 1 (bl (A++mP ([b.To,b.Eph,b.Body,b.Tag].take (i+1)))))]⟩) (λ_=>True) ?_ trivial ?_ ?_;simp only[go_sem];intro i j _;rcases i with _|_|_|_|i;simp only[go_sem];apply aG [1,2] (aB _) d_ s_ rfl rfl (I3 A b.To o_ h1);rintro r a rfl;simp only[go_sem,mP,zK,B9];simp only[go_sem,mP,zK,B9];rw[<-bZ];apply aG [1,4] (aB _) d_ s_ rfl rfl (I3 (A++gJ b.To) b.Eph si h2);rintro r a rfl;simp only[go_sem,eB,mP,zK,B9,bZ];simp only[go_sem,mP,zK,B9];rw[<-bZ,<-bZ];apply aG [1,4] (aB _) d_ s_ rfl rfl (I3 (A++(gJ b.To++gJ b.Eph)) b.Body si h3);rintro r a rfl;simp only[go_sem,eB,mP,zK,B9,bZ];simp only[go_sem,mP,zK,B9];rw[<-bZ,<-bZ,<-bZ];apply aG [1,4] (aB _) d_ s_ rfl rfl (I3 (A++(gJ b.To++(gJ b.Eph++gJ b.Body))) b.Tag si d);rintro r a rfl;simp only[go_sem,eB,mP,zK,B9,bZ];omega;intro _;simp only[go_sem,BoxM.B]
def MJ(b:BoxM):b.B.length<=40:=AY [b.To,b.Eph,b.Body,b.Tag]
def Um(A:V_)(l:List BoxM)(o:A.length<=500000)(m:l.length<=1000)(f:∀x∈l,x.ok):aA PQ G rR [.ptr 0 0,F5 l,.cl kZ [.ptr 2 0]] [some (.box [.own 1]),some (.arr 1 (bl A)),some (.box [.ptr 0 0])] λr b=>b=[some (.box [.own 3]),none,some (.box [.ptr 0 0]),some (.arr 1 (bl (A++nA BoxM.B l)))]:=by
 apply aC Ga;have c:∀x∈l,(BoxM.B x).length<=40:=λx _=>MJ x;have h:=bX (l.length:Int);simp only[go_sem,aP];apply aG [0,1] (aB _) d_ s_ rfl rfl (zD A (l.length:Int) o_ o_ o_);rintro r b rfl;simp only[go_sem];refine aQ l.length (λi=>⟨3,[(2,.cl kZ [.ptr 2 0]),(12,F5 l),(13,iv l.length),(14,iv i)],[some (.box [.own 3]),none,some (.box [.ptr 0 0]),some (.arr 1 (bl (A++(bN (l.length:Int)++((l.take i).map BoxM.B).flatten))))]⟩) (λ_=>True) ?_ trivial ?_ ?_;simp only[go_sem,uQ,B9,jO];intro i a _;have g:(l.map BoxM.A)[i]?=some [uv l[i].To,uv l[i].Eph,uv l[i].Body,uv l[i].Tag]:=aO _ l i a;have e:=f l[i] (eQ a);have n:=c l[i] (eQ a);have k:=AF c i o_;have d:A++(bN (l.length:Int)++((l.take (i+1)).map BoxM.B).flatten)=(A++(bN (l.length:Int)++((l.take i).map BoxM.B).flatten))++BoxM.B l[i]:=s8;rw[d];have j:(A++(bN (l.length:Int)++((l.take i).map BoxM.B).flatten)).length<=600000:=p_;clear d;generalize A++(bN (l.length:Int)++((l.take i).map BoxM.B).flatten)=X at *
 generalize l[i]=x at *
 simp only[go_sem,aT a,g];apply aG [2,0,3] (aB _) d_ s_ rfl rfl (aKb X x o_ e);rintro r b rfl;simp only[go_sem,fQ i o_,bZ];intro _;rw[dE];simp only[go_sem,aS (bP _),nA]
def NodeM.B(n:NodeM):V_:=gJ n.Pub++nA BoxM.B n.Boxes
def I6{n:NodeM}(h:n.ok):n.B.length<=4020:=by have h1:=iP n.Pub;have h2:=nX (f:=BoxM.B) (l:=n.Boxes) (k:=40) λx _=>MJ x;have h3:=h.2.1;grind[NodeM.B,List.length_append]
def aI3(A:V_)(n:NodeM)(d:A.length<=450000)(a:n.ok):aA PQ G xS [.ag n.A,.ptr 0 0,.ptr 1 0] [some (.box [.ptr 2 0]),some (.box [.cl kZ [.ptr 0 0]]),some (.box [.own 3]),some (.arr 1 (bl A))] λr b=>b=[some (.box [.ptr 2 0]),some (.box [.cl kZ [.ptr 0 0]]),some (.box [.own 4]),none,some (.arr 1 (bl (A++n.B)))]:=by refine aC Nn ?_;have c:=iP n.Pub;simp only[go_sem,NodeM.A];apply aG [2,3] (aB _) d_ s_ rfl rfl (I3 A n.Pub o_ a.1);rintro r b rfl;simp only[go_sem];rw[<-bZ];apply aG [2,5,0] (aB _) d_ s_ rfl rfl (Um (A++gJ n.Pub) n.Boxes si (by have:=a.2.1;omega) a.2.2);rintro r b rfl;simp only[go_sem,NodeM.B,eB]
def SealM.B(x:SealM):V_:=x.Of.B++rD x.Body
def I7{x:SealM}(h:x.ok):x.B.length<=1040:=by have h1:=Id.B_len x.Of;have h2:=bX (x.Body.length:Int);have h3:=h.2.1;grind[SealM.B,rD,List.length_append]
def aI4(A:V_)(x:SealM)(e:A.length<=600000)(a:x.ok):aA PQ G xT [.ag x.A,.ptr 0 0] [some (.box [.ptr 1 0]),some (.box [.own 2]),some (.arr 1 (bl A))] λr b=>b=[some (.box [.ptr 1 0]),some (.box [.own 3]),none,some (.arr 1 (bl (A++x.B)))]:=by refine aC No ?_;have d:=Id.B_len x.Of;have c:=a.2.1;simp only[go_sem,SealM.A];apply aG [1,2] (aB _) d_ s_ rfl rfl (aFy A x.Of o_ a.1);rintro r b rfl;simp only[go_sem,↓FX];rw[<-bZ];apply aG [1,4] (aB _) d_ s_ rfl rfl (aDf (A++x.Of.B) (bsN x.Body) x.Body (Dr a.2.2) (I5 _) si o_);rintro r b rfl;simp only[go_sem,SealM.B,rD,eB]
def aAJ(A:V_)(l:List NodeM)(p:A.length<=400000)(n:l.length<=10)(d:∀x∈l,x.ok):aA PQ G vA [.ptr 0 0,.ls 2 (l.map NodeM.A),.cl xS [.ptr 2 0,.ptr 3 0]] [some (.box [.own 1]),some (.arr 1 (bl A)),some (.box [.ptr 0 0]),some (.box [.cl kZ [.ptr 2 0]])] λr b=>b=[some (.box [.own 4]),none,some (.box [.ptr 0 0]),some (.box [.cl kZ [.ptr 2 0]]),some (.arr 1 (bl (A++nA NodeM.B l)))]:=by
 apply aC FC;have c:∀x∈l,(NodeM.B x).length<=4020:=λx g=>I6 (d x g);have j:=bX (l.length:Int);simp only[go_sem,aP];apply aG [0,1] (aB _) d_ s_ rfl rfl (zD A (l.length:Int) o_ o_ o_);rintro r b rfl;simp only[go_sem];refine aQ l.length (λi=>⟨4,[(2,.cl xS [.ptr 2 0,.ptr 3 0]),(12,.ls 2 (l.map NodeM.A)),(13,iv l.length),(14,iv i)],[some (.box [.own 4]),none,some (.box [.ptr 0 0]),some (.box [.cl kZ [.ptr 2 0]]),some (.arr 1 (bl (A++(bN (l.length:Int)++((l.take i).map NodeM.B).flatten))))]⟩) (λ_=>True) ?_ trivial ?_ ?_;simp only[go_sem,uQ,B9,jO];intro i a _;have h:(l.map NodeM.A)[i]?=some [uv l[i].Pub,F5 l[i].Boxes]:=aO _ l i a;have f:=d l[i] (eQ a);have o:=c l[i] (eQ a);have m:=AF c i o_;have e:A++(bN (l.length:Int)++((l.take (i+1)).map NodeM.B).flatten)=(A++(bN (l.length:Int)++((l.take i).map NodeM.B).flatten))++NodeM.B l[i]:=s8;rw[e];have k:(A++(bN (l.length:Int)++((l.take i).map NodeM.B).flatten)).length<=450000:=p_;clear e;generalize A++(bN (l.length:Int)++((l.take i).map NodeM.B).flatten)=X at *
 generalize l[i]=x at *
 simp only[go_sem,aT a,h];apply aG [2,3,0,4] (aB _) d_ s_ rfl rfl (aI3 X x o_ f);rintro r b rfl;simp only[go_sem,fQ i o_,bZ];intro _;rw[dE];simp only[go_sem,aS (bP _),nA]
def aAK(A:V_)(l:List SealM)(t:A.length<=450000)(q:l.length<=100)(g:∀x∈l,x.ok):aA PQ G sJ [.ptr 0 0,.ls 4 (l.map SealM.A),.cl xT [.ptr 2 0]] [some (.box [.own 1]),some (.arr 1 (bl A)),some (.box [.ptr 0 0])] λr e=>e=[some (.box [.own 3]),none,some (.box [.ptr 0 0]),some (.arr 1 (bl (A++nA SealM.B l)))]:=by
 apply aC Dd;have f:∀x∈l,(SealM.B x).length<=1040:=λx k=>I7 (g x k);have n:=bX (l.length:Int);simp only[go_sem,aP];apply aG [0,1] (aB _) d_ s_ rfl rfl (zD A (l.length:Int) o_ o_ o_);rintro r e rfl;simp only[go_sem];refine aQ l.length (λi=>⟨3,[(2,.cl xT [.ptr 2 0]),(12,.ls 4 (l.map SealM.A)),(13,iv l.length),(14,iv i)],[some (.box [.own 3]),none,some (.box [.ptr 0 0]),some (.arr 1 (bl (A++(bN (l.length:Int)++((l.take i).map SealM.B).flatten))))]⟩) (λ_=>True) ?_ trivial ?_ ?_;simp only[go_sem,uQ,B9,jO];intro i d _;have m:(l.map SealM.A)[i]?=some [.v (.int .i64 l[i].Of.a),.v (.int .i64 l[i].Of.b),.v (.int .u64 l[i].Of.c),.ls 1 (bl l[i].Body)]:=aO _ l i d;have j:=g l[i] (eQ d);have s:=f l[i] (eQ d);have p:=AF f i o_;have h:A++(bN (l.length:Int)++((l.take (i+1)).map SealM.B).flatten)=(A++(bN (l.length:Int)++((l.take i).map SealM.B).flatten))++SealM.B l[i]:=by rw[Dq _ l i d];simp only[eB]
 rw[h];have o:(A++(bN (l.length:Int)++((l.take i).map SealM.B).flatten)).length<=600000:=p_;clear h;generalize A++(bN (l.length:Int)++((l.take i).map SealM.B).flatten)=X at *
 generalize l[i]=x at *
 simp only[go_sem,aT d,m];apply aG [2,0,3] (aB _) d_ s_ rfl rfl (aI4 X x o_ j);rintro r e rfl;simp only[go_sem,fQ i o_,bZ];intro _;rw[dE];simp only[go_sem,aS (bP _),nA]
end Hud
