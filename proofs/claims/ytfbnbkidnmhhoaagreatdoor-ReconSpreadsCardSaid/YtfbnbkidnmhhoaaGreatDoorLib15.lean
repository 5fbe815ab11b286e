import Derived.Test.YtfbnbkidnmhhoaaGreatDoorLib14
set_option linter.all false
set_option maxHeartbeats 40000000
namespace Hud
open Go
variable{G:L_}
def Un:∀(l:O3)(x:Nat),xA (l++[x])=xA l+256^l.length*x|[],x=>by simp[xA]|y::l,x=>by simp only[jC,xA,Un l x,sE,QM];grind
def Uo{b:O3}{j:Nat}(h:j<b.length):xA (b.take (j+1))=xA (b.take j)+256^j*b[j]:=by rw[lq8 h,Un,eC,Kj o_]
def aDk(w x j:Nat)(h:w<256^j):w ||| (x*2^(8*j))=w+256^j*x:=by
 have e:(256:Nat)^j=2^(8*j):=by rw[IA]
 rw[e]at h⊢;have:=Nat.shiftLeft_add_eq_or_of_lt h x;grind[Nat.shiftLeft_eq]
def Q0(x j:Nat)(d:j<=7)(a:x<256):bV .shl (.int .u64 (x:Int)) (.int .i64 ((8*j:Nat):Int))=some (.int .u64 ((x*2^(8*j):Nat):Int)):=by
 have c:¬((8*j:Nat):Int)<0:=o_;have h2:min (((8*j:Nat):Int)).toNat IntKind.u64.bits=8*j:=by grind[Int.toNat_natCast,IntKind.bits]
 have b:x*2^(8*j)<2^64:=by have:x*2^(8*j)<256*2^(8*j):=Nat.mul_lt_mul_of_pos_right a (Nat.pow_pos s_);have e:2^(8*j)<=2^56:=Gl s_ o_;omega
 simp only[bV,c,if_false,h2];have:(x:Int)*2^(8*j)=((x*2^(8*j):Nat):Int):=k_;rw[this,bS _ b]
def Uq(a b:Nat)(f:a<2^64)(e:b<2^64)(c:a ||| b<2^64):bV .or (.int .u64 (a:Int)) (.int .u64 (b:Int))=some (.int .u64 ((a ||| b:Nat):Int)):=by
 have d:(BitVec.ofInt IntKind.u64.bits (a:Int) ||| BitVec.ofInt IntKind.u64.bits (b:Int)).toNat=a ||| b:=by
  have h:(BitVec.ofInt 64 (a:Int)).toNat=a:=e_;have g:(BitVec.ofInt 64 (b:Int)).toNat=b:=e_;show(BitVec.ofInt 64 (a:Int) ||| BitVec.ofInt 64 (b:Int)).toNat=a ||| b;grind
 simp only[bV,if_true,d];rw[bS _ c]
def MK(s w:Fq)(k:Nat)(g:k<1000000000):aA PQ G jZ [.ptr 0 0,.own 1] [some (.box [.v (fu s),.v (.int .u64 (k:Int))]),some (.arr 1 [[.v (fu w)]])] λr d=>
 d=[some (.box [.v (fu (nG s w (k+1))),.v (.int .u64 ((k+1:Nat):Int))]),some (.arr 1 [[.v (fu w)]])]:=by
 apply aC FO;have f:=FU w;have a:=eY k 1 o_;have c:=eY w.val (k+1) o_;have e:=aFv w (k+1) S_;simp only[aHD]at a;have b:IntKind.u64.wrap ((w.val:Int)+((k+1:Nat):Int))=((w.val+(k+1):Nat):Int):=by rw[<-Int.natCast_add,bS _ o_]
 simp only[go_sem];refine aQ 1 (λi=>⟨2,[(0,.ptr 0 0),(6,.own 1),(7,iv 1),(8,iv i)],[some (.box [.v (fu (if i=0 then s else nG s w (k+1))),.v (.int .u64 ((k+i:Nat):Int))]),some (.arr 1 [[.v (fu w)]])]⟩) (λ_=>True) ?_ trivial ?_ ?_;simp only[go_sem];intro i h _;obtain rfl:i=0:=o_;simp only[go_sem,↓a,↓c];apply cX (Ud 37 s);simp only[go_sem,b];apply cX (Gy G (w.val+(k+1)) o_);simp only[go_sem,e];apply cX (aJY (37*s) (w+Fin.ofNat PP (k+1)));simp only[go_sem];apply cX (aD8 _ 17 s_);simp only[go_sem,nG];intro _;simp only[go_sem]
def aH4 (S:ByteArray) (a b:O3) (hS:lJ S=bl a) (hs:S.size=a.length) (p:xN a) (m:1<=a.length) (J:a.length<=7) (hn:∀n∈b,n<2^64) (ac:b.length<=10000000):aA PQ G GA [.v (.string S),.ls 1 (ul b)] [] λr u=>r=.v (fu (FW a b))/\u=[]:=by
 apply aC SM;have hm:a.length<=maxLen:=g_;have L:IntKind.u64.wrap (b.length:Int)=(b.length:Int):=bS _ o_;have K:IntKind.u64.wrap (a.length:Int)=(a.length:Int):=bS _ o_;have W:(Value.int .u64 (a.length:Int))=fu (Fin.ofNat PP a.length):=Cq S_;have T:(Value.int .u64 (b.length:Int))=fu (Fin.ofNat PP b.length):=Cq S_;have l:(bl a).length=a.length:=k_;have O:∀n,a.length<=n->(bl a).take n=bl a:=λn h=>sG n_;have hW:xA a<72057594037927936:=Qw p J;have R:(Value.int .u64 ((xA a:Nat):Int))=fu (Fin.ofNat PP (xA a)):=Cq (QQ hW s_);have E:(if(a.length:Int)<7 then(a.length:Int) else(7:Int))=(a.length:Int):=so;have M:IntKind.i64.wrap (0+(a.length:Int))=(a.length:Int):=d_;have D:¬a.length=0:=o_;have P:decide ((7:Int)<(a.length:Int))=false:=decide_eq_false o_;have Q:decide ((0:Int)<(a.length:Int))=true:=decide_eq_true o_;have I:Uh a b=Fin.ofNat PP (xA a)::Fin.ofNat PP b.length::(b.map (Fin.ofNat PP)++[0]):=by unfold Uh;rw[Wy (λh=>by rw[h]at m;simp at m) J];simp
 simp only[go_sem,hS,hs,hm,K,W];apply aBF (Y5 _);simp only[go_sem];refine NX rfl (vZ qG) λr k1 k2 hy ab=>?_;simp only[go_sem];refine Ic [0,1,2] (aB _) s_ (λi e=>by simp at e⊢;omega) rfl rfl (aC qG ?_);simp only[go_sem];apply aBF (Y6 _);simp only[go_sem];refine NX rfl (vZ fN) λF q1 Z hz aa=>?_;simp only[go_sem];refine Ic [0,1,2,3,4,5,6] (aB _) s_ (λi e=>by simp at e⊢;omega) rfl rfl (aC fN ?_);simp only[go_sem];generalize ae:Fin.ofNat PP a.length=g at *
 refine cO (λn s=>(n=1/\s=⟨7,[(0,.yl 6),(1,.ptr 4 0),(2,.ptr 5 0),(4,iv 0)],[some (.box [.v (fu g),.v (.int .u64 0)]),some (.box [.ls 1 (bl a)]),some (.lp r [(5,.ptr 0 0)]),some (.box [.yl 2]),some (.box [.ls 1 (bl a)]),some (.box [iv 7]),some (.lp F [(2,.ptr 3 0)])]⟩) \/
  (n=0/\s=⟨7,[(0,.yl 6),(1,.ptr 4 0),(2,.ptr 5 0),(4,iv 7)],[some (.box [.v (fu (nG g (Fin.ofNat PP (xA a)) 1)),.v (.int .u64 ((1:Nat):Int))]),some (.box [.ls 1 (bl a)]),some (.lp r [(5,.ptr 0 0)]),some (.box [.yl 2]),some (.box [.ls 1 (bl a)]),some (.box [iv 7]),some (.lp F [(2,.ptr 3 0)])]⟩)) 1 (.inl ⟨rfl,?_⟩) ?_
 simp only[go_sem];rintro n s (⟨rfl,rfl⟩|⟨rfl,rfl⟩);simp only[go_sem,Q,E,M,D,l,O a.length (cN _)];apply hz _ _ _ _ _ rfl rfl;simp only[go_sem,aP];refine cO (λn s=>∃j:Nat,j<=a.length/\n=a.length-j/\s=⟨7,[(2,.ptr 3 0),(4,.v (.int .u64 ((xA (a.take j):Nat):Int))),(10,.ls 1 (bl a)),(11,iv a.length),(12,iv j)],[some (.box [.v (fu g),.v (.int .u64 0)]),some (.box [.ls 1 (bl a)]),some (.lp r [(5,.ptr 0 0)]),some (.box [.yl 2]),some (.box [.ls 1 (bl a)]),some (.box [iv 7]),none]⟩) a.length ⟨0,pR _,rfl,?_⟩ ?_;simp only[go_sem,uQ,xA];rintro n s ⟨j,hj,rfl,rfl⟩;by_cases d:j<a.length;have w:(bl a)[j]?=some [.v (.int .u8 ((a[j]:Nat):Int))]:=aO U8 a j d;have H:=p a[j] (eQ d);have q:=OJ (uU p j);rw[eC,Kj o_]at q;have ad:xA (a.take j)<72057594037927936:=Qw (uU p j) Y_;have t:xA (a.take (j+1))<72057594037927936:=Qw (uU p _) Y_;have c:=Uo d;rw[c]at t;generalize a[j]=x at w H c t;have N:IntKind.u64.wrap (x:Int)=(x:Int):=bS x o_;have v2:IntKind.i64.wrap (8*(j:Int))=((8*j:Nat):Int):=d_;have U:=Q0 x j o_ H;have ho:=aDk (xA (a.take j)) x j q;have A:x*2^(8*j)<2^64:=by
  have:256^j*x=x*2^(8*j):=by rw[QP,show(256:Nat)^j=2^(8*j) by rw[IA]]
  omega
 have k:=Uq (xA (a.take j)) (x*2^(8*j)) o_ A o_;rw[ho,<-c]at k;simp only[go_sem,aT d,w,N,v2,↓U,↓k,fQ j o_];exact⟨a.length-(j+1),o_,j+1,o_,rfl,rfl⟩;obtain rfl:j=a.length:=o_;rw[dE];simp only[go_sem,aS (bP _),R];apply hy _ _ _ _ _ rfl rfl;simp only[go_sem];apply aG [0,7] (aB _) s_ k_ rfl rfl (MK g (Fin.ofNat PP (xA a)) 0 s_);rintro y u f;subst f;simp only[go_sem];simp;simp only[go_sem,aP,P,q1,Z,k1,k2,L,T];apply aG [0,3] (aB _) s_ k_ rfl rfl (MK (nG g (Fin.ofNat PP (xA a)) 1) (Fin.ofNat PP b.length) 1 s_);rintro y u f;subst f;have o:FW a b=nG (Dn (nG (nG g (Fin.ofNat PP (xA a)) 1) (Fin.ofNat PP b.length) 2) 2 (b.map (Fin.ofNat PP))) 0 (b.length+3):=by grind[FW,Dn,GF,List.length_map]
 rw[o];generalize nG (nG g (Fin.ofNat PP (xA a)) 1) (Fin.ofNat PP b.length) 2=B at *
 simp only[go_sem,aP];refine aQ b.length (λi=>⟨0,[(4,.v (.int .u64 0)),(5,.ptr 0 0),(15,.cl nS [.ptr 1 0]),(25,.ls 1 (ul b)),(26,iv b.length),(27,iv i)],[some (.box [.v (fu (Dn B 2 ((b.take i).map (Fin.ofNat PP)))),.v (.int .u64 ((2+i:Nat):Int))]),some (.box [.ls 1 (bl a)])]⟩) (λ_=>True) ?_ trivial ?_ ?_;simp only[go_sem];rfl;intro i e _;have w:(ul b)[i]?=some [.v (.int .u64 ((b[i]:Nat):Int))]:=e_;have C:=hn b[i] (eQ e);have z:nG (Dn B 2 ((b.take i).map (Fin.ofNat PP))) (Fin.ofNat PP b[i]) (2+i+1)=Dn B 2 ((b.take (i+1)).map (Fin.ofNat PP)):=by rw[lq8 e,bZ,fG,uP,GF];congr 1;simp;omega
 have V:(Value.int .u64 ((b[i]%FP:Nat):Int))=fu (Fin.ofNat PP b[i]):=rfl;generalize Dn B 2 ((b.take i).map (Fin.ofNat PP))=X at *
 generalize Dn B 2 ((b.take (i+1)).map (Fin.ofNat PP))=Y at *
 simp only[go_sem,aT e,w];apply cX (Gy G b[i] C);simp only[go_sem,V];apply aG [0,2] (aB _) s_ k_ rfl rfl (MK X (Fin.ofNat PP b[i]) (2+i) o_);rintro y u f;subst f;simp only[go_sem,z,fQ i o_];rfl;intro _;rw[dE];simp only[go_sem,aS (bP _)];apply aG [0,2] (aB _) s_ k_ rfl rfl (MK (Dn B 2 (b.map (Fin.ofNat PP))) 0 (2+b.length) o_);rintro y u f;subst f;have e3:2+b.length+1=b.length+3:=o_;simp only[go_sem,e3]
def aAL (b:O3) (hb:xN b) (hl:b.length<=1000000):aA PQ G iB [.v (.slice none 0 0),.cl nS [.ptr 0 0]] [some (.box [.ls 1 (bl b)])] λr T'=>r=.own 1/\T'=[some (.box [.ls 1 (bl b)]),some (.arr 1 (ul (eN b)))]:=by
 apply aC sM;simp only[go_sem];refine NX rfl (vZ qG) λr W V Y ab=>?_;simp only[go_sem];refine Ic [0,1,2,3] (aB _) s_ (λi D=>by simp at D⊢;omega) rfl rfl (aC qG ?_);simp only[go_sem];apply aBF (Y6 _);simp only[go_sem];refine NX rfl (vZ fN) λN P O X aa=>?_;simp only[go_sem];refine Ic [0,1,2,3,4,5,6,7] (aB _) s_ (λi D=>by simp at D⊢;omega) rfl rfl (aC fN ?_);simp only[go_sem]
 refine cO (λn s=>∃(i:Nat)(A:O3),n=b.length+7-i/\i<=b.length+6/\A.length<=i/\A++eN (b.drop i)=eN b/\(s=⟨8,[(0,.yl 7),(1,.ptr 5 0),(2,.ptr 6 0),(4,iv i)],[some (.box [.ls 1 (bl b)]),some (.box [.own 2]),some (.arr 1 (ul A)),some (.lp r [(2,.ptr 1 0)]),some (.box [.yl 3]),some (.box [.ls 1 (bl b)]),some (.box [iv 7]),some (.lp N [(2,.ptr 4 0)])]⟩ \/
   s=⟨8,[(0,.yl 7),(1,.ptr 5 0),(2,.ptr 6 0),(4,iv i)],[some (.box [.ls 1 (bl b)]),some (.box [.own 8]),none,some (.lp r [(2,.ptr 1 0)]),some (.box [.yl 3]),some (.box [.ls 1 (bl b)]),some (.box [iv 7]),some (.lp N [(2,.ptr 4 0)]),some (.arr 1 (ul A))]⟩)) (b.length+7) ⟨0,[],o_,o_,cN _,k_,.inl ?_⟩ ?_
 simp only[go_sem];rintro n s ⟨i,A,rfl,D,hA,o,p⟩;by_cases l:i<b.length;obtain⟨e,ae,ad,ac⟩:∃e:Nat,e=min 7 (b.length-i)/\1<=e/\e<=7:=⟨min 7 (b.length-i),rfl,o_,o_⟩
 have u:(if((b.length-i:Nat):Int)<7 then((b.length-i:Nat):Int) else(7:Int))=(e:Int):=so;have M:IntKind.i64.wrap ((i:Int)+(e:Int))=((i+e:Nat):Int):=d_;have U:i<=i+e:=o_;have T:i+e<=b.length:=o_;have S:¬i+e=i:=o_;have R:i<=b.length:=o_;have Q:i+e-i=e:=o_;have B:((bl b).drop i).take e=bl ((b.drop i).take e):=k_;have z:((b.drop i).take e).length=e:=f_;have k:xN ((b.drop i).take e):=uU (Ih hb i) _;have I:(b.drop i).take 7=(b.drop i).take e:=e_;have a:=FV (b:=b.drop i) (λh=>by have:=congrArg List.length h;simp at this;omega);rw[I,Kg]at a;rw[a]at o;generalize af:(b.drop i).take e=c at *
 have y:c.take e=c:=sG o_;have w:∀j,j<e->∃x:Nat,(bl c)[j]?=some [.v (.int .u8 (x:Int))]/\IntKind.u64.wrap (x:Int)=(x:Int)/\IntKind.i64.wrap (8*(j:Int))=((8*j:Nat):Int)/\bV .shl (.int .u64 (x:Int)) (.int .i64 ((8*j:Nat):Int))=some (.int .u64 ((x*2^(8*j):Nat):Int)) /\
   bV .or (.int .u64 ((xA (c.take j):Nat):Int)) (.int .u64 ((x*2^(8*j):Nat):Int))=some (.int .u64 ((xA (c.take (j+1)):Nat):Int)):=λj Z=>by
  have m:j<c.length:=o_;have hx:=k c[j] (eQ m);have C:=OJ (uU k j);rw[eC,Kj o_]at C;have ah:xA (c.take j)<72057594037927936:=Qw (uU k j) Y_;have J:xA (c.take (j+1))<72057594037927936:=Qw (uU k _) Y_;have q:=Uo m;rw[q]at J;refine⟨c[j],aO U8 c j m,bS _ o_,d_,Q0 _ j o_ hx,?_⟩;have ho:=aDk (xA (c.take j)) c[j] j C;have H:c[j]*2^(8*j)<2^64:=by
   have:256^j*c[j]=c[j]*2^(8*j):=by rw[QP,show(256:Nat)^j=2^(8*j) by rw[IA]]
   omega
  have g:=Uq (xA (c.take j)) (c[j]*2^(8*j)) o_ H o_;simp_all
 have b2:A.length+1<=maxLen:=g_;have b3:(A.length+1)*8<=140737488355328:=o_;have L:IntKind.i64.wrap ((i:Int)+7)=((i+7:Nat):Int):=d_;have d:ul A++[[AV.v (.int .u64 ((xA c:Nat):Int))]]=ul (A++[xA c]):=k_;rcases p with rfl|rfl;simp only[go_sem,aP,aT l,u,M,U,T,S,R,Q,B];apply X _ _ _ _ _ rfl rfl;simp only[go_sem,aP,z];refine cO (λn s=>∃j:Nat,j<=e/\n=e-j/\s=⟨8,[(2,.ptr 4 0),(4,.v (.int .u64 ((xA (c.take j):Nat):Int))),(10,.ls 1 (bl c)),(11,iv e),(12,iv j)],[some (.box [.ls 1 (bl b)]),some (.box [.own 2]),some (.arr 1 (ul A)),some (.lp r [(2,.ptr 1 0)]),some (.box [.yl 3]),some (.box [.ls 1 (bl b)]),some (.box [iv 7]),none]⟩) e ⟨0,pR _,rfl,?_⟩ ?_;simp only[go_sem,uQ,xA];rintro n s ⟨j,Z,rfl,rfl⟩;by_cases f:j<e;obtain⟨x,K,E,v2,F,g⟩:=w j f;simp only[go_sem,aT f,K,E,v2,↓F,↓g,fQ j o_];exact⟨e-(j+1),o_,j+1,o_,rfl,rfl⟩;obtain rfl:j=e:=o_;rw[y];simp only[go_sem,aS (bP _)];apply Y _ _ _ _ _ rfl rfl;simp only[go_sem,aP,b2,b3,L];exact⟨b.length+7-(i+7),o_,i+7,A++[xA c],o_,o_,f_,by rw[lq2];exact o,.inr (by rw[d])⟩;simp only[go_sem,aP,aT l,u,M,U,T,S,R,Q,B];apply X _ _ _ _ _ rfl rfl;simp only[go_sem,aP,z];refine cO (λn s=>∃j:Nat,j<=e/\n=e-j/\s=⟨9,[(2,.ptr 4 0),(4,.v (.int .u64 ((xA (c.take j):Nat):Int))),(10,.ls 1 (bl c)),(11,iv e),(12,iv j)],[some (.box [.ls 1 (bl b)]),some (.box [.own 8]),none,some (.lp r [(2,.ptr 1 0)]),some (.box [.yl 3]),some (.box [.ls 1 (bl b)]),some (.box [iv 7]),none,some (.arr 1 (ul A))]⟩) e ⟨0,pR _,rfl,?_⟩ ?_;simp only[go_sem,uQ,xA];rintro n s ⟨j,Z,rfl,rfl⟩;by_cases f:j<e;obtain⟨x,K,E,v2,F,g⟩:=w j f;simp only[go_sem,aT f,K,E,v2,↓F,↓g,fQ j o_];exact⟨e-(j+1),o_,j+1,o_,rfl,rfl⟩;obtain rfl:j=e:=o_;rw[y];simp only[go_sem,aS (bP _)];apply Y _ _ _ _ _ rfl rfl;simp only[go_sem,aP,b2,b3,L];exact⟨b.length+7-(i+7),o_,i+7,A++[xA c],o_,o_,f_,by rw[lq2];exact o,.inr (by rw[d])⟩;have t:eN (b.drop i)=[]:=by rw[LB o_];rfl
 rw[t,jO]at o;rw[<-o];rcases p with rfl|rfl;simp only[go_sem,aP,aS l,P,O,W,V];simp only[go_sem,aP,aS l,P,O,W,V]
def aAM(b:O3)(d:xN b)(c:b.length<=1000000):aA PQ G nP [.cl nS [.ptr 0 0]] [some (.box [.ls 1 (bl b)])] λr a=>r=.own 1/\a=[some (.box [.ls 1 (bl b)]),some (.arr 1 (ul (eN b)))]:=by refine aC As ?_;simp only[go_sem];apply aG [0] (aB _) s_ k_ rfl rfl (aAL b d c);rintro r a ⟨rfl,rfl⟩;simp only[go_sem]
def Ur(S:ByteArray)(a b:O3)(l:lJ S=bl a)(i:S.size=a.length)(k:xN a)(d:1<=a.length)(j:a.length<=7)(c:xN b)(e:b.length<=1000000):aA PQ G zZ [.v (.string S),.ls 1 (bl b)] [] λr f=>r=.v (fu (Uj a b))/\f=[]:=by
 apply aC LZ;have h:=Hc b;have q:=J1 c;have g:IntKind.u64.wrap (b.length:Int)=(b.length:Int):=bS _ o_;have p:(eN b).length+1<=maxLen:=g_;have o:((eN b).length+1)*8<=140737488355328:=o_;simp only[go_sem];apply aBF (Y5 _);simp only[go_sem];apply aG [0] (aB _) s_ k_ rfl rfl (aAM b c e);rintro r f ⟨rfl,rfl⟩;have m:ul (eN b)++[[AV.v (.int .u64 (b.length:Int))]]=ul (eN b++[b.length]):=k_;simp only[go_sem,aP,g,p,o];rw[m];refine iJ (aB _) rfl rfl (aH4 S a (eN b++[b.length]) l i k d j (λn s=>?_) f_) ?_;grind;simp only[go_sem];rfl
def OpM.B(o:OpM):O3 :=
 cZ [o.By,o.Seq,o.Kind,o.At]++(aIK Id.B o.Past++(cZ [o.Device,o.Old,o.Member,o.Role]++(aIK NodeM.B o.Path++(o.Epoch.B++(bN o.N++(rD o.Body++(aIK gJ o.Refs++(o.Of.B++(aIK bN o.Guards++(cZ [o.Need,o.Wait]++(aIK BoxM.B o.Boxes++(gJ o.Pub++aIK SealM.B o.Hist))))))))))))
def aMB:cZ []=[]:=rfl
def uC(x:Int)(l:O4):cZ (x::l)=bN x++cZ l:=by simp[cZ]
def OU{l:O4}{i:Nat}(h:i<l.length):cZ (l.take (i+1))=cZ (l.take i)++bN l[i]:=by rw[lq8 h,OS]
def aDl(A:O3)(l:O4):Nat->aK|0=>[some (.arr 1 (l.map λn=>[iv n])),some (.box [.ptr 2 0]),some (.box [.own 3]),some (.arr 1 (bl A))]|i+1=>[some (.arr 1 (l.map λn=>[iv n])),some (.box [.ptr 2 0]),some (.box [.own 4]),none,some (.arr 1 (bl (A++cZ (l.take (i+1)))))]
def Sh(A:O3)(l:O4):aDl A l 0=[some (.arr 1 (l.map λn=>[iv n])),some (.box [.ptr 2 0]),some (.box [.own 3]),some (.arr 1 (bl A))]:=rfl
def ML(A:O3)(l:O4)(i:Nat):aDl A l (i+1)=[some (.arr 1 (l.map λn=>[iv n])),some (.box [.ptr 2 0]),some (.box [.own 4]),none,some (.arr 1 (bl (A++cZ (l.take (i+1)))))]:=rfl
def aDm(a b c d:Int):Nat->aK|0=>[some (.arr 1 [[iv a],[iv b],[iv c],[iv d]]),some (.box [.ptr 2 0]),some (.box [.v (.slice none 0 0)])]|i+1=>[some (.arr 1 [[iv a],[iv b],[iv c],[iv d]]),some (.box [.ptr 2 0]),some (.box [.own 3]),some (.arr 1 (bl (cZ ([a,b,c,d].take (i+1)))))]
def aTu(a b c d:Int):aDm a b c d 0=[some (.arr 1 [[iv a],[iv b],[iv c],[iv d]]),some (.box [.ptr 2 0]),some (.box [.v (.slice none 0 0)])]:=rfl
def B0(a b c d:Int)(i:Nat):aDm a b c d (i+1)=[some (.arr 1 [[iv a],[iv b],[iv c],[iv d]]),some (.box [.ptr 2 0]),some (.box [.own 3]),some (.arr 1 (bl (cZ ([a,b,c,d].take (i+1)))))]:=rfl
def aDn(A:O3)(l:O4)(hA:A.length<=600000)(j:l.length<=1000)(g:∀x∈l,mZ x):aA PQ G uI [.own 0,.ptr 1 0] [some (.arr 1 (l.map λn=>[iv n])),some (.box [.ptr 2 0]),some (.box [.own 3]),some (.arr 1 (bl A))] λr c=>c=[some (.arr 1 (l.map λn=>[iv n])),some (.box [.ptr 2 0]),some (.box [.own 4]),none,some (.arr 1 (bl (A++cZ l)))]\/(l=[]/\c=[some (.arr 1 (l.map λn=>[iv n])),some (.box [.ptr 2 0]),some (.box [.own 3]),some (.arr 1 (bl A))]):=by
 apply aC FB;simp only[go_sem,aP];refine aQ l.length (λi=>⟨4,[(1,.ptr 1 0),(5,.own 0),(6,iv l.length),(7,iv i)],aDl A l i⟩) (λ_=>True) ?_ trivial ?_ ?_;simp only[go_sem,Sh];intro i a _;have d:(l.map λn=>[iv n])[i]?=some [iv l[i]]:=aO _ l i a;have b:=g l[i] (eQ a);have e:=fQ i o_
 cases i with
 |zero=>
  have h:cZ (l.take (0+1))=bN l[0]:=by rw[OU a];simp[cZ]
  rw[Sh,ML,h];simp only[go_sem,aP,show decide ((0:Int)<(l.length:Int))=true from decide_eq_true o_,a,d];apply aG [2,3] (aB _) s_ k_ rfl rfl (zD A l[0] o_ b.1 b.2);rintro r c rfl;simp only[go_sem,bZ]
 |succ i=>
  have f:=lF (l.take (i+1));rw[eC]at f;rw[ML,ML,OU a];generalize cZ (l.take (i+1))=X at *
  generalize l[i+1]=x at *
  simp only[go_sem,aP,aT a,a,d];rw[<-bZ];apply aG [2,4] (aB _) s_ k_ rfl rfl (zD (A++X) x dc b.1 b.2);rintro r c rfl;simp only[go_sem,bZ,lq2,e]
 intro _
 cases l with
 |nil=>simp only[gQ,Sh,go_sem];exact .inr trivial|cons x l=>
  simp only[sE];rw[ML,show(x::l).take (l.length+1)=x::l from sG k_];simp only[go_sem,show decide (((l.length+1:Nat):Int)<((l.length+1:Nat):Int))=false from decide_eq_false o_];exact .inl trivial
def aFA(A:O3)(a b c d:Int)(hA:A.length<=600000)(j:mZ a)(i:mZ b)(g:mZ c)(f:mZ d):aA PQ G uI [.own 0,.ptr 1 0] [some (.arr 1 [[iv a],[iv b],[iv c],[iv d]]),some (.box [.ptr 2 0]),some (.box [.own 3]),some (.arr 1 (bl A))] λr e=>e=[some (.arr 1 [[iv a],[iv b],[iv c],[iv d]]),some (.box [.ptr 2 0]),some (.box [.own 4]),none,some (.arr 1 (bl (A++cZ [a,b,c,d])))]:=
 (aDn (G:=G) A [a,b,c,d] hA k_ (by simp only[cS,pP,or_false];rintro x (rfl|rfl|rfl|rfl)<;>assumption)).mono λr e h=>e_
def aFB(A:O3)(a b:Int)(hA:A.length<=600000)(e:mZ a)(d:mZ b):aA PQ G uI [.own 0,.ptr 1 0] [some (.arr 1 [[iv a],[iv b]]),some (.box [.ptr 2 0]),some (.box [.own 3]),some (.arr 1 (bl A))] λr c=>c=[some (.arr 1 [[iv a],[iv b]]),some (.box [.ptr 2 0]),some (.box [.own 4]),none,some (.arr 1 (bl (A++cZ [a,b])))]:=
 (aDn (G:=G) A [a,b] hA k_ (by simp only[cS,pP,or_false];rintro x (rfl|rfl)<;>assumption)).mono λr c h=>e_
def aFC(a b c d:Int)(j:mZ a)(h:mZ b)(g:mZ c)(f:mZ d):aA PQ G uI [.own 0,.ptr 1 0] [some (.arr 1 [[iv a],[iv b],[iv c],[iv d]]),some (.box [.ptr 2 0]),some (.box [.v (.slice none 0 0)])] λr e=>e=[some (.arr 1 [[iv a],[iv b],[iv c],[iv d]]),some (.box [.ptr 2 0]),some (.box [.own 3]),some (.arr 1 (bl (cZ [a,b,c,d])))]:=by refine aC FB ?_;have m:=bX a;have l:=bX b;have k:=bX c;simp only[go_sem];refine aQ 4 (λi=>⟨3,[(1,.ptr 1 0),(5,.own 0),(6,iv 4),(7,iv i)],aDm a b c d i⟩) (λ_=>True) ?_ trivial ?_ ?_;simp only[go_sem,aTu];intro i n _;rcases i with _|_|_|_|i;rw[aTu,B0];simp only[go_sem];apply aG [2] (aB _) s_ k_ rfl rfl (aI2 a j.1 j.2);rintro r e rfl;simp only[go_sem,uC,aMB];rw[B0,B0];simp only[go_sem,uC,aMB];apply aG [2,3] (aB _) s_ k_ rfl rfl (zD (bN a) b o_ h.1 h.2);rintro r e rfl;simp only[go_sem,uC,aMB,bZ];rw[B0,B0];simp only[go_sem,uC,aMB];rw[<-bZ];apply aG [2,3] (aB _) s_ k_ rfl rfl (zD (bN a++bN b) c dc g.1 g.2);rintro r e rfl;simp only[go_sem,uC,aMB,bZ,lq2];rw[B0,B0];simp only[go_sem,uC,aMB];rw[<-bZ,<-bZ];apply aG [2,3] (aB _) s_ k_ rfl rfl (zD (bN a++(bN b++bN c)) d (by rw[dZ,dZ];omega) f.1 f.2);rintro r e rfl;simp only[go_sem,uC,aMB,bZ,lq2];omega;intro _;rw[B0];simp only[go_sem]
def aTv(o:OpM)(a:o.ok):aA PQ G F9 [.ag o.A] [] λr b=>r=.ptr 0 0/\b=[some (.box [.own 1]),some (.arr 1 (bl o.B))]:=by
 apply aC SD;have c:∀n,n∈[o.By,o.Seq,o.Kind,o.At,o.Device,o.Old,o.Member,o.Role,o.N,o.Need,o.Wait]->mZ n:=a.ints;have b1:(cZ [o.By,o.Seq,o.Kind,o.At]).length<=40:=lF [o.By,o.Seq,o.Kind,o.At];have b2:(aIK Id.B o.Past).length<=30010:=W_;have b3:(cZ [o.Device,o.Old,o.Member,o.Role]).length<=40:=lF [o.Device,o.Old,o.Member,o.Role];have b4:(aIK NodeM.B o.Path).length<=40210:=T_;have b5:o.Epoch.B.length<=30:=Id.B_len _;have b6:(bN o.N).length<=10:=bX _;have b7:(rD o.Body).length<=1010:=oz;have b8:(aIK gJ o.Refs).length<=10010:=oh;have b9:o.Of.B.length<=30:=Id.B_len _;have aa:(aIK bN o.Guards).length<=10010:=oo;have Z:(cZ [o.Need,o.Wait]).length<=20:=lF [o.Need,o.Wait];have Y:(aIK BoxM.B o.Boxes).length<=40010:=Z_;have X:(gJ o.Pub).length<=10:=iP _;have W:(aIK SealM.B o.Hist).length<=104010:=U_;simp only[go_sem];apply aG [4,2,1] (aB _) s_ k_ rfl rfl (aFC o.By o.Seq o.Kind o.At (c _ k_) (c _ k_) (c _ k_) (c _ k_));rintro r b rfl;obtain⟨Q,y⟩:∃Q,Q=cZ [o.By,o.Seq,o.Kind,o.At]:=⟨_,rfl⟩
 rw[<-y];have l1:Q.length<=40:=by rw[y];exact b1
 simp only[go_sem];apply aG [1,5] (aB _) s_ k_ rfl rfl (aFz Q o.Past o_ a.past.1 a.past.2);rintro r b rfl;obtain⟨P,I⟩:∃P,P=Q++(aIK Id.B o.Past):=⟨_,rfl⟩
 rw[<-I];have l2:P.length<=30050:=c_;simp only[go_sem];apply aG [7,2,1,6] (aB _) s_ k_ rfl rfl (aFA P o.Device o.Old o.Member o.Role o_ (c _ k_) (c _ k_) (c _ k_) (c _ k_));rintro r b rfl;obtain⟨O,H⟩:∃O,O=P++(cZ [o.Device,o.Old,o.Member,o.Role]):=⟨_,rfl⟩
 rw[<-H];have l3:O.length<=30090:=c_;simp only[go_sem];apply aG [1,8,2,3] (aB _) s_ k_ rfl rfl (aAJ O o.Path o_ a.path.1 a.path.2);rintro r b rfl;obtain⟨M,F⟩:∃M,M=O++(aIK NodeM.B o.Path):=⟨_,rfl⟩
 rw[<-F];have l4:M.length<=70300:=c_;simp only[go_sem];apply aG [1,9] (aB _) s_ k_ rfl rfl (aFy M o.Epoch o_ a.epoch);rintro r b rfl;obtain⟨L,E⟩:∃L,L=M++o.Epoch.B:=⟨_,rfl⟩
 rw[<-E];have l5:L.length<=70330:=c_;simp only[go_sem];apply aG [1,10] (aB _) s_ k_ rfl rfl (zD L o.N o_ (c o.N k_).1 (c o.N k_).2);rintro r b rfl;obtain⟨D,w⟩:∃D,D=L++(bN o.N):=⟨_,rfl⟩
 rw[<-w];have l6:D.length<=70340:=by rw[w,dZ];omega
 simp only[go_sem,↓FX];apply aG [1,11] (aB _) s_ k_ rfl rfl (aDf D (bsN o.Body) o.Body (Dr a.body.2) (I5 _) o_ (by have:=a.body.1;omega));rintro r b rfl;obtain⟨C,v⟩:∃C,C=D++rD o.Body:=⟨_,rfl⟩
 rw[show D++(bN (o.Body.length:Int)++o.Body)=C from v.symm];have l7:C.length<=71350:=by rw[v,dZ];omega
 simp only[go_sem];apply aG [1,12] (aB _) s_ k_ rfl rfl (aDj C o.Refs o_ a.refs.1 a.refs.2);rintro r b rfl;obtain⟨K,u⟩:∃K,K=C++(aIK gJ o.Refs):=⟨_,rfl⟩
 rw[<-u];have l8:K.length<=81360:=by rw[u,dZ];omega
 simp only[go_sem];apply aG [1,13] (aB _) s_ k_ rfl rfl (aFy K o.Of o_ a.of);rintro r b rfl;obtain⟨J,t⟩:∃J,J=K++o.Of.B:=⟨_,rfl⟩
 rw[<-t];have l9:J.length<=81390:=by rw[t,dZ];omega
 simp only[go_sem];apply aG [1,14] (aB _) s_ k_ rfl rfl (aDi J o.Guards o_ a.guards.1 a.guards.2);rintro r b rfl;obtain⟨s,j⟩:∃s,s=J++(aIK bN o.Guards):=⟨_,rfl⟩
 rw[<-j];have V:s.length<=91400:=by rw[j,dZ];omega
 simp only[go_sem];apply aG [16,2,1,15] (aB _) s_ k_ rfl rfl (aFB s o.Need o.Wait o_ (c _ k_) (c _ k_));rintro r b rfl;obtain⟨q,i⟩:∃q,q=s++(cZ [o.Need,o.Wait]):=⟨_,rfl⟩
 rw[<-i];have U:q.length<=91420:=by rw[i,dZ];omega
 simp only[go_sem];apply aG [1,17,2] (aB _) s_ k_ rfl rfl (Um q o.Boxes o_ a.boxes.1 a.boxes.2);rintro r b rfl;obtain⟨p,g⟩:∃p,p=q++(aIK BoxM.B o.Boxes):=⟨_,rfl⟩
 rw[<-g];have T:p.length<=131430:=by rw[g,dZ];omega
 simp only[go_sem];apply aG [1,18] (aB _) s_ k_ rfl rfl (I3 p o.Pub o_ (a.nums o.Pub k_));rintro r b rfl;obtain⟨m,e⟩:∃m,m=p++(gJ o.Pub):=⟨_,rfl⟩
 rw[<-e];have S:m.length<=131440:=by rw[e,dZ];omega
 simp only[go_sem];apply aG [1,19,2] (aB _) s_ k_ rfl rfl (aAK m o.Hist o_ a.hist.1 a.hist.2);rintro r b rfl;obtain⟨z,d⟩:∃z,z=m++(aIK SealM.B o.Hist):=⟨_,rfl⟩
 rw[<-d];have R:z.length<=235450:=by rw[d,dZ];omega
 simp only[go_sem];rw[d,e,g,i,j,t,u,v,w,E,F,H,I,y];simp only[OpM.B,lq2]
def OpM.B_len(o:OpM)(a:o.ok):o.B.length<=300000:=by
 have t:(cZ [o.By,o.Seq,o.Kind,o.At]).length<=40:=lF [o.By,o.Seq,o.Kind,o.At];have s:(aIK Id.B o.Past).length<=30010:=W_;have r:(cZ [o.Device,o.Old,o.Member,o.Role]).length<=40:=lF [o.Device,o.Old,o.Member,o.Role];have q:(aIK NodeM.B o.Path).length<=40210:=T_;have p:o.Epoch.B.length<=30:=Id.B_len _;have n:(bN o.N).length<=10:=bX _;have m:(rD o.Body).length<=1010:=oz;have j:(aIK gJ o.Refs).length<=10010:=oh;have i:o.Of.B.length<=30:=Id.B_len _;have g:(aIK bN o.Guards).length<=10010:=oo;have e:(cZ [o.Need,o.Wait]).length<=20:=lF [o.Need,o.Wait];have d:(aIK BoxM.B o.Boxes).length<=40010:=Z_;have c:(gJ o.Pub).length<=10:=iP _;have b:(aIK SealM.B o.Hist).length<=104010:=U_;grind[OpM.B,List.length_append]
def Ds{α:Type}{f:α->O3}{l:List α}(e:l.length<=1000000)(h:∀x∈l,xN (f x)):xN (aIK f l):=by unfold aIK;refine aF0 (Dp o_ o_) λx d=>?_;obtain⟨y,c,a⟩:=Kh.1 d;obtain⟨z,b,rfl⟩:=dF.1 c;exact h z b x a
def OV{l:O4}(h:∀x∈l,mZ x):xN (cZ l):=λx d=>by obtain⟨y,c,a⟩:=Kh.1 d;obtain⟨z,b,rfl⟩:=dF.1 c;exact Dp (h z b).1 (h z b).2 x a
def aDo{l:O3}(h:∀x∈l,x<2^64):xN (mP l):=λx d=>by obtain⟨y,c,a⟩:=Kh.1 d;obtain⟨z,b,rfl⟩:=dF.1 c;exact GG (h z b) x a
def Id.B_ok{x:Id}(h:x.ok):xN x.B:=aF0 (aF0 (Dp h.1.1 h.1.2) (Dp h.2.1.1 h.2.1.2)) (GG (by have:=h.2.2;omega))
def aDp{b:BoxM}(h:b.ok):xN b.B:=aDo λx a=>by obtain⟨e,h2,d,c⟩:=h;simp_all;omega
def Us{b:O3}(a:b.length<=1000000)(h:xN b):xN (rD b):=aF0 (Dp o_ o_) h
def OpM.B_ok(o:OpM)(b:o.ok):xN o.B:=by have c:=b.ints;unfold OpM.B;apply aF0 (OV λx a=>c x (by simp at a⊢;rcases a with h|h|h|h<;>simp[h]));apply aF0 (Ds (by have:=b.past.1;omega) λx a=>Id.B_ok (b.past.2 x a));apply aF0 (OV λx a=>c x (by simp at a⊢;rcases a with h|h|h|h<;>simp[h]));apply aF0 (Ds (by have:=b.path.1;omega) λx a=>aF0 (GG (b.path.2 x a).1) (Ds (by have:=(b.path.2 x a).2.1;omega) λy d=>aDp ((b.path.2 x a).2.2 y d)));apply aF0 (Id.B_ok b.epoch);apply aF0 (Dp (c o.N k_).1 (c o.N k_).2);apply aF0 (Us (by have:=b.body.1;omega) b.body.2);apply aF0 (Ds (by have:=b.refs.1;omega) λx a=>GG (b.refs.2 x a));apply aF0 (Id.B_ok b.of);apply aF0 (Ds (by have:=b.guards.1;omega) λx a=>Dp (b.guards.2 x a).1 (b.guards.2 x a).2);apply aF0 (OV λx a=>c x (by simp at a⊢;rcases a with h|h<;>simp[h]));apply aF0 (Ds (by have:=b.boxes.1;omega) λx a=>aDp (b.boxes.2 x a));apply aF0 (GG (b.nums o.Pub k_));exact Ds (by have:=b.hist.1;omega) λx a=>aF0 (Id.B_ok (b.hist.2 x a).1) (Us (by have:=(b.hist.2 x a).2.1;omega) (b.hist.2 x a).2.2)
def OpM.P(o:OpM):O3:=o.B++mP [o.SR,o.SS]
def lOp:O3:=[111,112]
def Si:O3:=[115,105,103,110,101,100]
def aI5:O3:=[115,105,103]
def C7(o:OpM):Id:=⟨o.By,o.Seq,((Uj lOp o.B).val:Nat)⟩
def TP(n:Nat):Fq:=⟨n%PP,zM _ s_⟩
def MN{n:Nat}(h:n<2305843009213693951):(TP n).val=n:=EZ h
def Sj(b:O3):Fq:=Uj Si b
def I8(r a:Nat)(b:O3):Fq:=FW aI5 [r,a,(Sj b).val]
def BW(a:Nat)(b:O3)(R S:Nat):Bool :=
 (decide (1<=a)&&decide (a<=2305843009213693950))&&(decide (1<=R)&&decide (R<=2305843009213693950))&&decide (S<=2305843009213693949) &&
 decide ((37:Fq)^S=TP R*TP a^(I8 R a b).val)
def Az{l:O3}(h:(l.all λx=>decide (x<256))=true):xN l:=λx a=>by simpa using oD.1 h x a
def Cr(a:Fq):a.val<2^64:=QQ a.isLt s_
def aFD(o:OpM)(a:o.ok):aA PQ G Ik [.ag o.A] [] λr T=>r=.ag (C7 o).A/\T=[]:=by refine aC WP ?_;have c:=o.B_len a;simp only[go_sem];apply aBF (aTv o a);simp only[go_sem];apply aG [2,3] (aB _) s_ k_ rfl rfl (Y8 o.B o_);rintro r b ⟨rfl,rfl⟩;simp only[go_sem];apply cH (aB _) rfl rfl (Ur _ lOp o.B K_ K_ (Az s_) s_ s_ (o.B_ok a) o_);rintro r b ⟨rfl,rfl⟩;refine⟨w_,k_,?_⟩;simp only[go_sem];rfl
def aI6(a r:Nat)(b:O3)(e:a<2^64)(d:r<2^64)(f:xN b)(g:b.length<=1000000):aA PQ G E9 [uv a,uv r,.ls 1 (bl b)] [] λx T=>x=.tup [.v (fu (Sj b)),.v (fu (I8 r a b))]/\T=[]:=by refine aC OR ?_;simp only[go_sem];apply cX (Ur _ Si b K_ K_ (Az s_) s_ s_ f o_);simp only[go_sem];refine cH (aB _) rfl rfl (aH4 _ aI5 [r,a,(Sj b).val] K_ K_ (Az s_) s_ s_ (λn c=>?_) k_) ?_;simp only[cS,pP,or_false]at c;rcases c with rfl|rfl|rfl;exact d;exact e;exact Cr _;rintro x h ⟨rfl,rfl⟩;refine⟨w_,k_,?_⟩;simp only[go_sem];rfl
def OW(n a b:Nat):aA PQ G Ap [uv n,uv a,uv b] [] λr T=>r=.v (.bool (decide (a<=n)&&decide (n<=b)))/\T=[]:=by
 apply aC I2;have d:decide ((a:Int)<=(n:Int))=decide (a<=n):=by rw[aO8];simp
 have c:decide ((n:Int)<=(b:Int))=decide (n<=b):=by rw[aO8];simp
 simp only[go_sem,ge_iff_le,d];cases decide (a<=n)<;>simp only[go_sem,undef,c,mF,lR]
def Sk(a:Nat)(b:O3)(R S:Nat)(f:a<2^64)(j:R<2^64)(i:S<2^64)(h:xN b)(g:b.length<=1000000):aA PQ G DX [uv a,.ls 1 (bl b),.ag [uv R,uv S]] [] λr T=>r=.v (.bool (BW a b R S))/\T=[]:=by
 apply aC La;simp only[go_sem];apply cX (OW a 1 2305843009213693950);cases c:(decide (1<=a)&&decide (a<=2305843009213693950));simp only[go_sem,undef,BW,c,lR];simp only[go_sem];apply cX (OW R 1 2305843009213693950);cases h2:(decide (1<=R)&&decide (R<=2305843009213693950));simp only[go_sem,undef,BW,c,h2,lR,Ea];simp only[go_sem];apply cX (OW S 0 2305843009213693949);cases d:decide (S<=2305843009213693949);simp only[go_sem,BW,c,h2,d,lR,Ea,pR,mF];simp only[go_sem,pR];apply cX (aI6 a R b f j h g);simp only[zJ,decide_eq_true_eq]at c h2 d;have m:uv a=.v (fu (TP a)):=by simp only[fu,MN (o_:a<2305843009213693951)]
 have l:uv R=.v (fu (TP R)):=by simp only[fu,MN (o_:R<2305843009213693951)]
 have e:AV.v (.int .u64 37)=.v (fu (37:Fq)):=rfl;simp only[go_sem];apply aU (R:=.v (fu ((37:Fq)^S))) (aB _) rfl (aD8 (37:Fq) S i) rfl;simp only[go_sem];apply aU (R:=.v (fu (TP a^(I8 R a b).val))) (aB _) rfl (by rw[m];exact aD8 (TP a) (I8 R a b).val (Cr _)) rfl;simp only[go_sem];apply aU (R:=.v (fu (TP R*TP a^(I8 R a b).val))) (aB _) rfl (by rw[l];exact Ud (TP R) _) rfl;have k:∀x y:Fq,((x.val:Int)==(y.val:Int))=decide (x=y):=λx y=>by rw[aO8];simp[Fin.ext_iff];omega
 simp only[go_sem,k,BW];simp[c,h2,d]
def aDq(c:CardM)(o:OpM)(a:o.ok)(b:c.Sign<2^64):aA PQ G E1 [.ag c.A,.ag o.A] [] λr T=>r=.v (.bool ((o.By==c.Device)&&BW c.Sign o.B o.SR o.SS))/\T=[]:=by refine aC Nl ?_;have g:=o.B_len a;have d:=a.nums o.SR k_;have h2:=a.nums o.SS k_;simp only[go_sem,CardM.A_def];cases f:(o.By==c.Device);simp only[go_sem,undef,lR];simp only[go_sem];apply aBF (aTv o a);simp only[go_sem];apply aG [2,3] (aB _) s_ k_ rfl rfl (Y8 o.B o_);rintro r e ⟨rfl,rfl⟩;simp only[go_sem];apply cH (aB _) rfl rfl (Sk c.Sign o.B o.SR o.SS b d h2 (o.B_ok a) o_);rintro r e ⟨rfl,rfl⟩;refine⟨w_,k_,?_⟩;simp only[go_sem,mF]
def aFE(x:Id)(d:x.ok):aA PQ G qS [.ag x.A] [] λr e=>r=.own 0/\e=[some (.arr 1 (bl x.B))]:=by have:=aFw (G:=G) x.a x.b x.c.toNat d.1.1 d.1.2 d.2.1.1 d.2.1.2 (by have:=d.2.2;omega);rw[Int.toNat_of_nonneg d.2.2.1]at this;exact this
def J2(o:OpM)(j:o.ok):aA PQ G xQ [.ag o.A] [] λr T'=>r=.own 0/\T'=[some (.arr 1 (bl o.B))]:=by
 apply aC Nc;have y:∀n,n∈[o.By,o.Seq,o.Kind,o.At,o.Device,o.Old,o.Member,o.Role,o.N,o.Need,o.Wait]->mZ n:=j.ints;have y1:=j.past.1;have y2:=j.path.1;have y3:=j.refs.1;have y4:=j.guards.1;have y5:=j.boxes.1;have y6:=j.hist.1;have y7:=j.body.1;have z1:(cZ [o.By,o.Seq,o.Kind,o.At,(o.Past.length:Int)]).length<=50:=lF [o.By,o.Seq,o.Kind,o.At,(o.Past.length:Int)];have z2:(cZ [o.Device,o.Old,o.Member,o.Role,(o.Path.length:Int)]).length<=50:=lF [o.Device,o.Old,o.Member,o.Role,(o.Path.length:Int)];have z3:o.Epoch.B.length<=30:=Id.B_len _;have z4:(bN o.N).length<=10:=bX _;have z5:(rD o.Body).length<=1010:=by unfold rD;rw[dZ];have:=bX (o.Body.length:Int);omega
 have z6:(bN (o.Refs.length:Int)).length<=10:=bX _;have z7:(mP o.Refs).length<=10000:=by have:=AY o.Refs;omega
 have z8:o.Of.B.length<=30:=Id.B_len _;have z9:(bN (o.Guards.length:Int)).length<=10:=bX _;have am:(cZ o.Guards).length<=10000:=by have:=lF o.Guards;omega
 have al:(cZ [o.Need,o.Wait]).length<=20:=lF [o.Need,o.Wait];have ak:(vJ o.Boxes).length<=40010:=by unfold vJ;rw[dZ];have:=bX (o.Boxes.length:Int);have:=I4 o.Boxes;omega
 have aj:(gJ o.Pub).length<=10:=iP _;have ai:(bN (o.Hist.length:Int)).length<=10:=bX _;have R:∀x∈o.Past,x.B.length<=30:=λx _=>Id.B_len x;have Q:∀x∈o.Path,x.B.length<=4020:=λx h=>I6 (j.path.2 x h);have S:∀x∈o.Hist,x.B.length<=1040:=λx h=>I7 (j.hist.2 x h);have fl:∀{k:Nat}{W:O3},k<100000000->W.length<=k->(∀e∈bl W,∀c∈e,∃x,c=AV.v x):=λ_ _ e he c hc=>by obtain⟨n,_,rfl⟩:=dF.1 he;exact⟨_,aE5.1 hc⟩
 simp only[go_sem,aP];refine cH (aB _) rfl rfl (Sg [o.By,o.Seq,o.Kind,o.At,(o.Past.length:Int)] k_ (λn O=>?_)) ?_;simp only[cS,pP,or_false]at O;rcases O with h|h|h|h|h;exact h ▸ y _ k_;exact h ▸ y _ k_;exact h ▸ y _ k_;exact h ▸ y _ k_;subst h;exact⟨o_,o_⟩;rintro r T' ⟨rfl,rfl⟩;refine⟨w_,by simp only[aE5,xH,forall_eq];exact fl (k:=50) s_ z1,?_⟩;obtain⟨M,af⟩:∃M,M=cZ [o.By,o.Seq,o.Kind,o.At,(o.Past.length:Int)]:=⟨_,rfl⟩
 rw[<-af];have l1:M.length<=50:=by rw[af];exact z1
 simp only[go_sem];refine aQ o.Past.length (λi=>⟨0,[(1,.ptr 0 0),(3,.own 1),(4,iv i)],[some (.box o.A),some (.arr 1 (bl (M++((o.Past.take i).map Id.B).flatten)))]⟩) (λ_=>True) ?_ trivial ?_ ?_;simp only[go_sem,uQ,B9,jO];intro i l _;have g0:(o.Past.map Id.A)[i]?=some o.Past[i].A:=aO _ o.Past i l;have hk:=R o.Past[i] (eQ l);have k1:=AF R i (H9 l);have P:M++((o.Past.take (i+1)).map Id.B).flatten=(M++((o.Past.take i).map Id.B).flatten)++Id.B o.Past[i]:=by rw[Dq _ o.Past i l];simp only[lq2]
 have k3:(M++((o.Past.take i).map Id.B).flatten).length<=30060:=dc;rw[P];clear P;have z:=j.past.2 o.Past[i] (eQ l);generalize M++((o.Past.take i).map Id.B).flatten=X at *
 generalize o.Past[i]=x at *
 have ws:=fQ i o_;simp only[go_sem,aP,aT l,g0];have g:X.length+x.B.length<=140737488355328:=o_;have f:X.length+x.B.length<=maxLen:=g_;have d:(X.length+x.B.length)*1<=140737488355328:=o_;apply aBF (aFE x z);simp only[go_sem,aP,f,d,ws,bZ];intro _;rw[dE];obtain⟨A2,ae⟩:∃A2,A2=M++(o.Past.map Id.B).flatten:=⟨_,rfl⟩
 rw[<-ae];have l2:A2.length<=30050:=by rw[ae,dZ];have:=OT R;omega
 simp only[go_sem,aP,aS (bP _)];have g:A2.length+(cZ [o.Device,o.Old,o.Member,o.Role,(o.Path.length:Int)]).length<=140737488355328:=o_;have f:A2.length+(cZ [o.Device,o.Old,o.Member,o.Role,(o.Path.length:Int)]).length<=maxLen:=g_;have d:(A2.length+(cZ [o.Device,o.Old,o.Member,o.Role,(o.Path.length:Int)]).length)*1<=140737488355328:=o_;refine cH (aB _) rfl rfl (Sg [o.Device,o.Old,o.Member,o.Role,(o.Path.length:Int)] k_ (λn O=>?_)) ?_;simp only[cS,pP,or_false]at O;rcases O with h|h|h|h|h;exact h ▸ y _ k_;exact h ▸ y _ k_;exact h ▸ y _ k_;exact h ▸ y _ k_;subst h;exact⟨o_,o_⟩;rintro r T' ⟨rfl,rfl⟩;refine⟨w_,by simp only[aE5,xH,forall_eq];exact fl (k:=50) s_ o_,?_⟩;simp only[go_sem,aP,f,d];rw[<-bZ];obtain⟨L,ad⟩:∃L,L=A2++(cZ [o.Device,o.Old,o.Member,o.Role,(o.Path.length:Int)]):=⟨_,rfl⟩
 rw[<-ad];have l3:L.length<=30100:=by rw[ad,dZ];omega
 clear g f d;refine aQ o.Path.length (λi=>⟨0,[(1,.ptr 0 0),(3,.own 1),(5,iv i)],[some (.box o.A),some (.arr 1 (bl (L++((o.Path.take i).map NodeM.B).flatten)))]⟩) (λ_=>True) ?_ trivial ?_ ?_;simp only[go_sem,uQ,B9,jO]
 ·intro i l _;have g0:(o.Path.map NodeM.A)[i]?=some [uv o.Path[i].Pub,F5 o.Path[i].Boxes]:=aO _ o.Path i l;have hk:=Q o.Path[i] (eQ l);have k1:=AF Q i (H9 l);have P:L++((o.Path.take (i+1)).map NodeM.B).flatten=(L++((o.Path.take i).map NodeM.B).flatten)++NodeM.B o.Path[i]:=by rw[Dq _ o.Path i l];simp only[lq2]
  have k3:(L++((o.Path.take i).map NodeM.B).flatten).length<=70310:=dc;rw[P];clear P;have z:=j.path.2 o.Path[i] (eQ l);generalize L++((o.Path.take i).map NodeM.B).flatten=X at *
  generalize o.Path[i]=x at *
  have ws:=fQ i o_;simp only[go_sem,aP,aT l,g0];have u1:(gJ x.Pub).length<=10:=iP _;have u2:(vJ x.Boxes).length<=4010:=by unfold vJ;rw[dZ];have:=bX (x.Boxes.length:Int);have:=I4 x.Boxes;have:=z.2.1;omega
  have g:X.length+(gJ x.Pub).length<=140737488355328:=o_;have f:X.length+(gJ x.Pub).length<=maxLen:=g_;have d:(X.length+(gJ x.Pub).length)*1<=140737488355328:=o_;apply aBF (Qx x.Pub z.1);simp only[go_sem,aP,g0,f,d];rw[<-bZ];obtain⟨Y,T⟩:∃Y,Y=X++(gJ x.Pub):=⟨_,rfl⟩
  rw[<-T];have lY:Y.length<=70320:=by rw[T,dZ];omega
  clear g f d;have g:Y.length+(vJ x.Boxes).length<=140737488355328:=o_;have f:Y.length+(vJ x.Boxes).length<=maxLen:=g_;have d:(Y.length+(vJ x.Boxes).length)*1<=140737488355328:=o_;apply aBF (Y9 x.Boxes (by have:=z.2.1;omega) z.2.2);simp only[go_sem,aP,f,d,ws,bZ,NodeM.B];rw[T];simp only[bZ,lq2]
  try rfl
 intro _;rw[dE];obtain⟨A4,ac⟩:∃A4,A4=L++(o.Path.map NodeM.B).flatten:=⟨_,rfl⟩
 rw[<-ac];have l4:A4.length<=70300:=by rw[ac,dZ];have:=OT Q;omega
 simp only[go_sem,aP,aS (bP _)];have g:A4.length+o.Epoch.B.length<=140737488355328:=o_;have f:A4.length+o.Epoch.B.length<=maxLen:=g_;have d:(A4.length+o.Epoch.B.length)*1<=140737488355328:=o_;apply aBF (aFE o.Epoch j.epoch);simp only[go_sem,aP,f,d];rw[<-bZ];obtain⟨A5,ab⟩:∃A5,A5=A4++o.Epoch.B:=⟨_,rfl⟩
 rw[<-ab];have l5:A5.length<=70330:=by rw[ab,dZ];omega
 clear g f d;have g:A5.length+(bN o.N).length<=140737488355328:=o_;have f:A5.length+(bN o.N).length<=maxLen:=g_;have d:(A5.length+(bN o.N).length)*1<=140737488355328:=o_;apply aBF (vI o.N (y o.N k_).1 (y o.N k_).2);simp only[go_sem,aP,f,d,↓FX];rw[<-bZ];obtain⟨A6,aa⟩:∃A6,A6=A5++(bN o.N):=⟨_,rfl⟩
 rw[<-aa];have l6:A6.length<=70340:=by rw[aa,dZ];omega
 clear g f d;have g:A6.length+(rD o.Body).length<=140737488355328:=o_;have f:A6.length+(rD o.Body).length<=maxLen:=g_;have d:(A6.length+(rD o.Body).length)*1<=140737488355328:=o_;apply aBF (aDh (bsN o.Body) o.Body (Dr j.body.2) (I5 _) o_);simp only[go_sem,aP,f,d];rw[<-bZ];obtain⟨A7,Z⟩:∃A7,A7=A6++(rD o.Body):=⟨_,rfl⟩
 rw[<-Z];have l7:A7.length<=71350:=by rw[Z,dZ];omega
 clear g f d;have g:A7.length+(bN (o.Refs.length:Int)).length<=140737488355328:=o_;have f:A7.length+(bN (o.Refs.length:Int)).length<=maxLen:=g_;have d:(A7.length+(bN (o.Refs.length:Int)).length)*1<=140737488355328:=o_;apply aBF (vI (o.Refs.length:Int) o_ o_);simp only[go_sem,aP,f,d];rw[<-bZ];obtain⟨A8,V⟩:∃A8,A8=A7++(bN (o.Refs.length:Int)):=⟨_,rfl⟩
 rw[<-V];have l8:A8.length<=71360:=by rw[V,dZ];omega
 clear g f d;have g:A8.length+(mP o.Refs).length<=140737488355328:=o_;have f:A8.length+(mP o.Refs).length<=maxLen:=g_;have d:(A8.length+(mP o.Refs).length)*1<=140737488355328:=o_;apply aBF (aDg o.Refs o_ j.refs.2);simp only[go_sem,aP,f,d];rw[<-bZ];obtain⟨A9,U⟩:∃A9,A9=A8++(mP o.Refs):=⟨_,rfl⟩
 rw[<-U];have l9:A9.length<=81360:=by rw[U,dZ];omega
 clear g f d;have g:A9.length+o.Of.B.length<=140737488355328:=o_;have f:A9.length+o.Of.B.length<=maxLen:=g_;have d:(A9.length+o.Of.B.length)*1<=140737488355328:=o_;apply aBF (aFE o.Of j.of);simp only[go_sem,aP,f,d];rw[<-bZ];obtain⟨w,K⟩:∃w,w=A9++o.Of.B:=⟨_,rfl⟩
 rw[<-K];have aw:w.length<=81390:=by rw[K,dZ];omega
 clear g f d;have g:w.length+(bN (o.Guards.length:Int)).length<=140737488355328:=o_;have f:w.length+(bN (o.Guards.length:Int)).length<=maxLen:=g_;have d:(w.length+(bN (o.Guards.length:Int)).length)*1<=140737488355328:=o_;apply aBF (vI (o.Guards.length:Int) o_ o_);simp only[go_sem,aP,f,d];rw[<-bZ];obtain⟨u,J⟩:∃u,u=w++(bN (o.Guards.length:Int)):=⟨_,rfl⟩
 rw[<-J];have av:u.length<=81400:=by rw[J,dZ];omega
 clear g f d;have g:u.length+(cZ o.Guards).length<=140737488355328:=o_;have f:u.length+(cZ o.Guards).length<=maxLen:=g_;have d:(u.length+(cZ o.Guards).length)*1<=140737488355328:=o_;apply aBF (Sg o.Guards o_ j.guards.2);simp only[go_sem,aP,f,d];rw[<-bZ];obtain⟨t,I⟩:∃t,t=u++(cZ o.Guards):=⟨_,rfl⟩
 rw[<-I];have au:t.length<=91400:=by rw[I,dZ];omega
 clear g f d;have g:t.length+(cZ [o.Need,o.Wait]).length<=140737488355328:=o_;have f:t.length+(cZ [o.Need,o.Wait]).length<=maxLen:=g_;have d:(t.length+(cZ [o.Need,o.Wait]).length)*1<=140737488355328:=o_;refine cH (aB _) rfl rfl (Sg [o.Need,o.Wait] k_ (λn O=>?_)) ?_;simp only[cS,pP,or_false]at O;rcases O with h|h;exact h ▸ y _ k_;exact h ▸ y _ k_;rintro r T' ⟨rfl,rfl⟩;refine⟨w_,by simp only[aE5,xH,forall_eq];exact fl (k:=20) s_ o_,?_⟩;simp only[go_sem,aP,f,d];rw[<-bZ];obtain⟨s,H⟩:∃s,s=t++(cZ [o.Need,o.Wait]):=⟨_,rfl⟩
 rw[<-H];have ar:s.length<=91420:=by rw[H,dZ];omega
 clear g f d;have g:s.length+(vJ o.Boxes).length<=140737488355328:=o_;have f:s.length+(vJ o.Boxes).length<=maxLen:=g_;have d:(s.length+(vJ o.Boxes).length)*1<=140737488355328:=o_;apply aBF (Y9 o.Boxes o_ j.boxes.2);simp only[go_sem,aP,f,d];rw[<-bZ];obtain⟨q,F⟩:∃q,q=s++(vJ o.Boxes):=⟨_,rfl⟩
 rw[<-F];have aq:q.length<=131430:=by rw[F,dZ];omega
 clear g f d;have g:q.length+(gJ o.Pub).length<=140737488355328:=o_;have f:q.length+(gJ o.Pub).length<=maxLen:=g_;have d:(q.length+(gJ o.Pub).length)*1<=140737488355328:=o_;apply aBF (Qx o.Pub (j.nums o.Pub k_));simp only[go_sem,aP,f,d];rw[<-bZ];obtain⟨p,E⟩:∃p,p=q++(gJ o.Pub):=⟨_,rfl⟩
 rw[<-E];have ap:p.length<=131440:=by rw[E,dZ];omega
 clear g f d;have g:p.length+(bN (o.Hist.length:Int)).length<=140737488355328:=o_;have f:p.length+(bN (o.Hist.length:Int)).length<=maxLen:=g_;have d:(p.length+(bN (o.Hist.length:Int)).length)*1<=140737488355328:=o_;apply aBF (vI (o.Hist.length:Int) o_ o_);simp only[go_sem,aP,f,d];rw[<-bZ];obtain⟨m,D⟩:∃m,m=p++(bN (o.Hist.length:Int)):=⟨_,rfl⟩
 rw[<-D];have ao:m.length<=131450:=by rw[D,dZ];omega
 clear g f d;refine aQ o.Hist.length (λi=>⟨0,[(1,.ptr 0 0),(3,.own 1),(6,iv i)],[some (.box o.A),some (.arr 1 (bl (m++((o.Hist.take i).map SealM.B).flatten)))]⟩) (λ_=>True) ?_ trivial ?_ ?_;simp only[go_sem,uQ,B9,jO]
 ·intro i l _;have g0:(o.Hist.map SealM.A)[i]?=some [.v (.int .i64 o.Hist[i].Of.a),.v (.int .i64 o.Hist[i].Of.b),.v (.int .u64 o.Hist[i].Of.c),.ls 1 (bl o.Hist[i].Body)]:=aO _ o.Hist i l;have hk:=S o.Hist[i] (eQ l);have k1:=AF S i (H9 l);have P:m++((o.Hist.take (i+1)).map SealM.B).flatten=(m++((o.Hist.take i).map SealM.B).flatten)++SealM.B o.Hist[i]:=by rw[Dq _ o.Hist i l];simp only[lq2]
  have k3:(m++((o.Hist.take i).map SealM.B).flatten).length<=235460:=dc;rw[P];clear P;have z:=j.hist.2 o.Hist[i] (eQ l);generalize m++((o.Hist.take i).map SealM.B).flatten=X at *
  generalize o.Hist[i]=x at *
  have ws:=fQ i o_;simp only[go_sem,aP,aT l,g0];have u1:x.Of.B.length<=30:=Id.B_len _;have u2:(rD x.Body).length<=1010:=by unfold rD;rw[dZ];have:=bX (x.Body.length:Int);have:=z.2.1;omega
  have g:X.length+x.Of.B.length<=140737488355328:=o_;have f:X.length+x.Of.B.length<=maxLen:=g_;have d:(X.length+x.Of.B.length)*1<=140737488355328:=o_;apply aBF (aFE x.Of z.1);simp only[go_sem,aP,g0,f,d,↓FX];rw[<-bZ];obtain⟨Y,T⟩:∃Y,Y=X++x.Of.B:=⟨_,rfl⟩
  rw[<-T];have lY:Y.length<=235490:=by rw[T,dZ];omega
  clear g f d;have g:Y.length+(rD x.Body).length<=140737488355328:=o_;have f:Y.length+(rD x.Body).length<=maxLen:=g_;have d:(Y.length+(rD x.Body).length)*1<=140737488355328:=o_;apply aBF (aDh (bsN x.Body) x.Body (Dr z.2.2) (I5 _) (by have:=z.2.1;omega));simp only[go_sem,aP,f,d,ws,bZ,SealM.B];rw[T];simp only[bZ,lq2]
  try rfl
 intro _;rw[dE];obtain⟨ah,C⟩:∃ah,ah=m++(o.Hist.map SealM.B).flatten:=⟨_,rfl⟩
 rw[<-C];have an:ah.length<=235450:=by rw[C,dZ];have:=OT S;omega
 simp only[go_sem,aP,aS (bP _)];rw[C,D,E,F,H,I,J,K,U,V,Z,aa,ab,ac,ad,ae,af];simp only[OpM.B,aIK,vJ,lq2,jO,cZ,mP,fG,uP,zK,B9]
def Sm:O3:=[110,111,110,99,101]
def vW:O3:=[115,105,103,110]
def ZC:O3:=[108,101,97,100]
def ZD:O3:=[107,101,101,112]
def lT:Nat:=2305843009213693950
def CM:Nat->Nat->Nat->Nat->Nat|0,_,_,out=>out|n+1,a,b,out=>if b=0 then out else CM n ((a+a)%lT) (b/2) (if b%2=1 then(out+a)%lT else out)
def J3:∀(n a b out:Nat),b<2^n->out<lT->CM n a b out=(out+a*b)%lT
 |0,a,b,out,g,f=>by
  have:b=0:=dg;subst this;rw[CM,aGN,mG,EZ f]
 | n+1,a,b,out,g,f=>by
  rw[CM];split;rename_i h;subst h;rw[aGN,mG,EZ f];have d:b/2<2^n:=by rw[QM]at g;omega
  have c:0<lT:=s_;have e:a*b=(a+a)*(b/2)+a*(b%2):=by
   have:=QL b 2
   conv=>lhs;rw[<-this]
   rw[Nat.mul_add,<-aBZ];congr 2;omega
  split;rename_i i;rw[J3 n _ _ _ d (zM _ c),e,i,Bb];rw[Tc,Mn,CY,Mn,<-CY,<-Tc];congr 1;omega;rename_i i;have j:b%2=0:=o_;rw[J3 n _ _ _ d f,e,j,aGN,mG,Tc,CY,Mn,<-CY,<-Tc]
def He(a b:Nat):Nat:=(a*b)%lT
def vX(a:Nat)(b:O3):Nat:=Px Sm [a,(Sj b).val]
def B1(a:Nat)(b:O3):Fq:=(37:Fq)^vX a b
def I9(a:Nat)(b:O3):Nat:=(vX a b+He (I8 (B1 a b).val ((37:Fq)^a).val b).val a)%lT
def AG(a:O3)(d:Nat):Nat:=Px a [d]
def cM(o:OpM):OpM:={o with SR:=(B1 (AG vW o.By.toNat) o.B).val,SS:=I9 (AG vW o.By.toNat) o.B}
def J4(a b:O3):Px a b<2^64:=QJ (Sf a b).2 s_
def Ut(o:OpM)(a:o.ok):aA PQ G Ij [.ag o.A] [] λr T=>r=.ag (C7 o).A/\T=[]:=by refine aC UG ?_;have b:=o.B_len a;simp only[go_sem];apply aBF (J2 o a);simp only[go_sem];apply cH (aB _) rfl rfl (Uk _ lOp o.B K_ K_ (Az s_) s_ (o.B_ok a) o_);rintro r c ⟨rfl,rfl⟩;refine⟨w_,k_,?_⟩;simp only[go_sem];rfl
def AH:aA PQ G kY [] [] λr T=>r=uv lT/\T=[]:=by refine aC OL ?_;simp only[go_sem,lT];rfl
def c_m(b:O3)(c:xN b)(a:b.length<=1000000):aA PQ G MA [.ls 1 (bl b)] [] λr T=>r=.v (fu (Sj b))/\T=[]:=by refine aC Wz ?_;simp only[go_sem];apply cX (Uk _ Si b K_ K_ (Az s_) s_ c a);simp only[go_sem];rfl
def c_e(r a:Nat)(b:O3)(d:r<2^64)(e:a<2^64)(g:xN b)(f:b.length<=1000000):aA PQ G MB [uv r,uv a,.ls 1 (bl b)] [] λx T=>x=.v (fu (I8 r a b))/\T=[]:=by refine aC W0 ?_;simp only[go_sem];apply cX (c_m b g f);simp only[go_sem];refine cH (aB _) rfl rfl (aDc _ aI5 [r,a,(Sj b).val] K_ K_ (Az s_) s_ (λn c=>?_) k_) ?_;simp only[cS,pP,or_false]at c;rcases c with rfl|rfl|rfl;exact d;exact e;exact Cr _;rintro x h ⟨rfl,rfl⟩;refine⟨w_,k_,?_⟩;simp only[go_sem];rfl
def GJ(s:Nat)(a:s<2^64):aA PQ G AW [uv s] [] λr T=>r=.v (fu ((37:Fq)^s))/\T=[]:=by refine aC Sd ?_;simp only[go_sem];apply aU (R:=.v (fu ((37:Fq)^s))) (aB _) rfl (Uf (37:Fq) s a) rfl;simp only[go_sem]
def aFF(a b:Nat)(F:a<2^64)(D:b<2^64):aA PQ G E6 [uv a,uv b] [] λr T=>r=uv (He a b)/\T=[]:=by
 apply aC OK;have c:0<lT:=s_;have v:bV .rem (.int .u64 (a:Int)) (.int .u64 (lT:Nat))=some (.int .u64 ((a%lT:Nat):Int)):=mD a lT (Ta c);have u:bV .rem (.int .u64 (b:Int)) (.int .u64 (lT:Nat))=some (.int .u64 ((b%lT:Nat):Int)):=mD b lT (Ta c);simp only[go_sem];apply cX AH;simp only[go_sem,↓v];apply cX AH;simp only[go_sem,↓u];have i:CM 64 (a%lT) (b%lT) 0=He a b:=by rw[J3 64 _ _ _ (QQ (zM _ c) s_) c,pQ,He,<-CY]
 rw[<-i];have o:=zM a c;have m:b%lT<2^64:=QQ (zM _ c) s_;generalize a%lT=a at *
 generalize b%lT=b at *
 clear i F D v u;refine cO (λn s=>∃d e out,CM n d e out=CM 64 a b 0/\d<lT/\e<2^n/\n<=64/\out<lT/\s=⟨0,[(0,uv d),(1,uv e),(5,uv out)],[]⟩) 64 ⟨a,b,0,rfl,o,m,cN _,c,?_⟩ ?_;simp only[go_sem];rfl;rintro n s ⟨d,e,out,C,E,h,B,l,rfl⟩;rw[<-C];have I:lT=2305843009213693950:=rfl;by_cases p:e=0;subst p;have q:decide (((0:Nat):Int)>0)=false:=s_;have H:CM n d 0 out=out:=by cases n<;>simp[CM]
 rw[H];simp only[go_sem]
 cases n with
 |zero=>exact absurd (n_:e=0) p| succ n=>
  have q:decide ((e:Int)>0)=true:=decide_eq_true o_;have j:e<2^64:=CV h (Gl s_ B);have z:bV .rem (.int .u64 (e:Int)) (.int .u64 2)=some (.int .u64 ((e%2:Nat):Int)):=mD e 2 s_;have w:bV .quo (.int .u64 (e:Int)) (.int .u64 2)=some (.int .u64 ((e/2:Nat):Int)):=Cp e 2 s_ j;have x:bV .add (.int .u64 (d:Int)) (.int .u64 (d:Int))=some (.int .u64 ((d+d:Nat):Int)):=eY d d o_;have t:bV .rem (.int .u64 ((d+d:Nat):Int)) (.int .u64 (lT:Nat))=some (.int .u64 (((d+d)%lT:Nat):Int)):=mD (d+d) lT (Ta c);have A:bV .add (.int .u64 (out:Int)) (.int .u64 (d:Int))=some (.int .u64 ((out+d:Nat):Int)):=eY out d o_;have y:bV .rem (.int .u64 ((out+d:Nat):Int)) (.int .u64 (lT:Nat))=some (.int .u64 (((out+d)%lT:Nat):Int)):=mD (out+d) lT (Ta c);have f:e/2<2^n:=dH;rw[CM,if_neg p];simp only[go_sem,q,↓z];by_cases g:e%2=1;have k:(((e%2:Nat):Int)==1)=true:=by rw[g];rfl
  rw[if_pos g];simp only[go_sem,k,↓A];apply cX AH;simp only[go_sem,↓y,↓x];apply cX AH;simp only[go_sem,↓t,↓w];exact⟨n,o_,_,_,_,rfl,zM _ c,f,o_,zM _ c,rfl⟩;have k:(((e%2:Nat):Int)==1)=false:=by rw[(o_:e%2=0)];rfl
  rw[if_neg g];simp only[go_sem,k,↓x];apply cX AH;simp only[go_sem,↓t,↓w];exact⟨n,o_,_,_,_,rfl,zM _ c,f,o_,l,rfl⟩
def Uu(a:Nat)(b:O3)(R S:Nat)(j:a<2^64)(n:R<2^64)(m:S<2^64)(l:xN b)(k:b.length<=1000000):aA PQ G E4 [uv a,.ls 1 (bl b),.ag [uv R,uv S]] [] λr T=>r=.v (.bool (BW a b R S))/\T=[]:=by
 apply aC ON;have o:lT=2305843009213693950:=rfl;have i:∀x:Nat,decide ((x:Int)<1)=!decide (1<=x):=λx=>by rw[aO8];simp;omega
 have h:∀x:Nat,decide ((lT:Int)<(x:Int))=!decide (x<=2305843009213693950):=λx=>by rw[aO8];simp;omega
 have g:decide ((lT:Int)<=(S:Int))=!decide (S<=2305843009213693949):=by rw[aO8];simp;omega
 simp only[go_sem,i];cases c:decide (1<=a);simp only[go_sem,undef,BW,c,lR];simp only[go_sem];apply cX AH;simp only[go_sem,gt_iff_lt,h];cases h2:decide (a<=2305843009213693950);simp only[go_sem,undef,BW,c,h2,lR,Ea];simp only[go_sem,i];cases d:decide (1<=R);simp only[go_sem,undef,BW,c,h2,d,lR,Ea];simp only[go_sem];apply cX AH;simp only[go_sem,gt_iff_lt,h];cases e:decide (R<=2305843009213693950);simp only[go_sem,undef,BW,c,h2,d,e,lR,Ea];simp only[go_sem];apply cX AH;simp only[go_sem,ge_iff_le,g];cases f:decide (S<=2305843009213693949);simp only[go_sem,BW,c,h2,d,e,f,lR,Ea];simp only[decide_eq_true_eq]at c h2 d e f;have u1:uv a=.v (fu (TP a)):=by simp only[fu,MN (o_:a<2305843009213693951)]
 have u2:uv R=.v (fu (TP R)):=by simp only[fu,MN (o_:R<2305843009213693951)]
 simp only[go_sem];apply aU (R:=.v (fu ((37:Fq)^S))) (aB _) rfl (Uf (37:Fq) S m) rfl;simp only[go_sem];apply cX (c_e R a b n j l k);simp only[go_sem];apply aU (R:=.v (fu (TP a^(I8 R a b).val))) (aB _) rfl (by rw[u1];exact Uf (TP a) (I8 R a b).val (Cr _)) rfl;simp only[go_sem];apply aU (R:=.v (fu (TP R*TP a^(I8 R a b).val))) (aB _) rfl (by rw[u2];exact Ue (TP R) _) rfl;have g:∀x y:Fq,((x.val:Int)==(y.val:Int))=decide (x=y):=λx y=>by rw[aO8];simp[Fin.ext_iff];omega
 simp only[go_sem,g,BW];simp[c,h2,d,e,f]
def aI7(s:Nat)(b:O3)(d:s<2^64)(g:xN b)(f:b.length<=1000000):aA PQ G HN [uv s,.ls 1 (bl b)] [] λr T=>r=.ag [.v (fu (B1 s b)),uv (I9 s b)]/\T=[]:=by
 apply aC Pv;have a:0<lT:=s_;have k:lT=2305843009213693950:=rfl;simp only[go_sem];apply cX (c_m b g f);simp only[go_sem];refine cH (aB _) rfl rfl (Qy _ Sm [s,(Sj b).val] K_ K_ (Az s_) s_ (λn e=>?_) k_) ?_;simp only[cS,pP,or_false]at e;rcases e with rfl|rfl;exact d;exact Cr _;rintro x m ⟨rfl,rfl⟩;refine⟨w_,k_,?_⟩;have l:vX s b<2305843009213693950:=by have:=Sf Sm [s,(Sj b).val];unfold vX;omega
 rw[show Px Sm [s,(Sj b).val]=vX s b from rfl];simp only[go_sem];apply aU (R:=.v (fu (B1 s b))) (aB _) rfl (Uf (37:Fq) (vX s b) o_) rfl;simp only[go_sem];apply cX (GJ s d);simp only[go_sem];apply cX (c_e (B1 s b).val ((37:Fq)^s).val b (Cr _) (Cr _) g f);simp only[go_sem];apply cX (aFF (I8 (B1 s b).val ((37:Fq)^s).val b).val s (Cr _) d);obtain⟨x,c⟩:∃x,x=He (I8 (B1 s b).val ((37:Fq)^s).val b).val s:=⟨_,rfl⟩
 rw[<-c];have i:x<lT:=by rw[c];exact zM _ a
 have j:bV .add (.int .u64 (vX s b:Int)) (.int .u64 (x:Int))=some (.int .u64 ((vX s b+x:Nat):Int)):=eY (vX s b) x o_;have h:bV .rem (.int .u64 ((vX s b+x:Nat):Int)) (.int .u64 (lT:Nat))=some (.int .u64 (((vX s b+x)%lT:Nat):Int)):=mD (vX s b+x) lT (Ta a);simp only[go_sem,↓j];apply cX AH;simp only[go_sem,↓h];rw[c];rfl
def AI(S:ByteArray)(a:O3)(d:Nat)(h:lJ S=bl a)(e:S.size=a.length)(g:xN a)(f:a.length<=1000)(i:d<=2^63-1):aA PQ G rP [.v (.string S),iv d] [] λr T=>r=uv (AG a d)/\T=[]:=by refine aC LM ?_;have c:IntKind.u64.wrap (d:Int)=(d:Int):=bS d o_;simp only[go_sem,c];refine cH (aB _) rfl rfl (Qy S a [d] h e g f (λn b=>?_) k_) ?_;simp only[aE5]at b;subst b;omega;rintro x j ⟨rfl,rfl⟩;refine⟨w_,k_,?_⟩;simp only[go_sem];rfl
def OX(o:OpM)(b:o.ok)(e:0<=o.By):aA PQ G jK [.ag o.A] [] λr T=>r=.ag (cM o).A/\T=[]:=by
 apply aC LL;have f:=o.B_len b;have g:=(b.ints o.By k_).2;obtain⟨d,a⟩:∃d:Nat,o.By=(d:Int):=⟨o.By.toNat,o_⟩
 have c:o.By.toNat=d:=sf;simp only[go_sem];apply aU (R:=uv (AG vW o.By.toNat)) (aB _) rfl (by rw[c,a];exact AI _ vW d K_ K_ (Az s_) s_ o_) rfl;simp only[go_sem];apply aBF (J2 o b);simp only[go_sem];apply cH (aB _) rfl rfl (aI7 (AG vW o.By.toNat) o.B (J4 _ _) (o.B_ok b) o_);rintro x h ⟨rfl,rfl⟩;refine⟨by simp only[fX,tC];trivial,k_,?_⟩;simp only[go_sem,OpM.A_def,cM]
def aKc(l:O4)(x:Int)(k:l.length<2^63-1):aA PQ G F7 [rG l,iv x] [] λr T=>r=.v (.bool (decide (x∈l)))/\T=[]:=by
 apply aC Sc;simp only[go_sem];refine aQ l.length (λi=>⟨0,[(0,rG l),(1,iv x),(5,iv i)],[]⟩) (λi=>∀j(a:j<l.length),j<i->l[j]≠x) ?_ og ?_ ?_;simp only[go_sem];intro i b c;have g:(l.map λn=>[iv n])[i]?=some [iv l[i]]:=aO _ l i b;simp only[go_sem,aP,aT b,g];refine aL (λh=>?_) (λh=>?_)<;>simp only[go_sem,fQ i o_];grind;grind;intro c;have e:¬x∈l:=λd=>by obtain⟨j,a,f⟩:=CU d;exact c j a a f
 simp only[go_sem,aP,aS (bP _),decide_eq_false e]
def Dt(g:GM)(x:Id)(d:g.ok):aA PQ G oJ [.ag g.A,.ag x.A] [] λr T=>r=iv (aW g.I x)/\T=[]:=by
 apply aC NZ;have f:g.I.length<(2^63-1):=by have:=d.i;have:=d.n;omega
 simp only[go_sem];refine aQ g.I.length (λi=>⟨0,[(2,.ptr 0 0),(3,.ptr 1 0),(5,iv i)],[some (.box g.A),some (.box x.A)]⟩) (λi=>∀j(a:j<g.I.length),j<i->decide (g.I[j]=x)=false) ?_ og ?_ ?_;simp only[go_sem];intro i b c;have e:(g.I.map Id.A)[i]?=some g.I[i].A:=aO _ g.I i b;simp only[go_sem,aP,aT b,e];refine aL (λh=>?_) (λh=>?_)<;>simp only[go_sem,fQ i o_];rw[aW,mC b c h];grind;intro c;simp only[go_sem,aP,aS (bP _)];rw[aW,lD λj a=>c j a a]
def Uv(g:GM)(d:Int)(m:g.ok):aA PQ G DT [.ag g.A,iv d] [] λr T=>r=.tup [.ag (gM g.Cards d).1.A,.v (.bool (gM g.Cards d).2)]/\T=[]:=by
 apply aC PW;have n:g.Cards.length<(2^63-1):=by have:=m.cn;omega
 simp only[go_sem];refine aQ g.Cards.length (λi=>⟨0,[(1,iv d),(2,.ptr 0 0),(4,.ptr 1 0),(6,iv i)],[some (.box g.A),some (.box [iv 0,iv 0,AV.v (.int .u64 0),AV.v (.int .u64 0),AV.v (.int .u64 0)])]⟩) (λi=>∀j(a:j<g.Cards.length),j<i->(g.Cards[j].Device==d)=false) ?_ og ?_ ?_;simp only[go_sem];intro i b f;have k:(g.Cards.map CardM.A)[i]?=some [iv g.Cards[i].Device,iv g.Cards[i].Member,uv g.Cards[i].Lead,uv g.Cards[i].Keep,uv g.Cards[i].Sign]:=aO _ g.Cards i b;simp only[go_sem,aP,aT b,k];refine aL (λh=>?_) (λh=>?_)<;>simp only[go_sem,k,fQ i o_];have e:g.Cards.find? (λc=>c.Device==d)=some g.Cards[i]:=aBG.2 ⟨h,i,b,rfl,λj a=>by simp[f j o_ a]⟩;simp only[gM,e,CardM.A_def];grind;intro f;have e:g.Cards.find? (λc=>c.Device==d)=none:=Eb.2 λx l=>by obtain⟨j,a,rfl⟩:=CU l;simp[f j a a]
 simp only[go_sem,aP,aS (bP _),gM,e,CardM.A_def];rfl
def aFG(l:O3):Sa l=rG (l.map λn:Nat=>(n:Int)):=k_
def aDr{l:O3}{i:Nat}:decide ((i:Int)∈l.map λn:Nat=>(n:Int))=decide (i∈l):=m_
theorem yB(u:O3)(b:List Bool):(u.foldl (λb k=>b.set k true) b).length=b.length:=by
 induction u generalizing b with
 |nil=>rfl|cons k u ih=>rw[CW,ih,cL]
def Q1(c:List O3)(b:O3)(a:List Bool)(i:Nat):(OG c b a i).length=a.length:=by grind[OG,yB]
def Q2(c:List O3)(b:O3):∀(n:Nat)(a:List Bool),(Kx c b n a).length=a.length|0,_=>rfl|n+1,a=>by rw[Kx,Q2 c b n,Q1]
theorem Cs(g:GM)(a:O3):(oL g a).length=g.L.length:=by rw[oL,Q2,QE]
def JA(u:O3)(b:List Bool)(i:Nat)(h:i<u.length):(u.take (i+1)).foldl (λb k=>b.set k true) b=((u.take i).foldl (λb k=>b.set k true) b).set u[i] true:=by rw[lq8 h,Hy];rfl
def aI8(l:O3)(i:Nat)(a:l.length<2^63-1):aA PQ G F7 [Sa l,iv i] [] λr T=>r=.v (.bool (decide (i∈l)))/\T=[]:=by rw[aFG,<-aDr];exact aKc _ (i:Int) oe
abbrev VR(a:List Bool):List (List AV):=a.map λb=>[AV.v (.bool b)]
def Sn(a:List Bool)(i:Nat)(b:Bool):(VR a).set i [AV.v (.bool b)]=VR (a.set i b):=k_
def W5 (g:GM) (up:O3) (hg:g.ok) (hu:up.length<=1000):aA PQ G DN [.ag g.A,Sa up] [] λr T=>r=.own 0/\T=[some (.arr 1 (VR (oL g up)))]:=by
 apply aC PZ;have hn:=hg.n;have b1:(g.L.length:Int)*1<=140737488355328:=o_;have b2:(g.L.length:Int)<=(maxLen:Nat):=g_;have hz:(0:Int)<=(g.L.length:Int):=o_;have w1:IntKind.i64.wrap ((g.L.length:Int)-1)=(g.L.length:Int)-1:=aJ o_ o_;simp only[go_sem,aP,b1,b2,hz,w1,Int.le_refl];refine cO (λn s=>∃a:List Bool,a.length=g.L.length/\n<=g.L.length/\Kx g.Up up n a=oL g up/\s=⟨0,[(1,Sa up),(2,.ptr 0 0),(5,.own 1),(6,iv ((n:Int)-1))],[some (.box g.A),some (.arr 1 (VR a))]⟩) g.L.length ⟨List.replicate g.L.length false,k_,cN _,rfl,?_⟩ ?_;simp only[go_sem,YH];rintro n s ⟨a,ha,hnl,hR,rfl⟩
 cases n with
 |zero=>
  have t1:decide ((0:Int)<=((0:Nat):Int)-1)=false:=s_;rw[<-hR];simp only[go_sem,ge_iff_le,Kx]
 | succ i=>
  have e0:(((i+1:Nat):Int)-1)=(i:Int):=o_;have t1:decide ((0:Int)<=(i:Int))=true:=decide_eq_true o_;have w2:IntKind.i64.wrap ((i:Int)-1)=(i:Int)-1:=aJ o_ o_;rw[e0];simp only[go_sem,ge_iff_le];apply cX (aI8 up i o_);obtain⟨a1,ha1⟩:∃a1,a1=(if decide (i∈up) then a.set i true else a):=⟨_,rfl⟩
  have hl1:a1.length=g.L.length:=m_;have hil:i<g.L.length:=o_;have g0:(VR a)[i]?=some [AV.v (.bool (a.getD i false))]:=e_;have g1:(VR a1)[i]?=some [AV.v (.bool (a1.getD i false))]:=e_;have hU:(g.Up.map λl=>[Sa l])[i]?=some [Sa (g.Up.getD i [])]:=by rw[gE,rH,jN (by rw[hg.un];omega)];rfl
  have hUm:g.Up.getD i []∈g.Up:=m_;obtain⟨hul,huk⟩:=hg.up _ hUm;have hstep:OG g.Up up a i=if a1.getD i false then(g.Up.getD i []).foldl (λb k=>b.set k true) a1 else a1:=by rw[ha1];rfl
  rw[Kx,hstep]at hR;have hul2:=hg.un;clear hstep;generalize g.Up.getD i []=u at *
  simp only[go_sem];refine aL (λh=>?_) (λh=>?_);have hs:=Sn a i true;have hai:a1=a.set i true:=by rw[ha1,if_pos h]
  simp only[go_sem,aP,ha,hil,g0,hs,<-hai,hl1,g1];cases hb:a1.getD i false;grind;rw[hb,if_pos rfl]at hR;simp only[go_sem];refine aQ u.length (λj=>⟨0,[(1,Sa up),(2,.ptr 0 0),(5,.own 1),(6,iv i),(7,iv j)],[some (.box g.A),some (.arr 1 (VR ((u.take j).foldl (λb k=>b.set k true) a1)))]⟩) (λ_=>True) ?_ trivial ?_ ?_;simp only[go_sem,uQ,Kk];intro j hj _;have hk:=huk u[j] (eQ hj);have gj:(u.map λn:Nat=>[iv (n:Int)])[j]?=some [iv (u[j]:Nat)]:=aO _ u j hj;have hl2:((u.take j).foldl (λb k=>b.set k true) a1).length=g.L.length:=by rw[yB,hl1]
  rw[JA u a1 j hj,<-Sn];generalize(u.take j).foldl (λb k=>b.set k true) a1=c at *
  generalize u[j]=q at *
  have g2:(VR c)[q]?=some [AV.v (.bool (c.getD q false))]:=m_;simp only[go_sem,aP,hU,aT hj,gj,hl2,hk,g2,fQ j o_];intro _;rw[dE];simp only[go_sem,aP,hU,aS (bP _),w2];grind[yB];have hai:a1=a:=e_;rw[<-hai]at ha g0⊢;simp only[go_sem,aP,hl1,hil,g1];cases hb:a1.getD i false;rw[hb]at hR;simp only[jJ,if_false]at hR;simp only[go_sem,w2];grind;rw[hb,if_pos rfl]at hR;simp only[go_sem];refine aQ u.length (λj=>⟨0,[(1,Sa up),(2,.ptr 0 0),(5,.own 1),(6,iv i),(7,iv j)],[some (.box g.A),some (.arr 1 (VR ((u.take j).foldl (λb k=>b.set k true) a1)))]⟩) (λ_=>True) ?_ trivial ?_ ?_;simp only[go_sem,uQ,Kk];intro j hj _;have hk:=huk u[j] (eQ hj);have gj:(u.map λn:Nat=>[iv (n:Int)])[j]?=some [iv (u[j]:Nat)]:=aO _ u j hj;have hl2:((u.take j).foldl (λb k=>b.set k true) a1).length=g.L.length:=by rw[yB,hl1]
  rw[JA u a1 j hj,<-Sn];generalize(u.take j).foldl (λb k=>b.set k true) a1=c at *
  generalize u[j]=q at *
  have g2:(VR c)[q]?=some [AV.v (.bool (c.getD q false))]:=e_;simp only[go_sem,aP,hU,aT hj,gj,hl2,hk,g2,fQ j o_];intro _;rw[dE];simp only[go_sem,aP,hU,aS (bP _),w2];grind[yB]
def ZE{α:Type}(p:α->Bool)(l:List α)(i:Nat)(h:i<l.length):(l.take (i+1)).any p=((l.take i).any p||p l[i]):=by rw[lq8 h,List.any_append];simp
def ZF(g:GM)(o:OpM)(a:List Bool)(P:g.ok)(K:o.ok)(U:1<=o.Seq)(O:a.length=g.L.length):aA PQ G E5 [.ag g.A,.ag o.A,wI a] [] λr T=>r=.v (.bool (FT g.L o a))/\T=[]:=by
 apply aC Nh;have V:=P.n;have f:=K.ints o.Seq k_;have J:IntKind.i64.wrap (o.Seq-1)=o.Seq-1:=aJ (by have:=f.1;omega) (by have:=f.2;omega);obtain⟨z,D⟩:∃z,z=g.L.zip a:=⟨_,rfl⟩
 have l:z.length=g.L.length:=by rw[D];simp[O]
 have R:FT g.L o a=(z.all (λe=>!(I0 o e)||decide (e.1.Seq<o.Seq))&&((o.Seq==1)||z.any λe=>I0 o e&&e.1.Seq==o.Seq-1)):=by rw[D];rfl
 simp only[go_sem];refine aQ g.L.length (λi=>⟨0,[(2,wI a),(3,.ptr 0 0),(4,.ptr 1 0),(7,.v (.bool ((z.take i).any λe=>I0 o e&&e.1.Seq==o.Seq-1))),(8,iv i)],[some (.box g.A),some (.box o.A)]⟩) (λi=>∀j(t:j<z.length),j<i->(!(I0 o z[j])||decide (z[j].1.Seq<o.Seq))=true) ?_ (by intro j t h;omega) ?_ ?_;simp only[go_sem,uQ,List.any_nil];intro i u B;have F:i<z.length:=o_;have I:(g.L.map OpM.A)[i]?=some g.L[i].A:=aO _ g.L i u;have S:(a.map λb=>[AV.v (.bool b)])[i]?=some [AV.v (.bool a[i])]:=aO _ a i o_;have m:z[i]=(g.L[i],a[i]):=by subst D;simp
 have y:=fQ i o_;have N:i<a.length:=o_;rw[ZE _ z i F];have s:=B;have c:(!(I0 o z[i])||decide (z[i].1.Seq<o.Seq))=true->∀j(t:j<z.length),j<i+1->(!(I0 o z[j])||decide (z[j].1.Seq<o.Seq))=true:=λh j t M=>m_;have d:(!(I0 o z[i])||decide (z[i].1.Seq<o.Seq))=false->FT g.L o a=false:=λh=>m_;rw[m]at c d⊢;have k:I0 o (g.L[i],a[i])=(a[i]&&g.L[i].By==o.By):=rfl;rw[k]at c d⊢;clear B s m k;generalize((z.take i).any λe=>I0 o e&&e.1.Seq==o.Seq-1)=C;generalize a[i]=b at *
 generalize g.L[i]=x at *
 have E:(x.By !=o.By)=!(x.By==o.By):=rfl;simp only[go_sem,aP,aT u,S];cases b;simp only[go_sem,undef,y,lR,EB];exact c rfl;simp only[go_sem,I,E];cases H:(x.By==o.By);simp only[go_sem,y,mF,lR,EB];simp_all;rw[H]at c d;simp only[go_sem,I,ge_iff_le];have Q:decide (o.Seq<=x.Seq)=!decide (x.Seq<o.Seq):=m_;rw[Q];cases q:decide (x.Seq<o.Seq);rw[q]at d;simp only[go_sem,d rfl];rw[q]at c;simp only[go_sem];cases C;simp only[go_sem,y,I,J,mF,EH];exact c rfl;simp only[go_sem,undef,y,mF,EI];exact c rfl;intro B;have w:=Bu (p:=λe=>!(I0 o e)||decide (e.1.Seq<o.Seq)) λj t _=>B j t o_;rw[<-l,dE];rw[R,w,mF];simp only[go_sem,aP,l,aS (bP _)];cases W:(o.Seq==1);simp only[go_sem,EH];simp only[go_sem,undef,EI]
def AZ(I:O6)(x:Id):aW I x<I.length/\-1<=aW I x:=by
 unfold aW qX
 cases h:I.findIdx? (λy=>decide (y=x)) with
 |none=>simp;omega|some i=>
  obtain⟨a,_⟩:=Ad.1 h;simp;omega
def CN(g:GM)(o:OpM)(a:O3):Int×O3:=if J0 g o a=false then(6,[]) else if FT g.L o (oL g a)=false then(11,[]) else(0,a)
def BA(g:GM)(o:OpM):Int×O3:=match Pu g.I o.Past with|none=>(10,[])|some a=>CN g o a
def Du(g:GM)(o:OpM):Int×O3 :=
 if 0<=aW g.I (C7 o) then(5,[])
 else if 200<=g.L.length then(3,[])
 else if(gM g.Cards o.By).2=false then(17,[])
 else if BW (gM g.Cards o.By).1.Sign o.B o.SR o.SS=false then(12,[])
 else if(o.Kind==1&&decide (0<g.L.length))=true then(1,[])
 else BA g o
def dV(g:GM)(o:OpM):Int×O3:=if jB o≠0 then(jB o,[]) else Du g o
def Dv{o:OpM}(h:jB o=0):1<=o.Seq/\1<=o.By/\o.By<=12/\0<=o.At:=by unfold jB at h;grind[fP,oI]
def Uw{cs:List CardM}{d:Int}(h:∀c∈cs,c.ok):(gM cs d).1.Sign<2^64:=by unfold gM;split;rename_i c e;exact(h c (Mg e)).2.2.2.2;decide
def aDs (g:GM) (o:OpM) (z:g.ok) (M:o.ok):aA PQ G Bk [.ag g.A,.ag o.A] [] λr T=>r=.tup [iv (dV g o).1,.own 0]/\T=[some (.arr 1 ((dV g o).2.map λn:Nat=>[iv (n:Int)]))]:=by
 apply aC Nd;have hn:=z.n;have aj:=M.past.1;simp only[go_sem];apply cX (aFq o M);simp only[go_sem];refine aL (λh=>?_) (λh=>?_);simp only[bne_iff_ne,ne_eq]at h;simp only[go_sem,dV,h];simp only[bne_eq_false_iff_eq]at h;have k1:=h;have u:dV g o=Du g o:=by grind[dV]
 unfold Du at u;clear h;simp only[go_sem];apply cX (Ut o M);simp only[go_sem];apply cX (Dt g (C7 o) z);simp only[go_sem,ge_iff_le];refine aL (λh=>?_) (λh=>?_)<;>simp only[decide_eq_true_eq,decide_eq_false_iff_not]at h;rw[u,if_pos h];simp only[go_sem];rw[if_neg h]at u;clear h;have ac:decide ((200:Int)<=(g.L.length:Int))=decide (200<=g.L.length):=c_;simp only[go_sem,aP,ge_iff_le,ac];refine aL (λh=>?_) (λh=>?_)<;>simp only[decide_eq_true_eq,decide_eq_false_iff_not]at h;rw[u,if_pos h];simp only[go_sem];rw[if_neg h]at u;clear h;simp only[go_sem];apply cX (Uv g o.By z);simp only[go_sem,CardM.A_def];cases V:(gM g.Cards o.By).2;rw[u,if_pos V];simp only[go_sem];rw[if_neg (by simp[V])]at u;have ae:=Uw (d:=o.By) z.cs;generalize(gM g.Cards o.By).1=c at *
 simp only[go_sem];apply aBF (J2 o M);simp only[go_sem];apply cH (aB _) rfl rfl (Uu c.Sign o.B o.SR o.SS ae (M.nums o.SR k_) (M.nums o.SS k_) (o.B_ok M) (by have:=o.B_len M;omega));rintro r T' ⟨rfl,rfl⟩;refine⟨w_,k_,?_⟩;simp only[go_sem];cases X:BW c.Sign o.B o.SR o.SS;rw[u,if_pos X];simp only[go_sem];rw[if_neg (by simp[X])]at u;simp only[go_sem];have F:decide ((g.L.length:Int)>0)=decide (0<g.L.length):=k_;cases hK:(o.Kind==1);rotate_left
 ·simp only[go_sem,aP,F];cases h2:decide (0<g.L.length);rotate_left;rw[hK,h2,if_pos k_]at u;rw[u];simp only[go_sem];rw[hK,h2,if_neg k_]at u;clear F;have R:∀x:Id,(aW g.I x).toNat<g.L.length\/aW g.I x<0:=λx=>by have:=AZ g.I x;have:=z.i;omega
  simp only[go_sem];refine aQ o.Past.length (λi=>⟨0,[(2,.ptr 0 0),(3,.ptr 1 0),(10,.own 2),(11,iv i)],[some (.box g.A),some (.box o.A),some (.arr 1 (((o.Past.take i).map λx=>(aW g.I x).toNat).map λn:Nat=>[iv (n:Int)]))]⟩) (λi=>∀j(N:j<o.Past.length),j<i->decide (0<=aW g.I o.Past[j])=true) ?_ sa ?_ ?_;simp only[go_sem,uQ];intro i s y;have g0:(o.Past.map Id.A)[i]?=some o.Past[i].A:=aO _ o.Past i s;have ws:=fQ i o_;rw[lq8 s,bZ,bZ];have ad:((o.Past.take i).map λx=>(aW g.I x).toNat).length=i:=c_;simp only[go_sem,aP,aT s,g0];apply cX (Dt g o.Past[i] z);simp only[go_sem];refine aL (λh3=>?_) (λh3=>?_)<;>simp only[decide_eq_true_eq,decide_eq_false_iff_not]at h3;have hf:(o.Past.all λx=>decide (0<=aW g.I x))=false:=EG (p:=λx=>decide (0<=aW g.I x)) s (decide_eq_false o_);rw[u];simp only[go_sem,BA,Pu,hf];simp_all;intro y;have K:=Bu (p:=λx=>decide (0<=aW g.I x)) y;rw[dE];have f:dV g o=CN g o (o.Past.map λx=>(aW g.I x).toNat):=by grind[BA,Pu]
  have Q:∀k∈o.Past.map (λx=>(aW g.I x).toNat),k<g.L.length:=λk O=>m_;have D:(o.Past.map λx=>(aW g.I x).toNat).length<=1000:=e_;generalize C:(o.Past.map λx=>(aW g.I x).toNat)=a at *
  clear u K y R;rw[<-C]at D;rw[aP]at D;have W:a.length=o.Past.length:=m_;simp only[go_sem,aP,aS (bP _)];refine aQ a.length (λi=>⟨0,[(2,.ptr 0 0),(3,.ptr 1 0),(10,.own 2),(13,iv i)],[some (.box g.A),some (.box o.A),some (.arr 1 (a.map λn:Nat=>[iv (n:Int)]))]⟩) (λi=>∀j(N:j<a.length),j<i->((a.all λk=>!((g.In.getD a[j] []).getD k false))&&!decide (o.At<(g.L.getD a[j] default).At))=true) ?_ sa ?_ ?_;simp only[go_sem];grind;intro y;have H:J0 g o a=true:=Bu (p:=λi=>(a.all λk=>!((g.In.getD i []).getD k false))&&!decide (o.At<(g.L.getD i default).At)) y;rw[CN,if_neg (by simp[H])]at f;simp only[go_sem,aP,aS (bP _)];apply cH (aB _) rfl rfl (W5 g a z o_);rintro r T' ⟨rfl,rfl⟩;refine⟨w_,od,?_⟩;simp only[go_sem];apply cH (aB _) rfl rfl (ZF g o (oL g a) z M (Dv k1).1 (Cs g a));rintro r T' ⟨rfl,rfl⟩;refine⟨w_,k_,?_⟩;simp only[go_sem];cases Z:FT g.L o (oL g a);rw[if_pos Z]at f;rw[f];simp only[go_sem];rw[if_neg (by simp[Z])]at f;rw[f];simp only[go_sem]
 rw[hK,lR,if_neg k_]at u;clear F;have R:∀x:Id,(aW g.I x).toNat<g.L.length\/aW g.I x<0:=λx=>by have:=AZ g.I x;have:=z.i;omega
 simp only[go_sem,undef];refine aQ o.Past.length (λi=>⟨0,[(2,.ptr 0 0),(3,.ptr 1 0),(10,.own 2),(11,iv i)],[some (.box g.A),some (.box o.A),some (.arr 1 (((o.Past.take i).map λx=>(aW g.I x).toNat).map λn:Nat=>[iv (n:Int)]))]⟩) (λi=>∀j(N:j<o.Past.length),j<i->decide (0<=aW g.I o.Past[j])=true) ?_ sa ?_ ?_;simp only[go_sem,uQ];intro i s y;have g0:(o.Past.map Id.A)[i]?=some o.Past[i].A:=aO _ o.Past i s;have ws:=fQ i o_;rw[lq8 s,bZ,bZ];have ad:((o.Past.take i).map λx=>(aW g.I x).toNat).length=i:=c_;simp only[go_sem,aP,aT s,g0];apply cX (Dt g o.Past[i] z);simp only[go_sem];refine aL (λh3=>?_) (λh3=>?_)<;>simp only[decide_eq_true_eq,decide_eq_false_iff_not]at h3;have hf:(o.Past.all λx=>decide (0<=aW g.I x))=false:=EG (p:=λx=>decide (0<=aW g.I x)) s (decide_eq_false o_);rw[u];simp only[go_sem,BA,Pu,hf];have e1:AV.v (.int .i64 (aW g.I o.Past[i]))=iv (((aW g.I o.Past[i]).toNat:Nat):Int):=c_;have t:=vH (p:=λx=>decide (0<=aW g.I x)) s y (decide_eq_true o_);have aa:min i o.Past.length=i:=Kj (H9 s);simp only[go_sem,aP,eC,aa,ws,e1,(g_:i+1<=maxLen),(o_:(i+1)*8<=140737488355328)];exact t;intro y;have K:=Bu (p:=λx=>decide (0<=aW g.I x)) y;rw[dE];have f:dV g o=CN g o (o.Past.map λx=>(aW g.I x).toNat):=by grind[BA,Pu]
 have Q:∀k∈o.Past.map (λx=>(aW g.I x).toNat),k<g.L.length:=λk O=>m_;have D:(o.Past.map λx=>(aW g.I x).toNat).length<=1000:=e_;generalize C:(o.Past.map λx=>(aW g.I x).toNat)=a at *
 clear u K y R;rw[<-C]at D;rw[aP]at D;have W:a.length=o.Past.length:=m_;simp only[go_sem,aP,aS (bP _)];refine aQ a.length (λi=>⟨0,[(2,.ptr 0 0),(3,.ptr 1 0),(10,.own 2),(13,iv i)],[some (.box g.A),some (.box o.A),some (.arr 1 (a.map λn:Nat=>[iv (n:Int)]))]⟩) (λi=>∀j(N:j<a.length),j<i->((a.all λk=>!((g.In.getD a[j] []).getD k false))&&!decide (o.At<(g.L.getD a[j] default).At))=true) ?_ sa ?_ ?_;simp only[go_sem];intro i s y;have ah:=Q _ (eQ s);have gi:(a.map λn:Nat=>[iv (n:Int)])[i]?=some [iv (a[i]:Nat)]:=aO _ a i s;have ak:=z.inn;have Y:(g.In.map λl=>[wI l])[a[i]]?=some [wI (g.In.getD a[i] [])]:=e_;have ai:(g.In.getD a[i] []).length=g.L.length:=by rw[rH,jN o_];exact z.ins _ (eQ _)
 have cE:(g.L.map OpM.A)[a[i]]?=some (g.L.getD a[i] default).A:=e_;have t:=λh=>vH (p:=λi=>(a.all λk=>!((g.In.getD i []).getD k false))&&!decide (o.At<(g.L.getD i default).At)) s y h;have P:=λh=>EG (p:=λi=>(a.all λk=>!((g.In.getD i []).getD k false))&&!decide (o.At<(g.L.getD i default).At)) s h;have m:((a.all λk=>!((g.In.getD a[i] []).getD k false))&&!decide (o.At<(g.L.getD a[i] default).At))=false->dV g o=(6,[]):=λh=>by rw[f,CN,if_pos (show J0 g o a=false from P h)]
 clear P y;generalize a[i]=q at *
 generalize g.In.getD q []=w at *
 generalize g.L.getD q default=oq at *
 simp only[go_sem,aP,aT s];refine aQ a.length (λk=>⟨0,[(2,.ptr 0 0),(3,.ptr 1 0),(10,.own 2),(13,iv i),(14,iv k)],[some (.box g.A),some (.box o.A),some (.arr 1 (a.map λn:Nat=>[iv (n:Int)]))]⟩) (λk=>∀j(N:j<a.length),j<k->(λk=>!(w.getD k false)) a[j]=true) ?_ sa ?_ ?_;simp only[go_sem];intro k O U;have af:=Q _ (eQ O);have gk:(a.map λn:Nat=>[iv (n:Int)])[k]?=some [iv (a[k]:Nat)]:=aO _ a k O;have gr:(w.map λb=>[AV.v (.bool b)])[a[k]]?=some [AV.v (.bool (w.getD a[k] false))]:=e_;have E:=λh=>vH (p:=λk=>!(w.getD k false)) O U h;have J:=λh=>EG (p:=λk=>!(w.getD k false)) O h;generalize a[k]=p at *
 simp only[go_sem,aP,aT O,O,s,gi,gk,Y,gr];cases hb:w.getD p false;rw[hb]at E;simp only[go_sem,fQ k o_];exact E rfl;rw[hb]at J;rw[J rfl]at m;simp only[go_sem,m rfl];intro U;have S:=Bu (p:=λk=>!(w.getD k false)) U;rw[S]at t m;simp only[go_sem,aP,aS (bP _),s,gi,cE];cases ab:decide (o.At<oq.At);rw[ab]at t;simp only[go_sem,fQ i o_];exact t rfl;rw[ab]at m;simp only[go_sem,m rfl];intro y;have H:J0 g o a=true:=Bu (p:=λi=>(a.all λk=>!((g.In.getD i []).getD k false))&&!decide (o.At<(g.L.getD i default).At)) y;rw[CN,if_neg (by simp[H])]at f;simp only[go_sem,aP,aS (bP _)];apply cH (aB _) rfl rfl (W5 g a z o_);rintro r T' ⟨rfl,rfl⟩;refine⟨w_,od,?_⟩;simp only[go_sem];apply cH (aB _) rfl rfl (ZF g o (oL g a) z M (Dv k1).1 (Cs g a));rintro r T' ⟨rfl,rfl⟩;refine⟨w_,k_,?_⟩;simp only[go_sem];cases Z:FT g.L o (oL g a);rw[if_pos Z]at f;rw[f];simp only[go_sem];rw[if_neg (by simp[Z])]at f;rw[f];simp only[go_sem]
end Hud
