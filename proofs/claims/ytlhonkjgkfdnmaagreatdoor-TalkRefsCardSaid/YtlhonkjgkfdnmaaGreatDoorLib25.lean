import Derived.Test.YtlhonkjgkfdnmaaGreatDoorLib21
import Derived.Test.YtlhonkjgkfdnmaaGreatDoorLib22
set_option linter.all false
set_option maxHeartbeats 40000000
namespace Hud
open Go
variable{G:L_}
def aAL (b:V_) (hb:xN b) (hl:b.length<=1000000):aA PQ G iB [.v (.slice none 0 0),.cl nS [.ptr 0 0]] [some (.box [.ls 1 (bl b)])] λr T'=>r=.own 1/\T'=[some (.box [.ls 1 (bl b)]),some (.arr 1 (ul (eN b)))]:=by
 apply aC sM;simp only[go_sem];refine NX rfl (vZ qG) λr U T W ab=>?_;simp only[go_sem];refine Ic [0,1,2,3] (aB _) d_ (λi D=>by simp at D⊢;omega) rfl rfl (aC qG ?_);simp only[go_sem];apply kM (Y6 _);simp only[go_sem];refine NX rfl (vZ fN) λM N q2 V aa=>?_;simp only[go_sem];refine Ic [0,1,2,3,4,5,6,7] (aB _) d_ (λi D=>by simp at D⊢;omega) rfl rfl (aC fN ?_);simp only[go_sem]
 refine cO (λn s=>∃(i:Nat)(A:V_),n=b.length+7-i/\i<=b.length+6/\A.length<=i/\A++eN (b.drop i)=eN b/\(s=⟨8,[(0,.yl 7),(1,.ptr 5 0),(2,.ptr 6 0),(4,iv i)],[some (.box [.ls 1 (bl b)]),some (.box [.own 2]),some (.arr 1 (ul A)),some (.lp r [(2,.ptr 1 0)]),some (.box [.yl 3]),some (.box [.ls 1 (bl b)]),some (.box [iv 7]),some (.lp M [(2,.ptr 4 0)])]⟩ \/
   s=⟨8,[(0,.yl 7),(1,.ptr 5 0),(2,.ptr 6 0),(4,iv i)],[some (.box [.ls 1 (bl b)]),some (.box [.own 8]),none,some (.lp r [(2,.ptr 1 0)]),some (.box [.yl 3]),some (.box [.ls 1 (bl b)]),some (.box [iv 7]),some (.lp M [(2,.ptr 4 0)]),some (.arr 1 (ul A))]⟩)) (b.length+7) ⟨0,[],o_,o_,cN _,s_,.inl ?_⟩ ?_
 simp only[go_sem];rintro n s ⟨i,A,rfl,D,hA,o,p⟩;by_cases l:i<b.length;obtain⟨e,ae,ad,ac⟩:∃e:Nat,e=min 7 (b.length-i)/\1<=e/\e<=7:=⟨min 7 (b.length-i),rfl,o_,o_⟩
 have u:(if((b.length-i:Nat):Int)<7 then((b.length-i:Nat):Int) else(7:Int))=(e:Int):=ax;have w1:IntKind.i64.wrap ((i:Int)+(e:Int))=((i+e:Nat):Int):=a_;have S:i<=i+e:=o_;have R:i+e<=b.length:=o_;have Q:¬i+e=i:=o_;have P:i<=b.length:=o_;have O:i+e-i=e:=o_;have B:((bl b).drop i).take e=bl ((b.drop i).take e):=s_;have z:((b.drop i).take e).length=e:=c_;have k:xN ((b.drop i).take e):=uU (Ih hb i) _;have I:(b.drop i).take 7=(b.drop i).take e:=h_;have a:=FV (b:=b.drop i) (λh=>by have:=congrArg List.length h;simp at this;omega);rw[I,Kg]at a;rw[a]at o;generalize af:(b.drop i).take e=c at *
 have y:c.take e=c:=sG o_;have w:∀j,j<e->∃x:Nat,(bl c)[j]?=some [.v (.int .u8 (x:Int))]/\IntKind.u64.wrap (x:Int)=(x:Int)/\IntKind.i64.wrap (8*(j:Int))=((8*j:Nat):Int)/\bV .shl (.int .u64 (x:Int)) (.int .i64 ((8*j:Nat):Int))=some (.int .u64 ((x*2^(8*j):Nat):Int)) /\
   bV .or (.int .u64 ((xA (c.take j):Nat):Int)) (.int .u64 ((x*2^(8*j):Nat):Int))=some (.int .u64 ((xA (c.take (j+1)):Nat):Int)):=λj X=>by
  have m:j<c.length:=o_;have hx:=k c[j] (eQ m);have C:=OJ (uU k j);rw[eC,Kj o_]at C;have ah:xA (c.take j)<72057594037927936:=Qw (uU k j) s6;have J:xA (c.take (j+1))<72057594037927936:=Qw (uU k _) s6;have q:=Uo m;rw[q]at J;refine⟨c[j],aO U8 c j m,bS _ o_,a_,Q0 _ j o_ hx,?_⟩;have ho:=aDk (xA (c.take j)) c[j] j C;have H:c[j]*2^(8*j)<2^64:=by
   have:256^j*c[j]=c[j]*2^(8*j):=by rw[QP,show(256:Nat)^j=2^(8*j) by rw[IA]]
   omega
  have g:=Uq (xA (c.take j)) (c[j]*2^(8*j)) o_ H o_;simp_all
 have Z:A.length+1<=maxLen:=g_;have Y:(A.length+1)*8<=140737488355328:=o_;have L:IntKind.i64.wrap ((i:Int)+7)=((i+7:Nat):Int):=a_;have d:ul A++[[AV.v (.int .u64 ((xA c:Nat):Int))]]=ul (A++[xA c]):=s_;rcases p with rfl|rfl;simp only[go_sem,aP,aT l,u,w1,S,R,Q,P,O,B];apply V _ _ _ _ _ rfl rfl;simp only[go_sem,aP,z];refine cO (λn s=>∃j:Nat,j<=e/\n=e-j/\s=⟨8,[(2,.ptr 4 0),(4,.v (.int .u64 ((xA (c.take j):Nat):Int))),(10,.ls 1 (bl c)),(11,iv e),(12,iv j)],[some (.box [.ls 1 (bl b)]),some (.box [.own 2]),some (.arr 1 (ul A)),some (.lp r [(2,.ptr 1 0)]),some (.box [.yl 3]),some (.box [.ls 1 (bl b)]),some (.box [iv 7]),none]⟩) e ⟨0,pR _,rfl,?_⟩ ?_;simp only[go_sem,uQ,xA];rintro n s ⟨j,X,rfl,rfl⟩;by_cases f:j<e;obtain⟨x,K,E,v2,F,g⟩:=w j f;simp only[go_sem,aT f,K,E,v2,↓F,↓g,fQ j o_];exact⟨e-(j+1),o_,j+1,o_,rfl,rfl⟩;obtain rfl:j=e:=o_;rw[y];simp only[go_sem,aS (bP _)];apply W _ _ _ _ _ rfl rfl;simp only[go_sem,aP,Z,Y,L];exact⟨b.length+7-(i+7),o_,i+7,A++[xA c],o_,o_,c_,by rw[eB];exact o,.inr (by rw[d])⟩;simp only[go_sem,aP,aT l,u,w1,S,R,Q,P,O,B];apply V _ _ _ _ _ rfl rfl;simp only[go_sem,aP,z];refine cO (λn s=>∃j:Nat,j<=e/\n=e-j/\s=⟨9,[(2,.ptr 4 0),(4,.v (.int .u64 ((xA (c.take j):Nat):Int))),(10,.ls 1 (bl c)),(11,iv e),(12,iv j)],[some (.box [.ls 1 (bl b)]),some (.box [.own 8]),none,some (.lp r [(2,.ptr 1 0)]),some (.box [.yl 3]),some (.box [.ls 1 (bl b)]),some (.box [iv 7]),none,some (.arr 1 (ul A))]⟩) e ⟨0,pR _,rfl,?_⟩ ?_;simp only[go_sem,uQ,xA];rintro n s ⟨j,X,rfl,rfl⟩;by_cases f:j<e;obtain⟨x,K,E,v2,F,g⟩:=w j f;simp only[go_sem,aT f,K,E,v2,↓F,↓g,fQ j o_];exact⟨e-(j+1),o_,j+1,o_,rfl,rfl⟩;obtain rfl:j=e:=o_;rw[y];simp only[go_sem,aS (bP _)];apply W _ _ _ _ _ rfl rfl;simp only[go_sem,aP,Z,Y,L];exact⟨b.length+7-(i+7),o_,i+7,A++[xA c],o_,o_,c_,by rw[eB];exact o,.inr (by rw[d])⟩;have t:eN (b.drop i)=[]:=by rw[LB o_];rfl
 rw[t,jO]at o;rw[<-o];rcases p with rfl|rfl;simp only[go_sem,aP,aS l,N,q2,U,T];simp only[go_sem,aP,aS l,N,q2,U,T]
def aAM(b:V_)(d:xN b)(c:b.length<=1000000):aA PQ G nP [.cl nS [.ptr 0 0]] [some (.box [.ls 1 (bl b)])] λr a=>r=.own 1/\a=[some (.box [.ls 1 (bl b)]),some (.arr 1 (ul (eN b)))]:=by refine aC As ?_;simp only[go_sem];apply aG [0] (aB _) d_ s_ rfl rfl (aAL b d c);rintro r a ⟨rfl,rfl⟩;simp only[go_sem]
def Ur(S:ByteArray)(a b:V_)(l:lJ S=bl a)(i:S.size=a.length)(k:xN a)(d:1<=a.length)(j:a.length<=7)(c:xN b)(e:b.length<=1000000):aA PQ G zZ [.v (.string S),.ls 1 (bl b)] [] λr f=>r=.v (fu (Uj a b))/\f=[]:=by
 apply aC LZ;have h:=Hc b;have q:=J1 c;have g:IntKind.u64.wrap (b.length:Int)=(b.length:Int):=bS _ o_;have p:(eN b).length+1<=maxLen:=g_;have o:((eN b).length+1)*8<=140737488355328:=o_;simp only[go_sem];apply kM (Y5 _);simp only[go_sem];apply aG [0] (aB _) d_ s_ rfl rfl (aAM b c e);rintro r f ⟨rfl,rfl⟩;have m:ul (eN b)++[[AV.v (.int .u64 (b.length:Int))]]=ul (eN b++[b.length]):=s_;simp only[go_sem,aP,g,p,o];rw[m];refine iJ (aB _) rfl rfl (aH4 S a (eN b++[b.length]) l i k d j (λn s=>?_) c_) ?_;grind;simp only[go_sem];rfl
def OpM.B(o:OpM):V_ :=
 cZ [o.By,o.Seq,o.Kind,o.At]++(nA Id.B o.Past++(cZ [o.Device,o.Old,o.Member,o.Role]++(nA NodeM.B o.Path++(o.Epoch.B++(bN o.N++(rD o.Body++(nA gJ o.Refs++(o.Of.B++(nA bN o.Guards++(cZ [o.Need,o.Wait]++(nA BoxM.B o.Boxes++(gJ o.Pub++nA SealM.B o.Hist))))))))))))
def aGd:cZ []=[]:=rfl
def uC(x:Int)(l:B_):cZ (x::l)=bN x++cZ l:=by simp[cZ]
def OU{l:B_}{i:Nat}(h:i<l.length):cZ (l.take (i+1))=cZ (l.take i)++bN l[i]:=by rw[lB h,OS]
def aDl(A:V_)(l:B_):Nat->aK|0=>[some (.arr 1 (l.map λn=>[iv n])),some (.box [.ptr 2 0]),some (.box [.own 3]),some (.arr 1 (bl A))]|i+1=>[some (.arr 1 (l.map λn=>[iv n])),some (.box [.ptr 2 0]),some (.box [.own 4]),none,some (.arr 1 (bl (A++cZ (l.take (i+1)))))]
def Sh(A:V_)(l:B_):aDl A l 0=[some (.arr 1 (l.map λn=>[iv n])),some (.box [.ptr 2 0]),some (.box [.own 3]),some (.arr 1 (bl A))]:=rfl
def ML(A:V_)(l:B_)(i:Nat):aDl A l (i+1)=[some (.arr 1 (l.map λn=>[iv n])),some (.box [.ptr 2 0]),some (.box [.own 4]),none,some (.arr 1 (bl (A++cZ (l.take (i+1)))))]:=rfl
def aDm(a b c d:Int):Nat->aK|0=>[some (.arr 1 [[iv a],[iv b],[iv c],[iv d]]),some (.box [.ptr 2 0]),some (.box [.v (.slice none 0 0)])]|i+1=>[some (.arr 1 [[iv a],[iv b],[iv c],[iv d]]),some (.box [.ptr 2 0]),some (.box [.own 3]),some (.arr 1 (bl (cZ ([a,b,c,d].take (i+1)))))]
def ZA(a b c d:Int):aDm a b c d 0=[some (.arr 1 [[iv a],[iv b],[iv c],[iv d]]),some (.box [.ptr 2 0]),some (.box [.v (.slice none 0 0)])]:=rfl
def B0(a b c d:Int)(i:Nat):aDm a b c d (i+1)=[some (.arr 1 [[iv a],[iv b],[iv c],[iv d]]),some (.box [.ptr 2 0]),some (.box [.own 3]),some (.arr 1 (bl (cZ ([a,b,c,d].take (i+1)))))]:=rfl
def aDn(A:V_)(l:B_)(k:A.length<=600000)(j:l.length<=1000)(g:∀x∈l,mZ x):aA PQ G uI [.own 0,.ptr 1 0] [some (.arr 1 (l.map λn=>[iv n])),some (.box [.ptr 2 0]),some (.box [.own 3]),some (.arr 1 (bl A))] λr c=>c=[some (.arr 1 (l.map λn=>[iv n])),some (.box [.ptr 2 0]),some (.box [.own 4]),none,some (.arr 1 (bl (A++cZ l)))]\/(l=[]/\c=[some (.arr 1 (l.map λn=>[iv n])),some (.box [.ptr 2 0]),some (.box [.own 3]),some (.arr 1 (bl A))]):=by
 apply aC FB;simp only[go_sem,aP];refine aQ l.length (λi=>⟨4,[(1,.ptr 1 0),(5,.own 0),(6,iv l.length),(7,iv i)],aDl A l i⟩) (λ_=>True) ?_ trivial ?_ ?_;simp only[go_sem,Sh];intro i a _;have d:(l.map λn=>[iv n])[i]?=some [iv l[i]]:=aO _ l i a;have b:=g l[i] (eQ a);have e:=fQ i o_
 cases i with
 |zero=>
  have h:cZ (l.take (0+1))=bN l[0]:=by rw[OU a];simp[cZ]
  rw[Sh,ML,h];simp only[go_sem,aP,show decide ((0:Int)<(l.length:Int))=true from decide_eq_true o_,a,d];apply aG [2,3] (aB _) d_ s_ rfl rfl (zD A l[0] o_ b.1 b.2);rintro r c rfl;simp only[go_sem,bZ]
 |succ i=>
  have f:=lF (l.take (i+1));rw[eC]at f;rw[ML,ML,OU a];generalize cZ (l.take (i+1))=X at *
  generalize l[i+1]=x at *
  simp only[go_sem,aP,aT a,a,d];rw[<-bZ];apply aG [2,4] (aB _) d_ s_ rfl rfl (zD (A++X) x k6 b.1 b.2);rintro r c rfl;simp only[go_sem,bZ,eB,e]
 intro _
 cases l with
 |nil=>simp only[gQ,Sh,go_sem];exact .inr trivial|cons x l=>
  simp only[sE];rw[ML,show(x::l).take (l.length+1)=x::l from sG s_];simp only[go_sem,show decide (((l.length+1:Nat):Int)<((l.length+1:Nat):Int))=false from decide_eq_false o_];exact .inl trivial
def aFA(A:V_)(a b c d:Int)(f:A.length<=600000)(k:mZ a)(j:mZ b)(i:mZ c)(g:mZ d):aA PQ G uI [.own 0,.ptr 1 0] [some (.arr 1 [[iv a],[iv b],[iv c],[iv d]]),some (.box [.ptr 2 0]),some (.box [.own 3]),some (.arr 1 (bl A))] λr e=>e=[some (.arr 1 [[iv a],[iv b],[iv c],[iv d]]),some (.box [.ptr 2 0]),some (.box [.own 4]),none,some (.arr 1 (bl (A++cZ [a,b,c,d])))]:=
 (aDn (G:=G) A [a,b,c,d] f s_ (by simp only[cS,pP,or_false];rintro x (rfl|rfl|rfl|rfl)<;>assumption)).mono λr e h=>h_
def aFB(A:V_)(a b:Int)(d:A.length<=600000)(f:mZ a)(e:mZ b):aA PQ G uI [.own 0,.ptr 1 0] [some (.arr 1 [[iv a],[iv b]]),some (.box [.ptr 2 0]),some (.box [.own 3]),some (.arr 1 (bl A))] λr c=>c=[some (.arr 1 [[iv a],[iv b]]),some (.box [.ptr 2 0]),some (.box [.own 4]),none,some (.arr 1 (bl (A++cZ [a,b])))]:=
 (aDn (G:=G) A [a,b] d s_ (by simp only[cS,pP,or_false];rintro x (rfl|rfl)<;>assumption)).mono λr c h=>h_
def aFC(a b c d:Int)(j:mZ a)(h:mZ b)(g:mZ c)(f:mZ d):aA PQ G uI [.own 0,.ptr 1 0] [some (.arr 1 [[iv a],[iv b],[iv c],[iv d]]),some (.box [.ptr 2 0]),some (.box [.v (.slice none 0 0)])] λr e=>e=[some (.arr 1 [[iv a],[iv b],[iv c],[iv d]]),some (.box [.ptr 2 0]),some (.box [.own 3]),some (.arr 1 (bl (cZ [a,b,c,d])))]:=by refine aC FB ?_;have m:=bX a;have l:=bX b;have k:=bX c;simp only[go_sem];refine aQ 4 (λi=>⟨3,[(1,.ptr 1 0),(5,.own 0),(6,iv 4),(7,iv i)],aDm a b c d i⟩) (λ_=>True) ?_ trivial ?_ ?_;simp only[go_sem,ZA];intro i n _;rcases i with _|_|_|_|i;rw[ZA,B0];simp only[go_sem];apply aG [2] (aB _) d_ s_ rfl rfl (aI2 a j.1 j.2);rintro r e rfl;simp only[go_sem,uC,aGd];rw[B0,B0];simp only[go_sem,uC,aGd];apply aG [2,3] (aB _) d_ s_ rfl rfl (zD (bN a) b o_ h.1 h.2);rintro r e rfl;simp only[go_sem,uC,aGd,bZ];rw[B0,B0];simp only[go_sem,uC,aGd];rw[<-bZ];apply aG [2,3] (aB _) d_ s_ rfl rfl (zD (bN a++bN b) c k6 g.1 g.2);rintro r e rfl;simp only[go_sem,uC,aGd,bZ,eB];rw[B0,B0];simp only[go_sem,uC,aGd];rw[<-bZ,<-bZ];apply aG [2,3] (aB _) d_ s_ rfl rfl (zD (bN a++(bN b++bN c)) d (by rw[dZ,dZ];omega) f.1 f.2);rintro r e rfl;simp only[go_sem,uC,aGd,bZ,eB];omega;intro _;rw[B0];simp only[go_sem]
def ZB(o:OpM)(a:o.ok):aA PQ G F9 [.ag o.A] [] λr b=>r=.ptr 0 0/\b=[some (.box [.own 1]),some (.arr 1 (bl o.B))]:=by
 apply aC SD;have c:∀n,n∈[o.By,o.Seq,o.Kind,o.At,o.Device,o.Old,o.Member,o.Role,o.N,o.Need,o.Wait]->mZ n:=a.ints;have b1:(cZ [o.By,o.Seq,o.Kind,o.At]).length<=40:=lF [o.By,o.Seq,o.Kind,o.At];have b2:(nA Id.B o.Past).length<=30010:=dh;have b3:(cZ [o.Device,o.Old,o.Member,o.Role]).length<=40:=lF [o.Device,o.Old,o.Member,o.Role];have b4:(nA NodeM.B o.Path).length<=40210:=og;have b5:o.Epoch.B.length<=30:=Id.B_len _;have b6:(bN o.N).length<=10:=bX _;have b7:(rD o.Body).length<=1010:=d8;have b8:(nA gJ o.Refs).length<=10010:=dw;have b9:o.Of.B.length<=30:=Id.B_len _;have aa:(nA bN o.Guards).length<=10010:=dc;have Z:(cZ [o.Need,o.Wait]).length<=20:=lF [o.Need,o.Wait];have Y:(nA BoxM.B o.Boxes).length<=40010:=dp;have X:(gJ o.Pub).length<=10:=iP _;have W:(nA SealM.B o.Hist).length<=104010:=ot;simp only[go_sem];apply aG [4,2,1] (aB _) d_ s_ rfl rfl (aFC o.By o.Seq o.Kind o.At (c _ s_) (c _ s_) (c _ s_) (c _ s_));rintro r b rfl;obtain⟨Q,y⟩:∃Q,Q=cZ [o.By,o.Seq,o.Kind,o.At]:=⟨_,rfl⟩
 rw[<-y];have l1:Q.length<=40:=by rw[y];exact b1
 simp only[go_sem];apply aG [1,5] (aB _) d_ s_ rfl rfl (aFz Q o.Past o_ a.past.1 a.past.2);rintro r b rfl;obtain⟨P,I⟩:∃P,P=Q++(nA Id.B o.Past):=⟨_,rfl⟩
 rw[<-I];have l2:P.length<=30050:=p_;simp only[go_sem];apply aG [7,2,1,6] (aB _) d_ s_ rfl rfl (aFA P o.Device o.Old o.Member o.Role o_ (c _ s_) (c _ s_) (c _ s_) (c _ s_));rintro r b rfl;obtain⟨O,H⟩:∃O,O=P++(cZ [o.Device,o.Old,o.Member,o.Role]):=⟨_,rfl⟩
 rw[<-H];have l3:O.length<=30090:=p_;simp only[go_sem];apply aG [1,8,2,3] (aB _) d_ s_ rfl rfl (aAJ O o.Path o_ a.path.1 a.path.2);rintro r b rfl;obtain⟨M,F⟩:∃M,M=O++(nA NodeM.B o.Path):=⟨_,rfl⟩
 rw[<-F];have l4:M.length<=70300:=p_;simp only[go_sem];apply aG [1,9] (aB _) d_ s_ rfl rfl (aFy M o.Epoch o_ a.epoch);rintro r b rfl;obtain⟨L,E⟩:∃L,L=M++o.Epoch.B:=⟨_,rfl⟩
 rw[<-E];have l5:L.length<=70330:=p_;simp only[go_sem];apply aG [1,10] (aB _) d_ s_ rfl rfl (zD L o.N o_ (c o.N s_).1 (c o.N s_).2);rintro r b rfl;obtain⟨D,w⟩:∃D,D=L++(bN o.N):=⟨_,rfl⟩
 rw[<-w];have l6:D.length<=70340:=by rw[w,dZ];omega
 simp only[go_sem,↓FX];apply aG [1,11] (aB _) d_ s_ rfl rfl (aDf D (bsN o.Body) o.Body (Dr a.body.2) (I5 _) o_ (by have:=a.body.1;omega));rintro r b rfl;obtain⟨C,v⟩:∃C,C=D++rD o.Body:=⟨_,rfl⟩
 rw[show D++(bN (o.Body.length:Int)++o.Body)=C from v.symm];have l7:C.length<=71350:=by rw[v,dZ];omega
 simp only[go_sem];apply aG [1,12] (aB _) d_ s_ rfl rfl (aDj C o.Refs o_ a.refs.1 a.refs.2);rintro r b rfl;obtain⟨K,u⟩:∃K,K=C++(nA gJ o.Refs):=⟨_,rfl⟩
 rw[<-u];have l8:K.length<=81360:=by rw[u,dZ];omega
 simp only[go_sem];apply aG [1,13] (aB _) d_ s_ rfl rfl (aFy K o.Of o_ a.of);rintro r b rfl;obtain⟨J,t⟩:∃J,J=K++o.Of.B:=⟨_,rfl⟩
 rw[<-t];have l9:J.length<=81390:=by rw[t,dZ];omega
 simp only[go_sem];apply aG [1,14] (aB _) d_ s_ rfl rfl (aDi J o.Guards o_ a.guards.1 a.guards.2);rintro r b rfl;obtain⟨s,j⟩:∃s,s=J++(nA bN o.Guards):=⟨_,rfl⟩
 rw[<-j];have V:s.length<=91400:=by rw[j,dZ];omega
 simp only[go_sem];apply aG [16,2,1,15] (aB _) d_ s_ rfl rfl (aFB s o.Need o.Wait o_ (c _ s_) (c _ s_));rintro r b rfl;obtain⟨q,i⟩:∃q,q=s++(cZ [o.Need,o.Wait]):=⟨_,rfl⟩
 rw[<-i];have U:q.length<=91420:=by rw[i,dZ];omega
 simp only[go_sem];apply aG [1,17,2] (aB _) d_ s_ rfl rfl (Um q o.Boxes o_ a.boxes.1 a.boxes.2);rintro r b rfl;obtain⟨p,g⟩:∃p,p=q++(nA BoxM.B o.Boxes):=⟨_,rfl⟩
 rw[<-g];have T:p.length<=131430:=by rw[g,dZ];omega
 simp only[go_sem];apply aG [1,18] (aB _) d_ s_ rfl rfl (I3 p o.Pub o_ (a.nums o.Pub s_));rintro r b rfl;obtain⟨m,e⟩:∃m,m=p++(gJ o.Pub):=⟨_,rfl⟩
 rw[<-e];have S:m.length<=131440:=by rw[e,dZ];omega
 simp only[go_sem];apply aG [1,19,2] (aB _) d_ s_ rfl rfl (aAK m o.Hist o_ a.hist.1 a.hist.2);rintro r b rfl;obtain⟨z,d⟩:∃z,z=m++(nA SealM.B o.Hist):=⟨_,rfl⟩
 rw[<-d];have R:z.length<=235450:=by rw[d,dZ];omega
 simp only[go_sem];rw[d,e,g,i,j,t,u,v,w,E,F,H,I,y];simp only[OpM.B,eB]
def OpM.B_len(o:OpM)(a:o.ok):o.B.length<=300000:=by
 have t:(cZ [o.By,o.Seq,o.Kind,o.At]).length<=40:=lF [o.By,o.Seq,o.Kind,o.At];have s:(nA Id.B o.Past).length<=30010:=dh;have r:(cZ [o.Device,o.Old,o.Member,o.Role]).length<=40:=lF [o.Device,o.Old,o.Member,o.Role];have q:(nA NodeM.B o.Path).length<=40210:=og;have p:o.Epoch.B.length<=30:=Id.B_len _;have n:(bN o.N).length<=10:=bX _;have m:(rD o.Body).length<=1010:=d8;have j:(nA gJ o.Refs).length<=10010:=dw;have i:o.Of.B.length<=30:=Id.B_len _;have g:(nA bN o.Guards).length<=10010:=dc;have e:(cZ [o.Need,o.Wait]).length<=20:=lF [o.Need,o.Wait];have d:(nA BoxM.B o.Boxes).length<=40010:=dp;have c:(gJ o.Pub).length<=10:=iP _;have b:(nA SealM.B o.Hist).length<=104010:=ot;grind[OpM.B,List.length_append]
def Ds{α:Type}{f:α->V_}{l:List α}(e:l.length<=1000000)(h:∀x∈l,xN (f x)):xN (nA f l):=by unfold nA;refine kN (Dp o_ o_) λx d=>?_;obtain⟨y,c,a⟩:=Kh.1 d;obtain⟨z,b,rfl⟩:=dF.1 c;exact h z b x a
def OV{l:B_}(h:∀x∈l,mZ x):xN (cZ l):=λx d=>by obtain⟨y,c,a⟩:=Kh.1 d;obtain⟨z,b,rfl⟩:=dF.1 c;exact Dp (h z b).1 (h z b).2 x a
def aDo{l:V_}(h:∀x∈l,x<2^64):xN (mP l):=λx d=>by obtain⟨y,c,a⟩:=Kh.1 d;obtain⟨z,b,rfl⟩:=dF.1 c;exact GG (h z b) x a
def Id.B_ok{x:Id}(h:x.ok):xN x.B:=kN (kN (Dp h.1.1 h.1.2) (Dp h.2.1.1 h.2.1.2)) (GG (by have:=h.2.2;omega))
def aDp{b:BoxM}(h:b.ok):xN b.B:=aDo λx a=>by obtain⟨h1,h2,h3,c⟩:=h;simp_all;omega
def Us{b:V_}(a:b.length<=1000000)(h:xN b):xN (rD b):=kN (Dp o_ o_) h
def OpM.B_ok(o:OpM)(b:o.ok):xN o.B:=by have c:=b.ints;unfold OpM.B;apply kN (OV λx a=>c x (by simp at a⊢;rcases a with h|h|h|h<;>simp[h]));apply kN (Ds (by have:=b.past.1;omega) λx a=>Id.B_ok (b.past.2 x a));apply kN (OV λx a=>c x (by simp at a⊢;rcases a with h|h|h|h<;>simp[h]));apply kN (Ds (by have:=b.path.1;omega) λx a=>kN (GG (b.path.2 x a).1) (Ds (by have:=(b.path.2 x a).2.1;omega) λy d=>aDp ((b.path.2 x a).2.2 y d)));apply kN (Id.B_ok b.epoch);apply kN (Dp (c o.N s_).1 (c o.N s_).2);apply kN (Us (by have:=b.body.1;omega) b.body.2);apply kN (Ds (by have:=b.refs.1;omega) λx a=>GG (b.refs.2 x a));apply kN (Id.B_ok b.of);apply kN (Ds (by have:=b.guards.1;omega) λx a=>Dp (b.guards.2 x a).1 (b.guards.2 x a).2);apply kN (OV λx a=>c x (by simp at a⊢;rcases a with h|h<;>simp[h]));apply kN (Ds (by have:=b.boxes.1;omega) λx a=>aDp (b.boxes.2 x a));apply kN (GG (b.nums o.Pub s_));exact Ds (by have:=b.hist.1;omega) λx a=>kN (Id.B_ok (b.hist.2 x a).1) (Us (by have:=(b.hist.2 x a).2.1;omega) (b.hist.2 x a).2.2)
def OpM.P(o:OpM):V_:=o.B++mP [o.SR,o.SS]
def lOp:V_:=[111,112]
def Si:V_:=[115,105,103,110,101,100]
def aI5:V_:=[115,105,103]
def C7(o:OpM):Id:=⟨o.By,o.Seq,((Uj lOp o.B).val:Nat)⟩
def TP(n:Nat):Fq:=⟨n%PP,zM _ d_⟩
def MN{n:Nat}(h:n<2305843009213693951):(TP n).val=n:=EZ h
def Sj(b:V_):Fq:=Uj Si b
def I8(r a:Nat)(b:V_):Fq:=FW aI5 [r,a,(Sj b).val]
def BW(a:Nat)(b:V_)(R S:Nat):Bool :=
 (decide (1<=a)&&decide (a<=2305843009213693950))&&(decide (1<=R)&&decide (R<=2305843009213693950))&&decide (S<=2305843009213693949) &&
 decide ((37:Fq)^S=TP R*TP a^(I8 R a b).val)
def Az{l:V_}(h:(l.all λx=>decide (x<256))=true):xN l:=λx a=>by simpa using oD.1 h x a
def Cr(a:Fq):a.val<2^64:=QQ a.isLt d_
def aFD(o:OpM)(a:o.ok):aA PQ G Ik [.ag o.A] [] λr T=>r=.ag (C7 o).A/\T=[]:=by refine aC WP ?_;have c:=o.B_len a;simp only[go_sem];apply kM (ZB o a);simp only[go_sem];apply aG [2,3] (aB _) d_ s_ rfl rfl (Y8 o.B o_);rintro r b ⟨rfl,rfl⟩;simp only[go_sem];apply cH (aB _) rfl rfl (Ur _ lOp o.B Y_ Y_ (Az d_) d_ d_ (o.B_ok a) o_);rintro r b ⟨rfl,rfl⟩;refine⟨x_,s_,?_⟩;simp only[go_sem];rfl
def aI6(a r:Nat)(b:V_)(e:a<2^64)(d:r<2^64)(f:xN b)(g:b.length<=1000000):aA PQ G E9 [uv a,uv r,.ls 1 (bl b)] [] λx T=>x=.tup [.v (fu (Sj b)),.v (fu (I8 r a b))]/\T=[]:=by refine aC OR ?_;simp only[go_sem];apply cX (Ur _ Si b Y_ Y_ (Az d_) d_ d_ f o_);simp only[go_sem];refine cH (aB _) rfl rfl (aH4 _ aI5 [r,a,(Sj b).val] Y_ Y_ (Az d_) d_ d_ (λn c=>?_) s_) ?_;simp only[cS,pP,or_false]at c;rcases c with rfl|rfl|rfl;exact d;exact e;exact Cr _;rintro x h ⟨rfl,rfl⟩;refine⟨x_,s_,?_⟩;simp only[go_sem];rfl
def OW(n lo a:Nat):aA PQ G Ap [uv n,uv lo,uv a] [] λr T=>r=.v (.bool (decide (lo<=n)&&decide (n<=a)))/\T=[]:=by
 apply aC I2;have c:decide ((lo:Int)<=(n:Int))=decide (lo<=n):=by rw[CT];simp
 have b:decide ((n:Int)<=(a:Int))=decide (n<=a):=by rw[CT];simp
 simp only[go_sem,ge_iff_le,c];cases decide (lo<=n)<;>simp only[go_sem,undef,b,mF,lR]
def Sk(a:Nat)(b:V_)(R S:Nat)(d:a<2^64)(h:R<2^64)(g:S<2^64)(f:xN b)(e:b.length<=1000000):aA PQ G DX [uv a,.ls 1 (bl b),.ag [uv R,uv S]] [] λr T=>r=.v (.bool (BW a b R S))/\T=[]:=by
 apply aC La;simp only[go_sem];apply cX (OW a 1 2305843009213693950);cases h1:(decide (1<=a)&&decide (a<=2305843009213693950));simp only[go_sem,undef,BW,h1,lR];simp only[go_sem];apply cX (OW R 1 2305843009213693950);cases h2:(decide (1<=R)&&decide (R<=2305843009213693950));simp only[go_sem,undef,BW,h1,h2,lR,Ea];simp only[go_sem];apply cX (OW S 0 2305843009213693949);cases h3:decide (S<=2305843009213693949);simp only[go_sem,BW,h1,h2,h3,lR,Ea,pR,mF];simp only[go_sem,pR];apply cX (aI6 a R b d h f e);simp only[zJ,decide_eq_true_eq]at h1 h2 h3;have k:uv a=.v (fu (TP a)):=by simp only[fu,MN (o_:a<2305843009213693951)]
 have j:uv R=.v (fu (TP R)):=by simp only[fu,MN (o_:R<2305843009213693951)]
 have c:AV.v (.int .u64 37)=.v (fu (37:Fq)):=rfl;simp only[go_sem];apply aU (R:=.v (fu ((37:Fq)^S))) (aB _) rfl (aD8 (37:Fq) S g) rfl;simp only[go_sem];apply aU (R:=.v (fu (TP a^(I8 R a b).val))) (aB _) rfl (by rw[k];exact aD8 (TP a) (I8 R a b).val (Cr _)) rfl;simp only[go_sem];apply aU (R:=.v (fu (TP R*TP a^(I8 R a b).val))) (aB _) rfl (by rw[j];exact Ud (TP R) _) rfl;have i:∀x y:Fq,((x.val:Int)==(y.val:Int))=decide (x=y):=λx y=>by rw[CT];simp[Fin.ext_iff];omega
 simp only[go_sem,i,BW];simp[h1,h2,h3]
def aDq(c:CardM)(o:OpM)(a:o.ok)(b:c.Sign<2^64):aA PQ G E1 [.ag c.A,.ag o.A] [] λr T=>r=.v (.bool ((o.By==c.Device)&&BW c.Sign o.B o.SR o.SS))/\T=[]:=by refine aC Nl ?_;have f:=o.B_len a;have h1:=a.nums o.SR s_;have h2:=a.nums o.SS s_;simp only[go_sem,CardM.A_def];cases e:(o.By==c.Device);simp only[go_sem,undef,lR];simp only[go_sem];apply kM (ZB o a);simp only[go_sem];apply aG [2,3] (aB _) d_ s_ rfl rfl (Y8 o.B o_);rintro r d ⟨rfl,rfl⟩;simp only[go_sem];apply cH (aB _) rfl rfl (Sk c.Sign o.B o.SR o.SS b h1 h2 (o.B_ok a) o_);rintro r d ⟨rfl,rfl⟩;refine⟨x_,s_,?_⟩;simp only[go_sem,mF]
def aFE(x:Id)(d:x.ok):aA PQ G qS [.ag x.A] [] λr e=>r=.own 0/\e=[some (.arr 1 (bl x.B))]:=by have:=aFw (G:=G) x.a x.b x.c.toNat d.1.1 d.1.2 d.2.1.1 d.2.1.2 (by have:=d.2.2;omega);rw[Int.toNat_of_nonneg d.2.2.1]at this;exact this
def J2(o:OpM)(j:o.ok):aA PQ G xQ [.ag o.A] [] λr T'=>r=.own 0/\T'=[some (.arr 1 (bl o.B))]:=by
 refine aC Nc ?_;have y:∀n,n∈[o.By,o.Seq,o.Kind,o.At,o.Device,o.Old,o.Member,o.Role,o.N,o.Need,o.Wait]->mZ n:=j.ints;have y1:=j.past.1;have y2:=j.path.1;have y3:=j.refs.1;have y4:=j.guards.1;have y5:=j.boxes.1;have y6:=j.hist.1;have y7:=j.body.1;have z1:(cZ [o.By,o.Seq,o.Kind,o.At,(o.Past.length:Int)]).length<=50:=lF [o.By,o.Seq,o.Kind,o.At,(o.Past.length:Int)];have z2:(cZ [o.Device,o.Old,o.Member,o.Role,(o.Path.length:Int)]).length<=50:=lF [o.Device,o.Old,o.Member,o.Role,(o.Path.length:Int)];have z3:o.Epoch.B.length<=30:=Id.B_len _;have z4:(bN o.N).length<=10:=bX _;have z5:(rD o.Body).length<=1010:=by unfold rD;rw[dZ];have:=bX (o.Body.length:Int);omega
 have z6:(bN (o.Refs.length:Int)).length<=10:=bX _;have z7:(mP o.Refs).length<=10000:=by have:=AY o.Refs;omega
 have z8:o.Of.B.length<=30:=Id.B_len _;have z9:(bN (o.Guards.length:Int)).length<=10:=bX _;have am:(cZ o.Guards).length<=10000:=by have:=lF o.Guards;omega
 have al:(cZ [o.Need,o.Wait]).length<=20:=lF [o.Need,o.Wait];have ak:(vJ o.Boxes).length<=40010:=by unfold vJ;rw[dZ];have:=bX (o.Boxes.length:Int);have:=I4 o.Boxes;omega
 have aj:(gJ o.Pub).length<=10:=iP _;have ai:(bN (o.Hist.length:Int)).length<=10:=bX _;have R:∀x∈o.Past,x.B.length<=30:=λx _=>Id.B_len x;have Q:∀x∈o.Path,x.B.length<=4020:=λx h=>I6 (j.path.2 x h);have S:∀x∈o.Hist,x.B.length<=1040:=λx h=>I7 (j.hist.2 x h);have fl:∀{k:Nat}{W:V_},k<100000000->W.length<=k->(∀e∈bl W,∀c∈e,∃x,c=AV.v x):=λ_ _ e he c hc=>by obtain⟨n,_,rfl⟩:=dF.1 he;exact⟨_,cA.1 hc⟩
 simp only[go_sem,aP];refine cH (aB _) rfl rfl (Sg [o.By,o.Seq,o.Kind,o.At,(o.Past.length:Int)] (by simp) (λn O=>?_)) ?_;simp only[cS,pP,or_false]at O;rcases O with h|h|h|h|h;exact h ▸ y _ (by simp);exact h ▸ y _ (by simp);exact h ▸ y _ (by simp);exact h ▸ y _ (by simp);subst h;exact⟨by omega,by omega⟩;rintro r T' ⟨rfl,rfl⟩;refine⟨by simp only[fX],by simp only[cA,xH,forall_eq];exact fl (k:=50) (by decide) z1,?_⟩;obtain⟨M,af⟩:∃M,M=cZ [o.By,o.Seq,o.Kind,o.At,(o.Past.length:Int)]:=⟨_,rfl⟩
 rw[<-af];have l1:M.length<=50:=by rw[af];exact z1
 simp only[go_sem];refine aQ o.Past.length (λi=>⟨0,[(1,.ptr 0 0),(3,.own 1),(4,iv i)],[some (.box o.A),some (.arr 1 (bl (M++((o.Past.take i).map Id.B).flatten)))]⟩) (λ_=>True) ?_ trivial ?_ ?_;simp only[go_sem,uQ,B9,jO];intro i l _;have g0:(o.Past.map Id.A)[i]?=some o.Past[i].A:=aO _ o.Past i l;have hk:=R o.Past[i] (eQ l);have k1:=AF R i (H9 l);have P:M++((o.Past.take (i+1)).map Id.B).flatten=(M++((o.Past.take i).map Id.B).flatten)++Id.B o.Past[i]:=by rw[Dq _ o.Past i l];simp only[eB]
 have k3:(M++((o.Past.take i).map Id.B).flatten).length<=30060:=by rw[dZ];omega
 rw[P];clear P;have z:=j.past.2 o.Past[i] (eQ l);generalize M++((o.Past.take i).map Id.B).flatten=X at *
 generalize o.Past[i]=x at *
 have ws:=fQ i (by omega);simp only[go_sem,aP,aT l,g0];have g:X.length+x.B.length<=140737488355328:=by omega
 have f:X.length+x.B.length<=maxLen:=by unfold maxLen;omega
 have d:(X.length+x.B.length)*1<=140737488355328:=by omega
 refine kM (aFE x z) ?_;simp only[go_sem,aP,f,d,ws,bZ];intro _;rw[dE];obtain⟨A2,ae⟩:∃A2,A2=M++(o.Past.map Id.B).flatten:=⟨_,rfl⟩
 rw[<-ae];have l2:A2.length<=30050:=by rw[ae,dZ];have:=OT R;omega
 simp only[go_sem,aP,aS (bP _)];have g:A2.length+(cZ [o.Device,o.Old,o.Member,o.Role,(o.Path.length:Int)]).length<=140737488355328:=by omega
 have f:A2.length+(cZ [o.Device,o.Old,o.Member,o.Role,(o.Path.length:Int)]).length<=maxLen:=by unfold maxLen;omega
 have d:(A2.length+(cZ [o.Device,o.Old,o.Member,o.Role,(o.Path.length:Int)]).length)*1<=140737488355328:=by omega
 refine cH (aB _) rfl rfl (Sg [o.Device,o.Old,o.Member,o.Role,(o.Path.length:Int)] (by simp) (λn O=>?_)) ?_;simp only[cS,pP,or_false]at O;rcases O with h|h|h|h|h;exact h ▸ y _ (by simp);exact h ▸ y _ (by simp);exact h ▸ y _ (by simp);exact h ▸ y _ (by simp);subst h;exact⟨by omega,by omega⟩;rintro r T' ⟨rfl,rfl⟩;refine⟨by simp only[fX],by simp only[cA,xH,forall_eq];exact fl (k:=50) (by decide) (by omega),?_⟩;simp only[go_sem,aP,f,d];rw[<-bZ];obtain⟨L,ad⟩:∃L,L=A2++(cZ [o.Device,o.Old,o.Member,o.Role,(o.Path.length:Int)]):=⟨_,rfl⟩
 rw[<-ad];have l3:L.length<=30100:=by rw[ad,dZ];omega
 clear g f d;refine aQ o.Path.length (λi=>⟨0,[(1,.ptr 0 0),(3,.own 1),(5,iv i)],[some (.box o.A),some (.arr 1 (bl (L++((o.Path.take i).map NodeM.B).flatten)))]⟩) (λ_=>True) ?_ trivial ?_ ?_;simp only[go_sem,uQ,B9,jO]
 ·intro i l _;have g0:(o.Path.map NodeM.A)[i]?=some [uv o.Path[i].Pub,F5 o.Path[i].Boxes]:=aO _ o.Path i l;have hk:=Q o.Path[i] (eQ l);have k1:=AF Q i (H9 l);have P:L++((o.Path.take (i+1)).map NodeM.B).flatten=(L++((o.Path.take i).map NodeM.B).flatten)++NodeM.B o.Path[i]:=by rw[Dq _ o.Path i l];simp only[eB]
  have k3:(L++((o.Path.take i).map NodeM.B).flatten).length<=70310:=by rw[dZ];omega
  rw[P];clear P;have z:=j.path.2 o.Path[i] (eQ l);generalize L++((o.Path.take i).map NodeM.B).flatten=X at *
  generalize o.Path[i]=x at *
  have ws:=fQ i (by omega);simp only[go_sem,aP,aT l,g0];have u1:(gJ x.Pub).length<=10:=iP _;have u2:(vJ x.Boxes).length<=4010:=by unfold vJ;rw[dZ];have:=bX (x.Boxes.length:Int);have:=I4 x.Boxes;have:=z.2.1;omega
  have g:X.length+(gJ x.Pub).length<=140737488355328:=by omega
  have f:X.length+(gJ x.Pub).length<=maxLen:=by unfold maxLen;omega
  have d:(X.length+(gJ x.Pub).length)*1<=140737488355328:=by omega
  refine kM (Qx x.Pub z.1) ?_;simp only[go_sem,aP,g0,f,d];rw[<-bZ];obtain⟨Y,T⟩:∃Y,Y=X++(gJ x.Pub):=⟨_,rfl⟩
  rw[<-T];have lY:Y.length<=70320:=by rw[T,dZ];omega
  clear g f d;have g:Y.length+(vJ x.Boxes).length<=140737488355328:=by omega
  have f:Y.length+(vJ x.Boxes).length<=maxLen:=by unfold maxLen;omega
  have d:(Y.length+(vJ x.Boxes).length)*1<=140737488355328:=by omega
  refine kM (Y9 x.Boxes (by have:=z.2.1;omega) z.2.2) ?_;simp only[go_sem,aP,f,d,ws,bZ,NodeM.B];rw[T];simp only[bZ,eB]
  try rfl
 intro _;rw[dE];obtain⟨A4,ac⟩:∃A4,A4=L++(o.Path.map NodeM.B).flatten:=⟨_,rfl⟩
 rw[<-ac];have l4:A4.length<=70300:=by rw[ac,dZ];have:=OT Q;omega
 simp only[go_sem,aP,aS (bP _)];have g:A4.length+o.Epoch.B.length<=140737488355328:=by omega
 have f:A4.length+o.Epoch.B.length<=maxLen:=by unfold maxLen;omega
 have d:(A4.length+o.Epoch.B.length)*1<=140737488355328:=by omega
 refine kM (aFE o.Epoch j.epoch) ?_;simp only[go_sem,aP,f,d];rw[<-bZ];obtain⟨A5,ab⟩:∃A5,A5=A4++o.Epoch.B:=⟨_,rfl⟩
 rw[<-ab];have l5:A5.length<=70330:=by rw[ab,dZ];omega
 clear g f d;have g:A5.length+(bN o.N).length<=140737488355328:=by omega
 have f:A5.length+(bN o.N).length<=maxLen:=by unfold maxLen;omega
 have d:(A5.length+(bN o.N).length)*1<=140737488355328:=by omega
 refine kM (vI o.N (y o.N (by simp)).1 (y o.N (by simp)).2) ?_;simp only[go_sem,aP,f,d,↓FX];rw[<-bZ];obtain⟨A6,aa⟩:∃A6,A6=A5++(bN o.N):=⟨_,rfl⟩
 rw[<-aa];have l6:A6.length<=70340:=by rw[aa,dZ];omega
 clear g f d;have g:A6.length+(rD o.Body).length<=140737488355328:=by omega
 have f:A6.length+(rD o.Body).length<=maxLen:=by unfold maxLen;omega
 have d:(A6.length+(rD o.Body).length)*1<=140737488355328:=by omega
 refine kM (aDh (bsN o.Body) o.Body (Dr j.body.2) (I5 _) (by omega)) ?_;simp only[go_sem,aP,f,d];rw[<-bZ];obtain⟨A7,Z⟩:∃A7,A7=A6++(rD o.Body):=⟨_,rfl⟩
 rw[<-Z];have l7:A7.length<=71350:=by rw[Z,dZ];omega
 clear g f d;have g:A7.length+(bN (o.Refs.length:Int)).length<=140737488355328:=by omega
 have f:A7.length+(bN (o.Refs.length:Int)).length<=maxLen:=by unfold maxLen;omega
 have d:(A7.length+(bN (o.Refs.length:Int)).length)*1<=140737488355328:=by omega
 refine kM (vI (o.Refs.length:Int) (by omega) (by omega)) ?_;simp only[go_sem,aP,f,d];rw[<-bZ];obtain⟨A8,V⟩:∃A8,A8=A7++(bN (o.Refs.length:Int)):=⟨_,rfl⟩
 rw[<-V];have l8:A8.length<=71360:=by rw[V,dZ];omega
 clear g f d;have g:A8.length+(mP o.Refs).length<=140737488355328:=by omega
 have f:A8.length+(mP o.Refs).length<=maxLen:=by unfold maxLen;omega
 have d:(A8.length+(mP o.Refs).length)*1<=140737488355328:=by omega
 refine kM (aDg o.Refs (by omega) j.refs.2) ?_;simp only[go_sem,aP,f,d];rw[<-bZ];obtain⟨A9,U⟩:∃A9,A9=A8++(mP o.Refs):=⟨_,rfl⟩
 rw[<-U];have l9:A9.length<=81360:=by rw[U,dZ];omega
 clear g f d;have g:A9.length+o.Of.B.length<=140737488355328:=by omega
 have f:A9.length+o.Of.B.length<=maxLen:=by unfold maxLen;omega
 have d:(A9.length+o.Of.B.length)*1<=140737488355328:=by omega
 refine kM (aFE o.Of j.of) ?_;simp only[go_sem,aP,f,d];rw[<-bZ];obtain⟨w,K⟩:∃w,w=A9++o.Of.B:=⟨_,rfl⟩
 rw[<-K];have aw:w.length<=81390:=by rw[K,dZ];omega
 clear g f d;have g:w.length+(bN (o.Guards.length:Int)).length<=140737488355328:=by omega
 have f:w.length+(bN (o.Guards.length:Int)).length<=maxLen:=by unfold maxLen;omega
 have d:(w.length+(bN (o.Guards.length:Int)).length)*1<=140737488355328:=by omega
 refine kM (vI (o.Guards.length:Int) (by omega) (by omega)) ?_;simp only[go_sem,aP,f,d];rw[<-bZ];obtain⟨u,J⟩:∃u,u=w++(bN (o.Guards.length:Int)):=⟨_,rfl⟩
 rw[<-J];have av:u.length<=81400:=by rw[J,dZ];omega
 clear g f d;have g:u.length+(cZ o.Guards).length<=140737488355328:=by omega
 have f:u.length+(cZ o.Guards).length<=maxLen:=by unfold maxLen;omega
 have d:(u.length+(cZ o.Guards).length)*1<=140737488355328:=by omega
 refine kM (Sg o.Guards (by omega) j.guards.2) ?_;simp only[go_sem,aP,f,d];rw[<-bZ];obtain⟨t,I⟩:∃t,t=u++(cZ o.Guards):=⟨_,rfl⟩
 rw[<-I];have au:t.length<=91400:=by rw[I,dZ];omega
 clear g f d;have g:t.length+(cZ [o.Need,o.Wait]).length<=140737488355328:=by omega
 have f:t.length+(cZ [o.Need,o.Wait]).length<=maxLen:=by unfold maxLen;omega
 have d:(t.length+(cZ [o.Need,o.Wait]).length)*1<=140737488355328:=by omega
 refine cH (aB _) rfl rfl (Sg [o.Need,o.Wait] (by simp) (λn O=>?_)) ?_;simp only[cS,pP,or_false]at O;rcases O with h|h;exact h ▸ y _ (by simp);exact h ▸ y _ (by simp);rintro r T' ⟨rfl,rfl⟩;refine⟨by simp only[fX],by simp only[cA,xH,forall_eq];exact fl (k:=20) (by decide) (by omega),?_⟩;simp only[go_sem,aP,f,d];rw[<-bZ];obtain⟨s,H⟩:∃s,s=t++(cZ [o.Need,o.Wait]):=⟨_,rfl⟩
 rw[<-H];have ar:s.length<=91420:=by rw[H,dZ];omega
 clear g f d;have g:s.length+(vJ o.Boxes).length<=140737488355328:=by omega
 have f:s.length+(vJ o.Boxes).length<=maxLen:=by unfold maxLen;omega
 have d:(s.length+(vJ o.Boxes).length)*1<=140737488355328:=by omega
 refine kM (Y9 o.Boxes (by omega) j.boxes.2) ?_;simp only[go_sem,aP,f,d];rw[<-bZ];obtain⟨q,F⟩:∃q,q=s++(vJ o.Boxes):=⟨_,rfl⟩
 rw[<-F];have aq:q.length<=131430:=by rw[F,dZ];omega
 clear g f d;have g:q.length+(gJ o.Pub).length<=140737488355328:=by omega
 have f:q.length+(gJ o.Pub).length<=maxLen:=by unfold maxLen;omega
 have d:(q.length+(gJ o.Pub).length)*1<=140737488355328:=by omega
 refine kM (Qx o.Pub (j.nums o.Pub (by simp))) ?_;simp only[go_sem,aP,f,d];rw[<-bZ];obtain⟨p,E⟩:∃p,p=q++(gJ o.Pub):=⟨_,rfl⟩
 rw[<-E];have ap:p.length<=131440:=by rw[E,dZ];omega
 clear g f d;have g:p.length+(bN (o.Hist.length:Int)).length<=140737488355328:=by omega
 have f:p.length+(bN (o.Hist.length:Int)).length<=maxLen:=by unfold maxLen;omega
 have d:(p.length+(bN (o.Hist.length:Int)).length)*1<=140737488355328:=by omega
 refine kM (vI (o.Hist.length:Int) (by omega) (by omega)) ?_;simp only[go_sem,aP,f,d];rw[<-bZ];obtain⟨m,D⟩:∃m,m=p++(bN (o.Hist.length:Int)):=⟨_,rfl⟩
 rw[<-D];have ao:m.length<=131450:=by rw[D,dZ];omega
 clear g f d;refine aQ o.Hist.length (λi=>⟨0,[(1,.ptr 0 0),(3,.own 1),(6,iv i)],[some (.box o.A),some (.arr 1 (bl (m++((o.Hist.take i).map SealM.B).flatten)))]⟩) (λ_=>True) ?_ trivial ?_ ?_;simp only[go_sem,uQ,B9,jO]
 ·intro i l _;have g0:(o.Hist.map SealM.A)[i]?=some [.v (.int .i64 o.Hist[i].Of.a),.v (.int .i64 o.Hist[i].Of.b),.v (.int .u64 o.Hist[i].Of.c),.ls 1 (bl o.Hist[i].Body)]:=aO _ o.Hist i l;have hk:=S o.Hist[i] (eQ l);have k1:=AF S i (H9 l);have P:m++((o.Hist.take (i+1)).map SealM.B).flatten=(m++((o.Hist.take i).map SealM.B).flatten)++SealM.B o.Hist[i]:=by rw[Dq _ o.Hist i l];simp only[eB]
  have k3:(m++((o.Hist.take i).map SealM.B).flatten).length<=235460:=by rw[dZ];omega
  rw[P];clear P;have z:=j.hist.2 o.Hist[i] (eQ l);generalize m++((o.Hist.take i).map SealM.B).flatten=X at *
  generalize o.Hist[i]=x at *
  have ws:=fQ i (by omega);simp only[go_sem,aP,aT l,g0];have u1:x.Of.B.length<=30:=Id.B_len _;have u2:(rD x.Body).length<=1010:=by unfold rD;rw[dZ];have:=bX (x.Body.length:Int);have:=z.2.1;omega
  have g:X.length+x.Of.B.length<=140737488355328:=by omega
  have f:X.length+x.Of.B.length<=maxLen:=by unfold maxLen;omega
  have d:(X.length+x.Of.B.length)*1<=140737488355328:=by omega
  refine kM (aFE x.Of z.1) ?_;simp only[go_sem,aP,g0,f,d,↓FX];rw[<-bZ];obtain⟨Y,T⟩:∃Y,Y=X++x.Of.B:=⟨_,rfl⟩
  rw[<-T];have lY:Y.length<=235490:=by rw[T,dZ];omega
  clear g f d;have g:Y.length+(rD x.Body).length<=140737488355328:=by omega
  have f:Y.length+(rD x.Body).length<=maxLen:=by unfold maxLen;omega
  have d:(Y.length+(rD x.Body).length)*1<=140737488355328:=by omega
  refine kM (aDh (bsN x.Body) x.Body (Dr z.2.2) (I5 _) (by have:=z.2.1;omega)) ?_;simp only[go_sem,aP,f,d,ws,bZ,SealM.B];rw[T];simp only[bZ,eB]
  try rfl
 intro _;rw[dE];obtain⟨ah,C⟩:∃ah,ah=m++(o.Hist.map SealM.B).flatten:=⟨_,rfl⟩
 rw[<-C];have an:ah.length<=235450:=by rw[C,dZ];have:=OT S;omega
 simp only[go_sem,aP,aS (bP _)];rw[C,D,E,F,H,I,J,K,U,V,Z,aa,ab,ac,ad,ae,af];simp only[OpM.B,nA,vJ,eB,jO,cZ,mP,fG,uP,zK,B9]
def Sm:V_:=[110,111,110,99,101]
def vW:V_:=[115,105,103,110]
def ZC:V_:=[108,101,97,100]
def ZD:V_:=[107,101,101,112]
def lT:Nat:=2305843009213693950
def CM:Nat->Nat->Nat->Nat->Nat|0,_,_,out=>out|n+1,a,b,out=>if b=0 then out else CM n ((a+a)%lT) (b/2) (if b%2=1 then(out+a)%lT else out)
def J3:∀(n a b out:Nat),b<2^n->out<lT->CM n a b out=(out+a*b)%lT
 |0,a,b,out,g,f=>by
  have:b=0:=kv;subst this;rw[CM,aGN,mG,EZ f]
 | n+1,a,b,out,g,f=>by
  rw[CM];split;rename_i h;subst h;rw[aGN,mG,EZ f];have d:b/2<2^n:=by rw[QM]at g;omega
  have c:0<lT:=d_;have e:a*b=(a+a)*(b/2)+a*(b%2):=by
   have:=QL b 2
   conv=>lhs;rw[<-this]
   rw[Nat.mul_add,<-aBZ];congr 2;omega
  split;rename_i h1;rw[J3 n _ _ _ d (zM _ c),e,h1,Bb];rw[Tc,Mn,CY,Mn,<-CY,<-Tc];congr 1;omega;rename_i h1;have h0:b%2=0:=o_;rw[J3 n _ _ _ d f,e,h0,aGN,mG,Tc,CY,Mn,<-CY,<-Tc]
def He(a b:Nat):Nat:=(a*b)%lT
def vX(a:Nat)(b:V_):Nat:=Px Sm [a,(Sj b).val]
def B1(a:Nat)(b:V_):Fq:=(37:Fq)^vX a b
def I9(a:Nat)(b:V_):Nat:=(vX a b+He (I8 (B1 a b).val ((37:Fq)^a).val b).val a)%lT
def AG(a:V_)(d:Nat):Nat:=Px a [d]
def cM(o:OpM):OpM:={o with SR:=(B1 (AG vW o.By.toNat) o.B).val,SS:=I9 (AG vW o.By.toNat) o.B}
def aAN(o:OpM):(cM o).B=o.B:=by simp only[OpM.B,cM]
def J4(a b:V_):Px a b<2^64:=QJ (Sf a b).2 d_
def Ut(o:OpM)(a:o.ok):aA PQ G Ij [.ag o.A] [] λr T=>r=.ag (C7 o).A/\T=[]:=by refine aC UG ?_;have b:=o.B_len a;simp only[go_sem];apply kM (J2 o a);simp only[go_sem];apply cH (aB _) rfl rfl (Uk _ lOp o.B Y_ Y_ (Az d_) d_ (o.B_ok a) o_);rintro r c ⟨rfl,rfl⟩;refine⟨x_,s_,?_⟩;simp only[go_sem];rfl
def AH:aA PQ G kY [] [] λr T=>r=uv lT/\T=[]:=by refine aC OL ?_;simp only[go_sem,lT];rfl
def c_m(b:V_)(c:xN b)(a:b.length<=1000000):aA PQ G MA [.ls 1 (bl b)] [] λr T=>r=.v (fu (Sj b))/\T=[]:=by refine aC Wz ?_;simp only[go_sem];apply cX (Uk _ Si b Y_ Y_ (Az d_) d_ c a);simp only[go_sem];rfl
def c_e(r a:Nat)(b:V_)(d:r<2^64)(e:a<2^64)(g:xN b)(f:b.length<=1000000):aA PQ G MB [uv r,uv a,.ls 1 (bl b)] [] λx T=>x=.v (fu (I8 r a b))/\T=[]:=by refine aC W0 ?_;simp only[go_sem];apply cX (c_m b g f);simp only[go_sem];refine cH (aB _) rfl rfl (aDc _ aI5 [r,a,(Sj b).val] Y_ Y_ (Az d_) d_ (λn c=>?_) s_) ?_;simp only[cS,pP,or_false]at c;rcases c with rfl|rfl|rfl;exact d;exact e;exact Cr _;rintro x h ⟨rfl,rfl⟩;refine⟨x_,s_,?_⟩;simp only[go_sem];rfl
def GJ(s:Nat)(a:s<2^64):aA PQ G AW [uv s] [] λr T=>r=.v (fu ((37:Fq)^s))/\T=[]:=by refine aC Sd ?_;simp only[go_sem];apply aU (R:=.v (fu ((37:Fq)^s))) (aB _) rfl (Uf (37:Fq) s a) rfl;simp only[go_sem]
def aFF(a b:Nat)(z:a<2^64)(x:b<2^64):aA PQ G E6 [uv a,uv b] [] λr T=>r=uv (He a b)/\T=[]:=by
 apply aC OK;have c:0<lT:=d_;have m:bV .rem (.int .u64 (a:Int)) (.int .u64 (lT:Nat))=some (.int .u64 ((a%lT:Nat):Int)):=mD a lT (Ta c);have l:bV .rem (.int .u64 (b:Int)) (.int .u64 (lT:Nat))=some (.int .u64 ((b%lT:Nat):Int)):=mD b lT (Ta c);simp only[go_sem];apply cX AH;simp only[go_sem,↓m];apply cX AH;simp only[go_sem,↓l];have g:CM 64 (a%lT) (b%lT) 0=He a b:=by rw[J3 64 _ _ _ (QQ (zM _ c) d_) c,pQ,He,<-CY]
 rw[<-g];have k:=zM a c;have j:b%lT<2^64:=QQ (zM _ c) d_;generalize a%lT=a at *
 generalize b%lT=b at *
 clear g z x m l;refine cO (λn s=>∃a' b' out,CM n a' b' out=CM 64 a b 0/\a'<lT/\b'<2^n/\n<=64/\out<lT/\s=⟨0,[(0,uv a'),(1,uv b'),(5,uv out)],[]⟩) 64 ⟨a,b,0,rfl,k,j,cN _,c,?_⟩ ?_;simp only[go_sem];rfl;rintro n s ⟨a',b',out,w,y,f,v,i,rfl⟩;rw[<-w];have B:lT=2305843009213693950:=rfl;by_cases h0:b'=0;subst h0;have t1:decide (((0:Nat):Int)>0)=false:=d_;have A:CM n a' 0 out=out:=by cases n<;>simp[CM]
 rw[A];simp only[go_sem]
 cases n with
 |zero=>exact absurd (kj:b'=0) h0| succ n=>
  have t1:decide ((b':Int)>0)=true:=decide_eq_true o_;have h:b'<2^64:=CV f (Gl d_ v);have t:bV .rem (.int .u64 (b':Int)) (.int .u64 2)=some (.int .u64 ((b'%2:Nat):Int)):=mD b' 2 d_;have o:bV .quo (.int .u64 (b':Int)) (.int .u64 2)=some (.int .u64 ((b'/2:Nat):Int)):=Cp b' 2 d_ h;have p:bV .add (.int .u64 (a':Int)) (.int .u64 (a':Int))=some (.int .u64 ((a'+a':Nat):Int)):=eY a' a' o_;have ra:bV .rem (.int .u64 ((a'+a':Nat):Int)) (.int .u64 (lT:Nat))=some (.int .u64 (((a'+a')%lT:Nat):Int)):=mD (a'+a') lT (Ta c);have u:bV .add (.int .u64 (out:Int)) (.int .u64 (a':Int))=some (.int .u64 ((out+a':Nat):Int)):=eY out a' o_;have q:bV .rem (.int .u64 ((out+a':Nat):Int)) (.int .u64 (lT:Nat))=some (.int .u64 (((out+a')%lT:Nat):Int)):=mD (out+a') lT (Ta c);have d:b'/2<2^n:=by rw[QM]at f;omega
  rw[CM,if_neg h0];simp only[go_sem,t1,↓t];by_cases e:b'%2=1;have t2:(((b'%2:Nat):Int)==1)=true:=by rw[e];rfl
  rw[if_pos e];simp only[go_sem,t2,↓u];apply cX AH;simp only[go_sem,↓q,↓p];apply cX AH;simp only[go_sem,↓ra,↓o];exact⟨n,o_,_,_,_,rfl,zM _ c,d,o_,zM _ c,rfl⟩;have t2:(((b'%2:Nat):Int)==1)=false:=by rw[(o_:b'%2=0)];rfl
  rw[if_neg e];simp only[go_sem,t2,↓p];apply cX AH;simp only[go_sem,↓ra,↓o];exact⟨n,o_,_,_,_,rfl,zM _ c,d,o_,i,rfl⟩
def Uu(a:Nat)(b:V_)(R S:Nat)(h:a<2^64)(l:R<2^64)(k:S<2^64)(j:xN b)(i:b.length<=1000000):aA PQ G E4 [uv a,.ls 1 (bl b),.ag [uv R,uv S]] [] λr T=>r=.v (.bool (BW a b R S))/\T=[]:=by
 apply aC ON;have m:lT=2305843009213693950:=rfl;have g:∀x:Nat,decide ((x:Int)<1)=!decide (1<=x):=λx=>by rw[CT];simp;omega
 have f:∀x:Nat,decide ((lT:Int)<(x:Int))=!decide (x<=2305843009213693950):=λx=>by rw[CT];simp;omega
 have e:decide ((lT:Int)<=(S:Int))=!decide (S<=2305843009213693949):=by rw[CT];simp;omega
 simp only[go_sem,g];cases h1:decide (1<=a);simp only[go_sem,undef,BW,h1,lR];simp only[go_sem];apply cX AH;simp only[go_sem,gt_iff_lt,f];cases h2:decide (a<=2305843009213693950);simp only[go_sem,undef,BW,h1,h2,lR,Ea];simp only[go_sem,g];cases h3:decide (1<=R);simp only[go_sem,undef,BW,h1,h2,h3,lR,Ea];simp only[go_sem];apply cX AH;simp only[go_sem,gt_iff_lt,f];cases c:decide (R<=2305843009213693950);simp only[go_sem,undef,BW,h1,h2,h3,c,lR,Ea];simp only[go_sem];apply cX AH;simp only[go_sem,ge_iff_le,e];cases d:decide (S<=2305843009213693949);simp only[go_sem,BW,h1,h2,h3,c,d,lR,Ea];simp only[decide_eq_true_eq]at h1 h2 h3 c d;have u1:uv a=.v (fu (TP a)):=by simp only[fu,MN (o_:a<2305843009213693951)]
 have u2:uv R=.v (fu (TP R)):=by simp only[fu,MN (o_:R<2305843009213693951)]
 simp only[go_sem];apply aU (R:=.v (fu ((37:Fq)^S))) (aB _) rfl (Uf (37:Fq) S k) rfl;simp only[go_sem];apply cX (c_e R a b l h j i);simp only[go_sem];apply aU (R:=.v (fu (TP a^(I8 R a b).val))) (aB _) rfl (by rw[u1];exact Uf (TP a) (I8 R a b).val (Cr _)) rfl;simp only[go_sem];apply aU (R:=.v (fu (TP R*TP a^(I8 R a b).val))) (aB _) rfl (by rw[u2];exact Ue (TP R) _) rfl;have e:∀x y:Fq,((x.val:Int)==(y.val:Int))=decide (x=y):=λx y=>by rw[CT];simp[Fin.ext_iff];omega
 simp only[go_sem,e,BW];simp[h1,h2,h3,c,d]
def aI7(s:Nat)(b:V_)(d:s<2^64)(g:xN b)(f:b.length<=1000000):aA PQ G HN [uv s,.ls 1 (bl b)] [] λr T=>r=.ag [.v (fu (B1 s b)),uv (I9 s b)]/\T=[]:=by
 apply aC Pv;have a:0<lT:=d_;have j:lT=2305843009213693950:=rfl;simp only[go_sem];apply cX (c_m b g f);simp only[go_sem];refine cH (aB _) rfl rfl (Qy _ Sm [s,(Sj b).val] Y_ Y_ (Az d_) d_ (λn e=>?_) s_) ?_;simp only[cS,pP,or_false]at e;rcases e with rfl|rfl;exact d;exact Cr _;rintro x l ⟨rfl,rfl⟩;refine⟨x_,s_,?_⟩;have k:vX s b<2305843009213693950:=by have:=Sf Sm [s,(Sj b).val];unfold vX;omega
 rw[show Px Sm [s,(Sj b).val]=vX s b from rfl];simp only[go_sem];apply aU (R:=.v (fu (B1 s b))) (aB _) rfl (Uf (37:Fq) (vX s b) o_) rfl;simp only[go_sem];apply cX (GJ s d);simp only[go_sem];apply cX (c_e (B1 s b).val ((37:Fq)^s).val b (Cr _) (Cr _) g f);simp only[go_sem];apply cX (aFF (I8 (B1 s b).val ((37:Fq)^s).val b).val s (Cr _) d);obtain⟨x,c⟩:∃x,x=He (I8 (B1 s b).val ((37:Fq)^s).val b).val s:=⟨_,rfl⟩
 rw[<-c];have h:x<lT:=by rw[c];exact zM _ a
 have i:bV .add (.int .u64 (vX s b:Int)) (.int .u64 (x:Int))=some (.int .u64 ((vX s b+x:Nat):Int)):=eY (vX s b) x o_;have ra:bV .rem (.int .u64 ((vX s b+x:Nat):Int)) (.int .u64 (lT:Nat))=some (.int .u64 (((vX s b+x)%lT:Nat):Int)):=mD (vX s b+x) lT (Ta a);simp only[go_sem,↓i];apply cX AH;simp only[go_sem,↓ra];rw[c];rfl
def AI(S:ByteArray)(a:V_)(d:Nat)(g:lJ S=bl a)(c:S.size=a.length)(f:xN a)(e:a.length<=1000)(h:d<=2^63-1):aA PQ G rP [.v (.string S),iv d] [] λr T=>r=uv (AG a d)/\T=[]:=by refine aC LM ?_;have w1:IntKind.u64.wrap (d:Int)=(d:Int):=bS d o_;simp only[go_sem,w1];refine cH (aB _) rfl rfl (Qy S a [d] g c f e (λn b=>?_) s_) ?_;simp only[cA]at b;subst b;omega;rintro x i ⟨rfl,rfl⟩;refine⟨x_,s_,?_⟩;simp only[go_sem];rfl
def OX(o:OpM)(b:o.ok)(e:0<=o.By):aA PQ G jK [.ag o.A] [] λr T=>r=.ag (cM o).A/\T=[]:=by
 apply aC LL;have f:=o.B_len b;have h1:=(b.ints o.By s_).2;obtain⟨d,a⟩:∃d:Nat,o.By=(d:Int):=⟨o.By.toNat,o_⟩
 have c:o.By.toNat=d:=by rw[a];rfl
 simp only[go_sem];apply aU (R:=uv (AG vW o.By.toNat)) (aB _) rfl (by rw[c,a];exact AI _ vW d Y_ Y_ (Az d_) d_ o_) rfl;simp only[go_sem];apply kM (J2 o b);simp only[go_sem];apply cH (aB _) rfl rfl (aI7 (AG vW o.By.toNat) o.B (J4 _ _) (o.B_ok b) o_);rintro x g ⟨rfl,rfl⟩;refine⟨by simp only[fX,tC];trivial,s_,?_⟩;simp only[go_sem,OpM.A_def,cM]
def aKc(l:B_)(x:Int)(k:l.length<2^63-1):aA PQ G F7 [rG l,iv x] [] λr T=>r=.v (.bool (decide (x∈l)))/\T=[]:=by
 apply aC Sc;simp only[go_sem];refine aQ l.length (λi=>⟨0,[(0,rG l),(1,iv x),(5,iv i)],[]⟩) (λi=>∀j(a:j<l.length),j<i->l[j]≠x) ?_ W_ ?_ ?_;simp only[go_sem];intro i b c;have g:(l.map λn=>[iv n])[i]?=some [iv l[i]]:=aO _ l i b;simp only[go_sem,aP,aT b,g];refine aL (λh=>?_) (λh=>?_)<;>simp only[go_sem,fQ i o_];grind;grind;intro c;have e:¬x∈l:=λd=>by obtain⟨j,a,f⟩:=CU d;exact c j a a f
 simp only[go_sem,aP,aS (bP _),decide_eq_false e]
def Dt(g:GM)(x:Id)(d:g.ok):aA PQ G oJ [.ag g.A,.ag x.A] [] λr T=>r=iv (aW g.I x)/\T=[]:=by
 apply aC NZ;have f:g.I.length<(2^63-1):=by have:=d.i;have:=d.n;omega
 simp only[go_sem];refine aQ g.I.length (λi=>⟨0,[(2,.ptr 0 0),(3,.ptr 1 0),(5,iv i)],[some (.box g.A),some (.box x.A)]⟩) (λi=>∀j(a:j<g.I.length),j<i->decide (g.I[j]=x)=false) ?_ W_ ?_ ?_;simp only[go_sem];intro i b c;have e:(g.I.map Id.A)[i]?=some g.I[i].A:=aO _ g.I i b;simp only[go_sem,aP,aT b,e];refine aL (λh=>?_) (λh=>?_)<;>simp only[go_sem,fQ i o_];rw[aW,mC b c h];grind;intro c;simp only[go_sem,aP,aS (bP _)];rw[aW,lD λj a=>c j a a]
def Uv(g:GM)(d:Int)(m:g.ok):aA PQ G DT [.ag g.A,iv d] [] λr T=>r=.tup [.ag (gM g.Cards d).1.A,.v (.bool (gM g.Cards d).2)]/\T=[]:=by
 apply aC PW;have n:g.Cards.length<(2^63-1):=by have:=m.cn;omega
 simp only[go_sem];refine aQ g.Cards.length (λi=>⟨0,[(1,iv d),(2,.ptr 0 0),(4,.ptr 1 0),(6,iv i)],[some (.box g.A),some (.box [iv 0,iv 0,AV.v (.int .u64 0),AV.v (.int .u64 0),AV.v (.int .u64 0)])]⟩) (λi=>∀j(a:j<g.Cards.length),j<i->(g.Cards[j].Device==d)=false) ?_ W_ ?_ ?_;simp only[go_sem];intro i b f;have k:(g.Cards.map CardM.A)[i]?=some [iv g.Cards[i].Device,iv g.Cards[i].Member,uv g.Cards[i].Lead,uv g.Cards[i].Keep,uv g.Cards[i].Sign]:=aO _ g.Cards i b;simp only[go_sem,aP,aT b,k];refine aL (λh=>?_) (λh=>?_)<;>simp only[go_sem,k,fQ i o_];have e:g.Cards.find? (λc=>c.Device==d)=some g.Cards[i]:=aBG.2 ⟨h,i,b,rfl,λj a=>by simp[f j o_ a]⟩;simp only[gM,e,CardM.A_def];grind;intro f;have e:g.Cards.find? (λc=>c.Device==d)=none:=Eb.2 λx l=>by obtain⟨j,a,rfl⟩:=CU l;simp[f j a a]
 simp only[go_sem,aP,aS (bP _),gM,e,CardM.A_def];rfl
def aFG(l:V_):Sa l=rG (l.map λn:Nat=>(n:Int)):=s_
def aDr{l:V_}{i:Nat}:decide ((i:Int)∈l.map λn:Nat=>(n:Int))=decide (i∈l):=m_
theorem yB(u:V_)(b:List Bool):(u.foldl (λb k=>b.set k true) b).length=b.length:=by
 induction u generalizing b with
 |nil=>rfl|cons k u ih=>rw[CW,ih,cL]
def Q1(b:List V_)(up:V_)(a:List Bool)(i:Nat):(OG b up a i).length=a.length:=by grind[OG,yB]
def Q2(b:List V_)(up:V_):∀(n:Nat)(a:List Bool),(Kx b up n a).length=a.length|0,_=>rfl|n+1,a=>by rw[Kx,Q2 b up n,Q1]
theorem Cs(g:GM)(up:V_):(oL g up).length=g.L.length:=by rw[oL,Q2,QE]
def JA(u:V_)(b:List Bool)(i:Nat)(h:i<u.length):(u.take (i+1)).foldl (λb k=>b.set k true) b=((u.take i).foldl (λb k=>b.set k true) b).set u[i] true:=by rw[lB h,Hy];rfl
def aI8(l:V_)(i:Nat)(a:l.length<2^63-1):aA PQ G F7 [Sa l,iv i] [] λr T=>r=.v (.bool (decide (i∈l)))/\T=[]:=by rw[aFG,<-aDr];exact aKc _ (i:Int) ov
abbrev VR(a:List Bool):List (List AV):=a.map λb=>[AV.v (.bool b)]
def Sn(a:List Bool)(i:Nat)(b:Bool):(VR a).set i [AV.v (.bool b)]=VR (a.set i b):=s_
def W5 (g:GM) (up:V_) (hg:g.ok) (hu:up.length<=1000):aA PQ G DN [.ag g.A,Sa up] [] λr T=>r=.own 0/\T=[some (.arr 1 (VR (oL g up)))]:=by
 apply aC PZ;have hn:=hg.n;have b1:(g.L.length:Int)*1<=140737488355328:=o_;have b2:(g.L.length:Int)<=(maxLen:Nat):=g_;have hz:(0:Int)<=(g.L.length:Int):=o_;have w1:IntKind.i64.wrap ((g.L.length:Int)-1)=(g.L.length:Int)-1:=aJ o_ o_;simp only[go_sem,aP,b1,b2,hz,w1,Int.le_refl];refine cO (λn s=>∃a:List Bool,a.length=g.L.length/\n<=g.L.length/\Kx g.Up up n a=oL g up/\s=⟨0,[(1,Sa up),(2,.ptr 0 0),(5,.own 1),(6,iv ((n:Int)-1))],[some (.box g.A),some (.arr 1 (VR a))]⟩) g.L.length ⟨List.replicate g.L.length false,s_,cN _,rfl,?_⟩ ?_;simp only[go_sem,YH];rintro n s ⟨a,ha,hnl,hR,rfl⟩
 cases n with
 |zero=>
  have t1:decide ((0:Int)<=((0:Nat):Int)-1)=false:=d_;rw[<-hR];simp only[go_sem,ge_iff_le,Kx]
 | succ i=>
  have e0:(((i+1:Nat):Int)-1)=(i:Int):=o_;have t1:decide ((0:Int)<=(i:Int))=true:=decide_eq_true o_;have w2:IntKind.i64.wrap ((i:Int)-1)=(i:Int)-1:=aJ o_ o_;rw[e0];simp only[go_sem,ge_iff_le];apply cX (aI8 up i o_);obtain⟨a1,ha1⟩:∃a1,a1=(if decide (i∈up) then a.set i true else a):=⟨_,rfl⟩
  have hl1:a1.length=g.L.length:=m_;have hil:i<g.L.length:=o_;have g0:(VR a)[i]?=some [AV.v (.bool (a.getD i false))]:=h_;have g1:(VR a1)[i]?=some [AV.v (.bool (a1.getD i false))]:=h_;have hU:(g.Up.map λl=>[Sa l])[i]?=some [Sa (g.Up.getD i [])]:=by rw[gE,rH,jN (by rw[hg.un];omega)];rfl
  have hUm:g.Up.getD i []∈g.Up:=m_;obtain⟨hul,huk⟩:=hg.up _ hUm;have hstep:OG g.Up up a i=if a1.getD i false then(g.Up.getD i []).foldl (λb k=>b.set k true) a1 else a1:=by rw[ha1];rfl
  rw[Kx,hstep]at hR;have hul2:=hg.un;clear hstep;generalize g.Up.getD i []=u at *
  simp only[go_sem];refine aL (λh=>?_) (λh=>?_);have hs:=Sn a i true;have hai:a1=a.set i true:=by rw[ha1,if_pos h]
  simp only[go_sem,aP,ha,hil,g0,hs,<-hai,hl1,g1];cases hb:a1.getD i false;grind;rw[hb,if_pos rfl]at hR;simp only[go_sem];refine aQ u.length (λj=>⟨0,[(1,Sa up),(2,.ptr 0 0),(5,.own 1),(6,iv i),(7,iv j)],[some (.box g.A),some (.arr 1 (VR ((u.take j).foldl (λb k=>b.set k true) a1)))]⟩) (λ_=>True) ?_ trivial ?_ ?_;simp only[go_sem,uQ,Kk];intro j hj _;have hk:=huk u[j] (eQ hj);have gj:(u.map λn:Nat=>[iv (n:Int)])[j]?=some [iv (u[j]:Nat)]:=aO _ u j hj;have hl2:((u.take j).foldl (λb k=>b.set k true) a1).length=g.L.length:=by rw[yB,hl1]
  rw[JA u a1 j hj,<-Sn];generalize(u.take j).foldl (λb k=>b.set k true) a1=c at *
  generalize u[j]=q at *
  have g2:(VR c)[q]?=some [AV.v (.bool (c.getD q false))]:=m_;simp only[go_sem,aP,hU,aT hj,gj,hl2,hk,g2,fQ j o_];intro _;rw[dE];simp only[go_sem,aP,hU,aS (bP _),w2];grind[yB];have hai:a1=a:=h_;rw[<-hai]at ha g0⊢;simp only[go_sem,aP,hl1,hil,g1];cases hb:a1.getD i false;rw[hb]at hR;simp only[jJ,if_false]at hR;simp only[go_sem,w2];grind;rw[hb,if_pos rfl]at hR;simp only[go_sem];refine aQ u.length (λj=>⟨0,[(1,Sa up),(2,.ptr 0 0),(5,.own 1),(6,iv i),(7,iv j)],[some (.box g.A),some (.arr 1 (VR ((u.take j).foldl (λb k=>b.set k true) a1)))]⟩) (λ_=>True) ?_ trivial ?_ ?_;simp only[go_sem,uQ,Kk];intro j hj _;have hk:=huk u[j] (eQ hj);have gj:(u.map λn:Nat=>[iv (n:Int)])[j]?=some [iv (u[j]:Nat)]:=aO _ u j hj;have hl2:((u.take j).foldl (λb k=>b.set k true) a1).length=g.L.length:=by rw[yB,hl1]
  rw[JA u a1 j hj,<-Sn];generalize(u.take j).foldl (λb k=>b.set k true) a1=c at *
  generalize u[j]=q at *
  have g2:(VR c)[q]?=some [AV.v (.bool (c.getD q false))]:=h_;simp only[go_sem,aP,hU,aT hj,gj,hl2,hk,g2,fQ j o_];intro _;rw[dE];simp only[go_sem,aP,hU,aS (bP _),w2];grind[yB]
def ZE{α:Type}(p:α->Bool)(l:List α)(i:Nat)(h:i<l.length):(l.take (i+1)).any p=((l.take i).any p||p l[i]):=by rw[lB h,List.any_append];simp
def ZF(g:GM)(o:OpM)(a:List Bool)(O:g.ok)(J:o.ok)(S:1<=o.Seq)(N:a.length=g.L.length):aA PQ G E5 [.ag g.A,.ag o.A,wI a] [] λr T=>r=.v (.bool (FT g.L o a))/\T=[]:=by
 apply aC Nh;have U:=O.n;have f:=J.ints o.Seq s_;have w1:IntKind.i64.wrap (o.Seq-1)=o.Seq-1:=aJ (by have:=f.1;omega) (by have:=f.2;omega);obtain⟨z,D⟩:∃z,z=g.L.zip a:=⟨_,rfl⟩
 have l:z.length=g.L.length:=by rw[D];simp[N]
 have Q:FT g.L o a=(z.all (λe=>!(I0 o e)||decide (e.1.Seq<o.Seq))&&((o.Seq==1)||z.any λe=>I0 o e&&e.1.Seq==o.Seq-1)):=by rw[D];rfl
 simp only[go_sem];refine aQ g.L.length (λi=>⟨0,[(2,wI a),(3,.ptr 0 0),(4,.ptr 1 0),(7,.v (.bool ((z.take i).any λe=>I0 o e&&e.1.Seq==o.Seq-1))),(8,iv i)],[some (.box g.A),some (.box o.A)]⟩) (λi=>∀j(t:j<z.length),j<i->(!(I0 o z[j])||decide (z[j].1.Seq<o.Seq))=true) ?_ (by intro j t h;omega) ?_ ?_;simp only[go_sem,uQ,List.any_nil];intro i u B;have F:i<z.length:=o_;have I:(g.L.map OpM.A)[i]?=some g.L[i].A:=aO _ g.L i u;have R:(a.map λb=>[AV.v (.bool b)])[i]?=some [AV.v (.bool a[i])]:=aO _ a i o_;have m:z[i]=(g.L[i],a[i]):=by subst D;simp
 have y:=fQ i o_;have M:i<a.length:=o_;rw[ZE _ z i F];have s:=B;have c:(!(I0 o z[i])||decide (z[i].1.Seq<o.Seq))=true->∀j(t:j<z.length),j<i+1->(!(I0 o z[j])||decide (z[j].1.Seq<o.Seq))=true:=λh j t K=>m_;have d:(!(I0 o z[i])||decide (z[i].1.Seq<o.Seq))=false->FT g.L o a=false:=λh=>m_;rw[m]at c d⊢;have k:I0 o (g.L[i],a[i])=(a[i]&&g.L[i].By==o.By):=rfl;rw[k]at c d⊢;clear B s m k;generalize((z.take i).any λe=>I0 o e&&e.1.Seq==o.Seq-1)=C;generalize a[i]=b at *
 generalize g.L[i]=x at *
 have E:(x.By !=o.By)=!(x.By==o.By):=rfl;simp only[go_sem,aP,aT u,R];cases b;simp only[go_sem,undef,y,lR,EB];exact c rfl;simp only[go_sem,I,E];cases H:(x.By==o.By);simp only[go_sem,y,mF,lR,EB];simp_all;rw[H]at c d;simp only[go_sem,I,ge_iff_le];have P:decide (o.Seq<=x.Seq)=!decide (x.Seq<o.Seq):=m_;rw[P];cases q:decide (x.Seq<o.Seq);rw[q]at d;simp only[go_sem,d rfl];rw[q]at c;simp only[go_sem];cases C;simp only[go_sem,y,I,w1,mF,EH];exact c rfl;simp only[go_sem,undef,y,mF,EI];exact c rfl;intro B;have w:=Bu (p:=λe=>!(I0 o e)||decide (e.1.Seq<o.Seq)) λj t _=>B j t o_;rw[<-l,dE];rw[Q,w,mF];simp only[go_sem,aP,l,aS (bP _)];cases h1:(o.Seq==1);simp only[go_sem,EH];simp only[go_sem,undef,EI]
def AZ(I:D_)(x:Id):aW I x<I.length/\-1<=aW I x:=by
 unfold aW qX
 cases h:I.findIdx? (λy=>decide (y=x)) with
 |none=>simp;omega|some i=>
  obtain⟨h1,_⟩:=Ad.1 h;simp;omega
def CN(g:GM)(o:OpM)(up:V_):Int×V_:=if J0 g o up=false then(6,[]) else if FT g.L o (oL g up)=false then(11,[]) else(0,up)
def BA(g:GM)(o:OpM):Int×V_:=match Pu g.I o.Past with|none=>(10,[])|some a=>CN g o a
def Du(g:GM)(o:OpM):Int×V_ :=
 if 0<=aW g.I (C7 o) then(5,[])
 else if 200<=g.L.length then(3,[])
 else if(gM g.Cards o.By).2=false then(17,[])
 else if BW (gM g.Cards o.By).1.Sign o.B o.SR o.SS=false then(12,[])
 else if(o.Kind==1&&decide (0<g.L.length))=true then(1,[])
 else BA g o
def dV(g:GM)(o:OpM):Int×V_:=if jB o≠0 then(jB o,[]) else Du g o
def Dv{o:OpM}(h:jB o=0):1<=o.Seq/\1<=o.By/\o.By<=12/\0<=o.At:=by unfold jB at h;grind[fP,oI]
def Uw{cs:List CardM}{d:Int}(h:∀c∈cs,c.ok):(gM cs d).1.Sign<2^64:=by unfold gM;split;rename_i c e;exact(h c (Mg e)).2.2.2.2;decide
def aDs (g:GM) (o:OpM) (z:g.ok) (M:o.ok):aA PQ G Bk [.ag g.A,.ag o.A] [] λr T=>r=.tup [iv (dV g o).1,.own 0]/\T=[some (.arr 1 ((dV g o).2.map λn:Nat=>[iv (n:Int)]))]:=by
 apply aC Nd;have hn:=z.n;have aj:=M.past.1;simp only[go_sem];apply cX (aFq o M);simp only[go_sem];refine aL (λh=>?_) (λh=>?_);simp only[bne_iff_ne,ne_eq]at h;simp only[go_sem,dV,h];simp only[bne_eq_false_iff_eq]at h;have k1:=h;have u:dV g o=Du g o:=by grind[dV]
 unfold Du at u;clear h;simp only[go_sem];apply cX (Ut o M);simp only[go_sem];apply cX (Dt g (C7 o) z);simp only[go_sem,ge_iff_le];refine aL (λh=>?_) (λh=>?_)<;>simp only[decide_eq_true_eq,decide_eq_false_iff_not]at h;rw[u,if_pos h];simp only[go_sem];rw[if_neg h]at u;clear h;have ac:decide ((200:Int)<=(g.L.length:Int))=decide (200<=g.L.length):=p_;simp only[go_sem,aP,ge_iff_le,ac];refine aL (λh=>?_) (λh=>?_)<;>simp only[decide_eq_true_eq,decide_eq_false_iff_not]at h;rw[u,if_pos h];simp only[go_sem];rw[if_neg h]at u;clear h;simp only[go_sem];apply cX (Uv g o.By z);simp only[go_sem,CardM.A_def];cases V:(gM g.Cards o.By).2;rw[u,if_pos V];simp only[go_sem];rw[if_neg (by simp[V])]at u;have ae:=Uw (d:=o.By) z.cs;generalize(gM g.Cards o.By).1=c at *
 simp only[go_sem];apply kM (J2 o M);simp only[go_sem];apply cH (aB _) rfl rfl (Uu c.Sign o.B o.SR o.SS ae (M.nums o.SR s_) (M.nums o.SS s_) (o.B_ok M) (by have:=o.B_len M;omega));rintro r T' ⟨rfl,rfl⟩;refine⟨x_,s_,?_⟩;simp only[go_sem];cases X:BW c.Sign o.B o.SR o.SS;rw[u,if_pos X];simp only[go_sem];rw[if_neg (by simp[X])]at u;simp only[go_sem];have F:decide ((g.L.length:Int)>0)=decide (0<g.L.length):=s_;cases hK:(o.Kind==1);rotate_left
 ·simp only[go_sem,aP,F];cases h2:decide (0<g.L.length);rotate_left;rw[hK,h2,if_pos s_]at u;rw[u];simp only[go_sem];rw[hK,h2,if_neg s_]at u;clear F;have R:∀x:Id,(aW g.I x).toNat<g.L.length\/aW g.I x<0:=λx=>by have:=AZ g.I x;have:=z.i;omega
  simp only[go_sem];refine aQ o.Past.length (λi=>⟨0,[(2,.ptr 0 0),(3,.ptr 1 0),(10,.own 2),(11,iv i)],[some (.box g.A),some (.box o.A),some (.arr 1 (((o.Past.take i).map λx=>(aW g.I x).toNat).map λn:Nat=>[iv (n:Int)]))]⟩) (λi=>∀j(N:j<o.Past.length),j<i->decide (0<=aW g.I o.Past[j])=true) ?_ ao ?_ ?_;simp only[go_sem,uQ];intro i s y;have g0:(o.Past.map Id.A)[i]?=some o.Past[i].A:=aO _ o.Past i s;have ws:=fQ i o_;rw[lB s,bZ,bZ];have ad:((o.Past.take i).map λx=>(aW g.I x).toNat).length=i:=p_;simp only[go_sem,aP,aT s,g0];apply cX (Dt g o.Past[i] z);simp only[go_sem];refine aL (λh3=>?_) (λh3=>?_)<;>simp only[decide_eq_true_eq,decide_eq_false_iff_not]at h3;have hf:(o.Past.all λx=>decide (0<=aW g.I x))=false:=EG (p:=λx=>decide (0<=aW g.I x)) s (decide_eq_false o_);rw[u];simp only[go_sem,BA,Pu,hf];simp_all;intro y;have K:=Bu (p:=λx=>decide (0<=aW g.I x)) y;rw[dE];have f:dV g o=CN g o (o.Past.map λx=>(aW g.I x).toNat):=by grind[BA,Pu]
  have Q:∀k∈o.Past.map (λx=>(aW g.I x).toNat),k<g.L.length:=λk O=>m_;have D:(o.Past.map λx=>(aW g.I x).toNat).length<=1000:=h_;generalize C:(o.Past.map λx=>(aW g.I x).toNat)=a at *
  clear u K y R;rw[<-C]at D;rw[aP]at D;have W:a.length=o.Past.length:=m_;simp only[go_sem,aP,aS (bP _)];refine aQ a.length (λi=>⟨0,[(2,.ptr 0 0),(3,.ptr 1 0),(10,.own 2),(13,iv i)],[some (.box g.A),some (.box o.A),some (.arr 1 (a.map λn:Nat=>[iv (n:Int)]))]⟩) (λi=>∀j(N:j<a.length),j<i->((a.all λk=>!((g.In.getD a[j] []).getD k false))&&!decide (o.At<(g.L.getD a[j] default).At))=true) ?_ ao ?_ ?_;simp only[go_sem];grind;intro y;have H:J0 g o a=true:=Bu (p:=λi=>(a.all λk=>!((g.In.getD i []).getD k false))&&!decide (o.At<(g.L.getD i default).At)) y;rw[CN,if_neg (by simp[H])]at f;simp only[go_sem,aP,aS (bP _)];apply cH (aB _) rfl rfl (W5 g a z o_);rintro r T' ⟨rfl,rfl⟩;refine⟨x_,de,?_⟩;simp only[go_sem];apply cH (aB _) rfl rfl (ZF g o (oL g a) z M (Dv k1).1 (Cs g a));rintro r T' ⟨rfl,rfl⟩;refine⟨x_,s_,?_⟩;simp only[go_sem];cases Z:FT g.L o (oL g a);rw[if_pos Z]at f;rw[f];simp only[go_sem];rw[if_neg (by simp[Z])]at f;rw[f];simp only[go_sem]
 rw[hK,lR,if_neg s_]at u;clear F;have R:∀x:Id,(aW g.I x).toNat<g.L.length\/aW g.I x<0:=λx=>by have:=AZ g.I x;have:=z.i;omega
 simp only[go_sem,undef];refine aQ o.Past.length (λi=>⟨0,[(2,.ptr 0 0),(3,.ptr 1 0),(10,.own 2),(11,iv i)],[some (.box g.A),some (.box o.A),some (.arr 1 (((o.Past.take i).map λx=>(aW g.I x).toNat).map λn:Nat=>[iv (n:Int)]))]⟩) (λi=>∀j(N:j<o.Past.length),j<i->decide (0<=aW g.I o.Past[j])=true) ?_ ao ?_ ?_;simp only[go_sem,uQ];intro i s y;have g0:(o.Past.map Id.A)[i]?=some o.Past[i].A:=aO _ o.Past i s;have ws:=fQ i o_;rw[lB s,bZ,bZ];have ad:((o.Past.take i).map λx=>(aW g.I x).toNat).length=i:=p_;simp only[go_sem,aP,aT s,g0];apply cX (Dt g o.Past[i] z);simp only[go_sem];refine aL (λh3=>?_) (λh3=>?_)<;>simp only[decide_eq_true_eq,decide_eq_false_iff_not]at h3;have hf:(o.Past.all λx=>decide (0<=aW g.I x))=false:=EG (p:=λx=>decide (0<=aW g.I x)) s (decide_eq_false o_);rw[u];simp only[go_sem,BA,Pu,hf];have e1:AV.v (.int .i64 (aW g.I o.Past[i]))=iv (((aW g.I o.Past[i]).toNat:Nat):Int):=p_;have t:=vH (p:=λx=>decide (0<=aW g.I x)) s y (decide_eq_true o_);have aa:min i o.Past.length=i:=Kj (H9 s);simp only[go_sem,aP,eC,aa,ws,e1,(g_:i+1<=maxLen),(o_:(i+1)*8<=140737488355328)];exact t;intro y;have K:=Bu (p:=λx=>decide (0<=aW g.I x)) y;rw[dE];have f:dV g o=CN g o (o.Past.map λx=>(aW g.I x).toNat):=by grind[BA,Pu]
 have Q:∀k∈o.Past.map (λx=>(aW g.I x).toNat),k<g.L.length:=λk O=>m_;have D:(o.Past.map λx=>(aW g.I x).toNat).length<=1000:=h_;generalize C:(o.Past.map λx=>(aW g.I x).toNat)=a at *
 clear u K y R;rw[<-C]at D;rw[aP]at D;have W:a.length=o.Past.length:=m_;simp only[go_sem,aP,aS (bP _)];refine aQ a.length (λi=>⟨0,[(2,.ptr 0 0),(3,.ptr 1 0),(10,.own 2),(13,iv i)],[some (.box g.A),some (.box o.A),some (.arr 1 (a.map λn:Nat=>[iv (n:Int)]))]⟩) (λi=>∀j(N:j<a.length),j<i->((a.all λk=>!((g.In.getD a[j] []).getD k false))&&!decide (o.At<(g.L.getD a[j] default).At))=true) ?_ ao ?_ ?_;simp only[go_sem];intro i s y;have ah:=Q _ (eQ s);have gi:(a.map λn:Nat=>[iv (n:Int)])[i]?=some [iv (a[i]:Nat)]:=aO _ a i s;have ak:=z.inn;have Y:(g.In.map λl=>[wI l])[a[i]]?=some [wI (g.In.getD a[i] [])]:=h_;have ai:(g.In.getD a[i] []).length=g.L.length:=by rw[rH,jN o_];exact z.ins _ (eQ _)
 have cE:(g.L.map OpM.A)[a[i]]?=some (g.L.getD a[i] default).A:=h_;have t:=λh=>vH (p:=λi=>(a.all λk=>!((g.In.getD i []).getD k false))&&!decide (o.At<(g.L.getD i default).At)) s y h;have P:=λh=>EG (p:=λi=>(a.all λk=>!((g.In.getD i []).getD k false))&&!decide (o.At<(g.L.getD i default).At)) s h;have m:((a.all λk=>!((g.In.getD a[i] []).getD k false))&&!decide (o.At<(g.L.getD a[i] default).At))=false->dV g o=(6,[]):=λh=>by rw[f,CN,if_pos (show J0 g o a=false from P h)]
 clear P y;generalize a[i]=q at *
 generalize g.In.getD q []=w at *
 generalize g.L.getD q default=oq at *
 simp only[go_sem,aP,aT s];refine aQ a.length (λk=>⟨0,[(2,.ptr 0 0),(3,.ptr 1 0),(10,.own 2),(13,iv i),(14,iv k)],[some (.box g.A),some (.box o.A),some (.arr 1 (a.map λn:Nat=>[iv (n:Int)]))]⟩) (λk=>∀j(N:j<a.length),j<k->(λk=>!(w.getD k false)) a[j]=true) ?_ ao ?_ ?_;simp only[go_sem];intro k O U;have af:=Q _ (eQ O);have gk:(a.map λn:Nat=>[iv (n:Int)])[k]?=some [iv (a[k]:Nat)]:=aO _ a k O;have gr:(w.map λb=>[AV.v (.bool b)])[a[k]]?=some [AV.v (.bool (w.getD a[k] false))]:=h_;have E:=λh=>vH (p:=λk=>!(w.getD k false)) O U h;have J:=λh=>EG (p:=λk=>!(w.getD k false)) O h;generalize a[k]=p at *
 simp only[go_sem,aP,aT O,O,s,gi,gk,Y,gr];cases hb:w.getD p false;rw[hb]at E;simp only[go_sem,fQ k o_];exact E rfl;rw[hb]at J;rw[J rfl]at m;simp only[go_sem,m rfl];intro U;have S:=Bu (p:=λk=>!(w.getD k false)) U;rw[S]at t m;simp only[go_sem,aP,aS (bP _),s,gi,cE];cases ab:decide (o.At<oq.At);rw[ab]at t;simp only[go_sem,fQ i o_];exact t rfl;rw[ab]at m;simp only[go_sem,m rfl];intro y;have H:J0 g o a=true:=Bu (p:=λi=>(a.all λk=>!((g.In.getD i []).getD k false))&&!decide (o.At<(g.L.getD i default).At)) y;rw[CN,if_neg (by simp[H])]at f;simp only[go_sem,aP,aS (bP _)];apply cH (aB _) rfl rfl (W5 g a z o_);rintro r T' ⟨rfl,rfl⟩;refine⟨x_,de,?_⟩;simp only[go_sem];apply cH (aB _) rfl rfl (ZF g o (oL g a) z M (Dv k1).1 (Cs g a));rintro r T' ⟨rfl,rfl⟩;refine⟨x_,s_,?_⟩;simp only[go_sem];cases Z:FT g.L o (oL g a);rw[if_pos Z]at f;rw[f];simp only[go_sem];rw[if_neg (by simp[Z])]at f;rw[f];simp only[go_sem]
structure BX where
 To:Fq
 Eph:Fq
 Body:Fq
 Tag:Fq
def BX.A(b:BX):O_:=[.v (fu b.To),.v (fu b.Eph),.v (fu b.Body),.v (fu b.Tag)]
end Hud
