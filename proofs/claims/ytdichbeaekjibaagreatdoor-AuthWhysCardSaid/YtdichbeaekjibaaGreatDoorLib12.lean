import Derived.Test.YtdichbeaekjibaaGreatDoorLib11
set_option linter.all false
set_option maxHeartbeats 40000000
namespace Hud
open Go
variable{G:L_}
@[go_sem] def shA(args:O_)(T:aK)(I:V_):O_:=(List.range args.length).map λi=>bA (Ef ⟨T.length,sB 0 args,T⟩ I).s i
@[go_sem] def shT(args:O_)(T:aK)(I:V_):aK:=(Ef ⟨T.length,sB 0 args,T⟩ I).T
section
variable{P:Program}{G:L_}{f:FuncId}{args args':O_}{T:aK}
def aA.ofCall{K:AV->aK->Prop}(a:@pB P G f args T ⟨K⟩):aA P G f args T K:=λ_ _ _ _ b hI c=>Ei a b hI c
def aA.sh(I:V_){args2:O_}{T2:aK}{post:AV->aK->Prop}(C:shA args T I=args2)(J:shT args T I=T2)(m:aA P G f args2 T2 post):aA P G f args T post:=by
 intro h φ w d L hI B;have t:SInv P G 0 h φ T w ⟨T.length,sB 0 args,T⟩ ⟨d,[]⟩ w:=by refine⟨rfl,(Jl 0 args).1,⟨h,φ,L,Evo.refl,hI,?_⟩,s_,by simp[Eo]⟩;have:=R7 (h:=h) (φ:=φ) (n:=T.length) 0 args [] d.toList [] rfl B;simpa only[dM,jO,YD]using this
 have K:∀(l:V_)(st:St),SInv P G 0 h φ T w st ⟨d,[]⟩ w->SInv P G 0 h φ T w (Ef st l) ⟨d,[]⟩ w:=by
  intro l
  induction l with
  |nil=>intro st h;exact h|cons i r ih=>intro st h;exact ih _ (h.shutI i)
 obtain⟨_,_,⟨h2,g,N,F,E,D⟩,_,_⟩:=K I _ t;have s:(Ef ⟨T.length,sB 0 args,T⟩ I).T=T2:=J;rw[s]at F E D;have x:cC h2 g T2.length args2 d.toList:=by
  have A:=B.length;refine cC.mk (by rw[<-C];simp[shA,A]) λi c u m o=>?_;rw[<-C]at m;have H:i<args.length:=by rcases eD i args.length with h|h;exact h;rw[A]at h;rw[sX h]at o;cases o
  simp only[shA,gE,aBQ H,iX,E_]at m;have:=D i;rw[m]at this;have q:d.getD i undef=u:=by rw[TR];rw[Array.getElem?_toList]at o;rw[o];rfl
  rw[q]at this;exact this
 have k:∀{v j},CS h2 g T2 w post v j->CS h φ T w post v j:=λ⟨r,R,M,p,z,y,Q,O⟩=>⟨r,R,M,p,z,F.trans y,Q,O⟩
 rcases m h2 g w d N E x with⟨a,b⟩|⟨v,j,a,b⟩
 exact .inl ⟨a,b.mono λe j ⟨v,z,y⟩=>⟨v,z,k y⟩⟩;exact .inr ⟨v,j,a,k b⟩
def Sb(L:V_){args2 args3:O_}{T2 b:aK}{R:AV}{K:AV->aK->Prop}(I:V_)(d:EK args args')(e:L.Nodup)(m:∀i∈L,i<T.length)(k:xF L args'=args2)(l:GX L T=T2)
 (h3:shA args2 T2 I=args3) (n:shT args2 T2 I=b) (h:iZ args3=[]) (j:aA P G f args3 [] λr a=>r=R/\a=[]) (c:gF R=[]) (g:K R (IF L T.length T L b)):@pB P G f args T ⟨K⟩ :=
 aG L (post:=λr a=>r=R/\a=b) d e m k l (aA.sh I h3 n (aA.ofCall (aU (aB _) h j c ⟨rfl,rfl⟩))) λr a ⟨h1,h2⟩=>by subst h1;subst h2;rw[Yo c];exact g
end
@[go_sem] def aS8:IntKind.i64.wrap 0=0:=d_
@[go_sem] def aMl:IntKind.u64.wrap 0=0:=d_
@[go_sem] def aMm:IntKind.i64.wrap 1=1:=d_
@[go_sem] def aS9:IntKind.u64.wrap 1=1:=d_
@[go_sem] def aMo:IntKind.i64.wrap 2=2:=d_
@[go_sem] def aSa:IntKind.u64.wrap 2=2:=d_
@[go_sem] def aMq:IntKind.i64.wrap 3=3:=d_
@[go_sem] def aSb:IntKind.u64.wrap 3=3:=d_
@[go_sem] def aMs:IntKind.i64.wrap 4=4:=d_
@[go_sem] def aSc:IntKind.u64.wrap 4=4:=d_
@[go_sem] def aSd:IntKind.i64.wrap 5=5:=d_
@[go_sem] def aSe:IntKind.u64.wrap 5=5:=d_
@[go_sem] def aSf:IntKind.i64.wrap 6=6:=d_
@[go_sem] def aSg:IntKind.u64.wrap 6=6:=d_
@[go_sem] def aMy:IntKind.i64.wrap 7=7:=d_
@[go_sem] def aSh:IntKind.u64.wrap 7=7:=d_
@[go_sem] def aSi:IntKind.i64.wrap 8=8:=d_
@[go_sem] def aSj:IntKind.u64.wrap 8=8:=d_
@[go_sem] def aRi:IntKind.i64.wrap 16=16:=d_
@[go_sem] def aRj:IntKind.u64.wrap 16=16:=d_
@[go_sem] def aRk:IntKind.i64.wrap 24=24:=d_
@[go_sem] def aRl:IntKind.u64.wrap 24=24:=d_
@[go_sem] def aRm:IntKind.i64.wrap 32=32:=d_
@[go_sem] def aRn:IntKind.u64.wrap 32=32:=d_
@[go_sem] def aRo:IntKind.i64.wrap 64=64:=d_
@[go_sem] def aRp:IntKind.u64.wrap 64=64:=d_
def nG(s w:Fq)(k:Nat):Fq:=(37*s+(w+Fin.ofNat PP k))^17
def Qv(n:Nat)(h:n<PP):((Fin.ofNat PP n:Fq)).val=n:=EZ h
def aFv(w:Fq)(k:Nat)(h:k<PP):(w.val+k)%FP=(w+Fin.ofNat PP k).val:=by rw[Fin.val_add,Qv k h];rfl
def eW:Fq:=⟨1835363429,d_⟩
def Y5(es:N_):aA PQ G AB [.ls 1 es] [] λr a=>r=.cl nS [.ptr 0 0]/\a=[some (.box [.ls 1 es])]:=by refine aC LW ?_;simp only[go_sem]
def Y6(es:N_):aA PQ G lX [.ls 1 es,iv 7] [] λr a=>r=.cl kS [.ptr 0 0,.ptr 1 0]/\a=[some (.box [.ls 1 es]),some (.box [iv 7])]:=by refine aC yU ?_;simp only[go_sem]
def Dn:Fq->Nat->List Fq->Fq|s,_,[]=>s|s,k,w::l=>Dn (nG s w (k+1)) (k+1) l
def hI(a b c:Nat):Nat->Fq|0=>nG (nG 4 eW 1) (Fin.ofNat PP 3) 2|1=>nG (nG (nG 4 eW 1) (Fin.ofNat PP 3) 2) (Fin.ofNat PP a) 3|2=>nG (nG (nG (nG 4 eW 1) (Fin.ofNat PP 3) 2) (Fin.ofNat PP a) 3) (Fin.ofNat PP b) 4|_=>nG (nG (nG (nG (nG 4 eW 1) (Fin.ofNat PP 3) 2) (Fin.ofNat PP a) 3) (Fin.ofNat PP b) 4) (Fin.ofNat PP c) 5

abbrev fl(l:List Fq):List (List AV):=l.map λc=>[.v (fu c)]
def aI0(l:List Fq)(i:Nat)(h:i<l.length):(fl l)[i]?=some [.v (fu l[i])]:=by simp[fl,h]
def xA:V_->Nat|[]=>0|x::r=>x+256*xA r
def wH:Nat->V_->V_|0,_=>[]|_+1,[]=>[]|n+1,x::b=>xA ((x::b).take 7)::wH n ((x::b).drop 7)
def eN(b:V_):V_:=wH b.length b
def OJ:∀{b:V_},xN b->xA b<256^b.length|[],_=>by simp[xA]|x::r,h=>by have h1:=OJ (b:=r) λy a=>h y (GU _ a);have h2:=h x EV;grind[xA,List.length_cons,Nat.pow_succ]
def Qw{b:V_}(h:xN b)(a:b.length<=7):xA b<72057594037927936 :=
 CV (OJ h) (uR (Gl d_ a) d_)
def Ky:∀(n m:Nat)(b:V_),b.length<=n->b.length<=m->wH n b=wH m b
 |0,m,b,h,_=>by
  have:b=[]:=Ae o_;subst this;cases m<;>rfl
 |n+1,m,[],_,_=>by cases m<;>rfl
 |n+1,0,x::b,_,h=>by simp at h|n+1,m+1,x::b,h1,h2=>by simp only[wH];rw[Ky n m ((x::b).drop 7) (by simp at h1⊢;omega) (by simp at h2⊢;omega)]
def Wx:eN []=[]:=rfl
def FV{b:V_}(h:b≠[]):eN b=xA (b.take 7)::eN (b.drop 7):=by
 cases b with
 |nil=>exact absurd rfl h|cons x b=>
  unfold eN;simp only[sE,wH];rw[Ky _ ((x::b).drop 7).length _ s_ (cN _)]
def Wy{b:V_}(h:b≠[])(a:b.length<=7):eN b=[xA b]:=by rw[FV h,sG a,LB a,Wx]
def Hc(b:V_):(eN b).length<=b.length:=by
 have:∀(n:Nat)(b:V_),(wH n b).length<=n:=by
  intro n
  induction n with
  |zero=>intro b;simp[wH]|succ n ih=>intro b;cases b<;>simp[wH,ih]
 exact this _ _
def J1 {b:V_} (h:xN b):∀w∈eN b,w<72057594037927936:=by
 have:∀(n:Nat)(b:V_),xN b->∀w∈wH n b,w<72057594037927936:=by
  intro n
  induction n with
  |zero=>intro b _ w a;simp[wH]at a| succ n ih=>
   intro b c w a
   cases b with
   |nil=>simp[wH]at a|cons x b=>
    simp only[wH,cS]at a;rcases a with rfl|a;exact Qw (uU c 7) ox;exact ih _ (Ih c 7) w a
 exact this _ _ h
def aDa{c:V_}{j:Nat}(h:j<c.length):xA (c.drop j)=c[j]+256*xA (c.drop (j+1)):=by rw[Kc h];rfl
def Cq{w:Nat}(h:w<PP):(Value.int .u64 (w:Int))=fu (Fin.ofNat PP w):=by rw[fu,Qv w h]
def Ug (b:V_) (H:xN b) (P:b.length<=100000000):aA PQ G Bo [.ls 1 (bl b)] [] λr O=>r=.own 0/\O=[some (.arr 1 (ul (eN b)))]:=by
 apply aC N6;simp only[go_sem];refine cO (λn s=>∃(i:Nat)(A:V_),n=b.length+7-i/\i<=b.length+6/\A.length<=i/\A++eN (b.drop i)=eN b/\s=⟨0,[(0,.ls 1 (bl b)),(3,.own 0),(4,iv i)],[some (.arr 1 (ul A))]⟩) (b.length+7) ⟨0,[],o_,o_,cN _,s_,?_⟩ ?_;simp only[go_sem];rintro n s ⟨i,A,rfl,R,S,q,rfl⟩;by_cases k:i<b.length;obtain⟨e,E,D,C,B⟩:∃e:Nat,i<e/\e<=b.length/\e<=i+7/\e=min b.length (i+7):=⟨min b.length (i+7),o_,o_,o_,rfl⟩
 have w1:IntKind.i64.wrap ((i:Int)+7)=((i+7:Nat):Int):=k_;have w2:(if((i+7:Nat):Int)<(b.length:Int) then((i+7:Nat):Int) else(b.length:Int))=(e:Int):=sa;have w3:IntKind.i64.wrap ((e:Int)-1)=(e:Int)-1:=aJ o_ o_;have F:((b.drop i).take (e-i)).length=e-i:=c_;have f:xN ((b.drop i).take (e-i)):=uU (Ih H i) _;have l:xA ((b.drop i).take 7)=xA ((b.drop i).take (e-i)):=m_;have d:∀j(h:j<((b.drop i).take (e-i)).length),(bl b)[i+j]?=some [.v (.int .u8 ((((b.drop i).take (e-i))[j]:Nat):Int))]:=λj h=>m_;generalize(b.drop i).take (e-i)=c at F f l d;have a:=FV (b:=b.drop i) (λh=>by have:=congrArg List.length h;simp at this;omega);rw[l,Kg]at a;rw[a]at q;simp only[go_sem,aP,aT k,w1,w2,w3];refine jG (λs=>s=⟨0,[(0,.ls 1 (bl b)),(3,.own 0),(4,iv i),(5,.v (.int .u64 ((xA c:Nat):Int)))],[some (.arr 1 (ul A))]⟩) ?_ ?_;refine cO (λn s=>∃j:Nat,n=j/\j<=e-i/\s=⟨0,[(0,.ls 1 (bl b)),(3,.own 0),(4,iv i),(5,.v (.int .u64 ((xA (c.drop j):Nat):Int))),(6,iv (((i+j:Nat):Int)-1))],[some (.arr 1 (ul A))]⟩) (e-i) ⟨e-i,rfl,cN _,?_⟩ ?_;have h0:xA (c.drop (e-i))=0:=by rw[LB o_];rfl
 simp only[go_sem,h0,(o_:i+(e-i)=e)];rintro n s ⟨j,rfl,Q,rfl⟩
 cases n with
 |zero=>
  have m:decide ((i:Int)<=(i:Int)-1)=false:=decide_eq_false o_;simp only[go_sem,ge_iff_le,m]
 |succ j=>
  have g:j<c.length:=o_;have K:((i+(j+1):Nat):Int)-1=((i+j:Nat):Int):=o_;have m:decide ((i:Int)<=((i+j:Nat):Int))=true:=decide_eq_true o_;have I:=OJ (Ih f (j+1));have p:xA (c.drop (j+1))<281474976710656:=CV I (uR (Gl d_ (c_:(c.drop (j+1)).length<=6)) d_);have z:=f c[j] (eQ g);have t:=aDa g;have u:=d j g;have J:IntKind.i64.wrap (((i+j:Nat):Int)-1)=((i+j:Nat):Int)-1:=aJ o_ o_;generalize c[j]=x at z t u;generalize xA (c.drop (j+1))=W at p t;have y:bV .mul (.int .u64 (W:Int)) (.int .u64 256)=some (.int .u64 ((W*256:Nat):Int)):=lE W 256 o_;have N:bV .add (.int .u64 ((W*256:Nat):Int)) (.int .u64 (x:Int))=some (.int .u64 ((W*256+x:Nat):Int)):=eY _ _ o_;have w:IntKind.u64.wrap (x:Int)=(x:Int):=bS x o_;have o:W*256+x=xA (c.drop j):=o_;simp only[K];simp only[go_sem,ge_iff_le,m,u,w,↓y,↓N,J];exact⟨j,o_,j,rfl,o_,by rw[o]⟩
 rintro s rfl;have M:(A.length+1)*8<=140737488355328:=o_;have L:A.length+1<=maxLen:=g_;simp only[go_sem,aP,M,L,w1];exact⟨b.length+7-(i+7),o_,i+7,A++[xA c],o_,o_,c_,by rw[eB];exact q,by simp only[ul,bZ,fG,uP]⟩;simp only[go_sem,aP,aS k];have:eN (b.drop i)=[]:=by rw[LB o_];rfl
 simp_all
theorem GF(w:Fq):∀(l:List Fq)(s:Fq)(k:Nat),Dn s k (l++[w])=nG (Dn s k l) w (k+l.length+1)|[],s,k=>rfl|x::l,s,k=>by rw[jC,Dn,Dn,GF w l];congr 1;simp;omega
def Uh(a b:V_):List Fq:=(eN a++b.length::b++[0]).map (Fin.ofNat PP)
def FW(a b:V_):Fq:=Dn (Fin.ofNat PP a.length) 0 (Uh a b)
def aDb{l:V_}(h:∀w∈l,w<PP):ul l=fl (l.map (Fin.ofNat PP)):=by simp only[ul,fl,rI];refine aM2 λw a=>?_;simp only[Function.comp,Cq (h w a)]
def aDc (S:ByteArray) (a b:V_) (I:lJ S=bl a) (g:S.size=a.length) (s:xN a) (Q:a.length<=1000) (P:∀n∈b,n<2^64) (E:b.length<=10000000):aA PQ G E8 [.v (.string S),.ls 1 (ul b)] [] λr O=>r=.v (fu (FW a b))/\O=[]:=by
 apply aC UO;have D:=J1 s;have C:=Hc a;have F:a.length<=maxLen:=g_;have u:IntKind.u64.wrap (b.length:Int)=(b.length:Int):=bS _ o_;have t:IntKind.u64.wrap (a.length:Int)=(a.length:Int):=bS _ o_;simp only[go_sem,I,g,F];apply kM (Ug a s o_);have m:((eN a).length+1)*8<=140737488355328:=o_;have k:(eN a).length+1<=maxLen:=g_;simp only[go_sem,aP,m,k,u];have N:ul (eN a)++[[AV.v (.int .u64 (b.length:Int))]]=fl ((eN a++[b.length]).map (Fin.ofNat PP)):=by rw[<-aDb (l:=eN a++[b.length])];simp;intro w h;rcases cG.1 h with h|h;exact QQ (D w h) d_;rw[cA.1 h];show _<2305843009213693951;omega
 rw[N];have H:((eN a++[b.length]).map (Fin.ofNat PP):List Fq).length<=1001:=c_;have j:Uh a b=(eN a++[b.length]).map (Fin.ofNat PP)++(b.map (Fin.ofNat PP)++[0]):=by unfold Uh;simp
 unfold FW;rw[j];generalize(eN a++[b.length]).map (Fin.ofNat PP)=W at H;refine aQ b.length (λi=>⟨0,[(0,.v (.string S)),(1,.ls 1 (ul b)),(5,.own 0),(6,iv i)],[some (.arr 1 (fl (W++(b.take i).map (Fin.ofNat PP))))]⟩) (λ_=>True) ?_ trivial ?_ ?_;simp only[go_sem];intro i e _;have K:(ul b)[i]?=some [.v (.int .u64 ((b[i]:Nat):Int))]:=u_;have A:(Value.int .u64 ((b[i]%2305843009213693951:Nat):Int))=fu (Fin.ofNat PP b[i]):=rfl;have m:(W.length+min i b.length+1)*8<=140737488355328:=o_;have k:W.length+min i b.length+1<=maxLen:=g_;have g:fl (W++(b.take i).map (Fin.ofNat PP))++[[.v (fu (Fin.ofNat PP b[i]))]]=fl (W++(b.take (i+1)).map (Fin.ofNat PP)):=by rw[lB e];simp only[fl,bZ,fG,uP,eB]
 have c:(fl (W++(b.take i).map (Fin.ofNat PP))).length=W.length+min i b.length:=by simp[fl]
 generalize fl (W++(b.take i).map (Fin.ofNat PP))=X at g c;simp only[go_sem,aP,aT e,K,↓GE,A,c,m,k,fQ i o_,g];intro _;rw[dE];have m:(W.length+b.length+1)*8<=140737488355328:=o_;have k:W.length+b.length+1<=maxLen:=g_;have f:fl (W++b.map (Fin.ofNat PP))++[[.v (.int .u64 0)]]=fl (W++(b.map (Fin.ofNat PP)++[0])):=s_;have c:(fl (W++b.map (Fin.ofNat PP))).length=W.length+b.length:=by simp[fl]
 have J:(W++(b.map (Fin.ofNat PP)++[0])).length=W.length+b.length+1:=c_;generalize W++(b.map (Fin.ofNat PP)++[0])=L at f J;generalize fl (W++b.map (Fin.ofNat PP))=X at f c;have B:(Value.int .u64 (a.length:Int))=fu (Fin.ofNat PP a.length):=Cq da;simp only[go_sem,aP,aS (bP _),c,m,k,f,g,t,B];refine aQ L.length (λi=>⟨0,[(5,.own 0),(7,.v (fu (Dn (Fin.ofNat PP a.length) 0 (L.take i)))),(8,iv i)],[some (.arr 1 (fl L))]⟩) (λ_=>True) ?_ trivial ?_ ?_;rfl;intro i e _;have d:nG (Dn (Fin.ofNat PP a.length) 0 (L.take i)) L[i] (i+1)=Dn (Fin.ofNat PP a.length) 0 (L.take (i+1)):=by rw[lB e,GF];congr 1;simp;omega
 unfold nG at d;have p:=aI0 L i e;have o:=fQ i o_;have q:IntKind.u64.wrap ((i+1:Nat):Int)=((i+1:Nat):Int):=bS _ o_;have M:(Value.int .u64 ((i+1:Nat):Int))=fu (Fin.ofNat PP (i+1)):=Cq da;generalize Dn (Fin.ofNat PP a.length) 0 (L.take i)=x at d;generalize Dn (Fin.ofNat PP a.length) 0 (L.take (i+1))=z at d;generalize L[i]=y at d p;simp only[go_sem,aP,aT e,p,e,o,q];apply cX (Ue 37 x);simp only[go_sem,aP,p,e,o,q,M];apply cX (aH2 y (Fin.ofNat PP (i+1)));simp only[go_sem];apply cX (aH2 (37*x) (y+Fin.ofNat PP (i+1)));simp only[go_sem];apply cX (Uf _ 17 d_);simp only[go_sem,o,d];intro _;rw[dE];simp only[go_sem,aP,aS (bP _)]
end Hud
namespace Hud
set_option maxRecDepth 99999
open Go
def Sc:=eVf (cF F7 [])
def LX:=eVf (cF zY [])
def Sd:=eVf (cF AW [])
def Pv:=eVf (cF HN [])
def Wz:=eVf (cF MA [])
def OK:=eVf (cF E6 [])
def W0:=eVf (cF MB [])
def OL:=eVf (cF kY [])
def OM:=eVf (cF qS [(2,none,1)])
def Se:=eVf (cF uH [(2,none,1),(3,none,1)])
def LY:=eVf (cF iM [])
def ON:=eVf (cF E4 [])
def OO:=eVf (cF Bl [])
def Pw:=eVf (cF DU [])
end Hud
namespace Hud
open Go
def Do:Nat->Nat->V_|0,k=>[k]|n+1,k=>if 127<k then(k%128+128)::Do n (k/128) else [k]
def gJ(k:Nat):V_:=Do 9 k
def W3(n:Int):Nat:=if n<0 then(2*(-(n+1))+1).toNat else(2*n).toNat
def OP{n:Int}(h1:-9223372036854775808<=n)(h2:n<=2^63-1):W3 n<2^64:=by grind[W3]
def bN(n:Int):V_:=gJ (W3 n)
def Y7:∀(n k:Nat),k<2*128^n->xN (Do n k)|0,k,h=>λx a=>by simp[Do]at a;subst a;simp at h;omega| n+1,k,h=>by simp only[Do];split;intro x a;rcases cS.1 a with rfl|a;omega;exact Y7 n (k/128) (by rw[QM]at h;omega) x a;intro x a;simp_all;omega
def Ui:∀(n k:Nat),(Do n k).length<=n+1|0,k=>by simp[Do]|n+1,k=>by simp only[Do];split;have:=Ui n (k/128);simp;omega;simp
def GG{k:Nat}(h:k<2^64):xN (gJ k):=Y7 9 k o_
def iP(k:Nat):(gJ k).length<=10:=Ui 9 k
def GI(x:Nat)(h:x<256):IntKind.u8.wrap (x:Int)=(x:Int):=dh
section
variable{G:L_}
def Qx (k:Nat) (o:k<2^64):aA PQ G uH [.v (.int .u64 (k:Int))] [] λr n=>r=.own 0/\n=[some (.arr 1 (bl (gJ k)))]:=by
 apply aC Se;simp only[go_sem];refine jG (λs=>∃(A:V_)(j:Nat),A++[j]=gJ k/\j<=127/\s=⟨0,[(0,.v (.int .u64 (j:Int))),(3,.own 0)],[some (.arr 1 (bl A))]⟩) ?_ ?_;refine cO (λm s=>∃(A:V_)(j:Nat),A++Do m j=gJ k/\j<2*128^m/\A.length+m<=9/\s=⟨0,[(0,.v (.int .u64 (j:Int))),(3,.own 0)],[some (.arr 1 (bl A))]⟩) 9 ⟨[],k,rfl,o_,d_,?_⟩ ?_;simp only[go_sem];rintro m s ⟨A,j,a,e,c,rfl⟩;by_cases b:127<j
 cases m with
 |zero=>simp at e;omega|succ m=>
  have d:j<2^64:=CV e (uR (YF 2 (Gl d_ (o_:m+1<=9))) d_);have t1:decide ((j:Int)>127)=true:=decide_eq_true o_;have h:bV .rem (.int .u64 (j:Int)) (.int .u64 128)=some (.int .u64 ((j%128:Nat):Int)):=mD j 128 d_;have i:bV .quo (.int .u64 (j:Int)) (.int .u64 128)=some (.int .u64 ((j/128:Nat):Int)):=Cp j 128 d_ d;have w1:IntKind.u8.wrap ((j%128:Nat):Int)=((j%128:Nat):Int):=GI _ o_;have w2:IntKind.u8.wrap (((j%128:Nat):Int)+128)=((j%128+128:Nat):Int):=GI (j%128+128) o_;have l:A.length+1<=140737488355328:=o_;have g:A.length+1<=maxLen:=g_;have f:(A.length+1)*1<=140737488355328:=o_;simp only[go_sem,aP,t1,↓h,↓i,w1,w2,g,f];refine⟨m,o_,A++[j%128+128],j/128,?_,?_,?_,?_⟩;simp_all[a,Do,eB];omega;simp;omega;simp
 have t1:decide ((j:Int)>127)=false:=decide_eq_false o_;simp only[go_sem,t1];refine⟨A,j,?_,o_,rfl⟩;rw[<-a]
 cases m with
 |zero=>rfl|succ m=>rw[Do,if_neg b]
 rintro s ⟨A,j,a,e,rfl⟩;have c:=iP k;rw[<-a]at c;simp at c;have w1:IntKind.u8.wrap (j:Int)=(j:Int):=GI _ o_;have g:A.length+1<=maxLen:=g_;have f:(A.length+1)*1<=140737488355328:=o_;have l:A.length+1<=140737488355328:=o_;rw[<-a];simp only[go_sem,aP,w1,g,f,bZ,fG,uP]
def vI(n:Int)(h1:-9223372036854775808<=n)(h2:n<=2^63-1):aA PQ G iM [iv n] [] λr e=>r=.own 0/\e=[some (.arr 1 (bl (bN n)))]:=by
 apply aC LY;have f:=OP h1 h2;unfold bN;simp only[go_sem];by_cases c:n<0;obtain⟨m,rfl,g⟩:∃m:Nat,n=-((m:Int)+1)/\m<=(2^63-1):=⟨(-(n+1)).toNat,o_,o_⟩
 have t1:decide (-((m:Int)+1)<0)=true:=decide_eq_true c;have w1:IntKind.i64.wrap (-((m:Int)+1)+1)=-(m:Int):=k_;have w2:IntKind.i64.wrap (0 - -(m:Int))=(m:Int):=k_;have w3:IntKind.u64.wrap (m:Int)=(m:Int):=bS m o_;have b:bV .mul (.int .u64 (m:Int)) (.int .u64 2)=some (.int .u64 ((m*2:Nat):Int)):=lE m 2 o_;have d:bV .add (.int .u64 ((m*2:Nat):Int)) (.int .u64 1)=some (.int .u64 ((m*2+1:Nat):Int)):=eY (m*2) 1 o_;have a:W3 (-((m:Int)+1))=m*2+1:=by grind[W3]
 rw[a];simp only[go_sem,t1,w1,w2,w3,↓b,↓d];apply kM (Qx (m*2+1) o_);simp only[go_sem];obtain⟨m,rfl⟩:∃m:Nat,n=(m:Int):=⟨n.toNat,o_⟩
 have t1:decide ((m:Int)<0)=false:=decide_eq_false c;have w3:IntKind.u64.wrap (m:Int)=(m:Int):=bS m o_;have b:bV .mul (.int .u64 (m:Int)) (.int .u64 2)=some (.int .u64 ((m*2:Nat):Int)):=lE m 2 o_;have a:W3 (m:Int)=m*2:=by grind[W3]
 rw[a];simp only[go_sem,t1,w3,↓b];apply kM (Qx (m*2) o_);simp only[go_sem]
def bX(n:Int):(bN n).length<=10:=iP _
def Dp{n:Int}(h1:-9223372036854775808<=n)(h2:n<=2^63-1):xN (bN n):=GG (OP h1 h2)
def idB(a b:Int)(c:Nat):V_:=bN a++bN b++gJ c
def aFw(a b:Int)(c:Nat)(g:-9223372036854775808<=a)(f:a<=2^63-1)(e:-9223372036854775808<=b)(d:b<=2^63-1)(h:c<2^64):
 aA PQ G qS [.ag [iv a,iv b,.v (.int .u64 (c:Int))]] [] λr m=>r=.own 0/\m=[some (.arr 1 (bl (idB a b c)))]:=by
 apply aC OM;have p:=bX a;have o:=bX b;have n:=iP c;have t:(bl (bN a)).length=(bN a).length:=s_;have s:(bl (bN b)).length=(bN b).length:=s_;have q:(bl (gJ c)).length=(gJ c).length:=s_;simp only[go_sem];apply kM (vI a g f);simp only[go_sem];apply kM (vI b e d);have w:(bN a).length+(bN b).length<=140737488355328:=o_;have l:(bN a).length+(bN b).length<=maxLen:=g_;have k:((bN a).length+(bN b).length)*1<=140737488355328:=o_;simp only[go_sem,aP,l,k];apply kM (Qx c h);have u:(bN a).length+(bN b).length+(gJ c).length<=140737488355328:=o_;have j:(bN a).length+(bN b).length+(gJ c).length<=maxLen:=g_;have i:((bN a).length+(bN b).length+(gJ c).length)*1<=140737488355328:=o_;simp only[go_sem,aP,dZ,j,i,idB,bl,bZ]
def Uj(a b:V_):Fq:=FW a (eN b++[b.length])
def Uk(S:ByteArray)(a b:V_)(j:lJ S=bl a)(f:S.size=a.length)(i:xN a)(g:a.length<=1000)(c:xN b)(h:b.length<=1000000):aA PQ G Bl [.v (.string S),.ls 1 (bl b)] [] λr o=>r=.v (fu (Uj a b))/\o=[]:=by
 apply aC OO;have e:=Hc b;have p:=J1 c;have d:IntKind.u64.wrap (b.length:Int)=(b.length:Int):=bS _ o_;have m:(eN b).length+1<=maxLen:=g_;have l:((eN b).length+1)*8<=140737488355328:=o_;simp only[go_sem];apply kM (Ug b c o_);have k:ul (eN b)++[[AV.v (.int .u64 (b.length:Int))]]=ul (eN b++[b.length]):=s_;simp only[go_sem,aP,d,m,l];rw[k];refine iJ (aB _) rfl rfl (aDc S a (eN b++[b.length]) j f i g (λn q=>?_) c_) ?_;grind;simp only[go_sem];rfl
def Px(a b:V_):Nat:=1+(FW a b).val%2305843009213693949
def Sf(a b:V_):1<=Px a b/\Px a b<=2305843009213693949:=by unfold Px;omega
def Qy(S:ByteArray)(a b:V_)(j:lJ S=bl a)(f:S.size=a.length)(i:xN a)(h:a.length<=1000)(g:∀n∈b,n<2^64)(c:b.length<=10000000):aA PQ G zY [.v (.string S),.ls 1 (ul b)] [] λr l=>r=.v (.int .u64 ((Px a b:Nat):Int))/\l=[]:=by refine aC LX ?_;have d:=Sf a b;have e:bV .rem (fu (FW a b)) (.int .u64 2305843009213693949)=some (.int .u64 (((FW a b).val%2305843009213693949:Nat):Int)):=mD _ 2305843009213693949 d_;have k:bV .add (.int .u64 1) (.int .u64 (((FW a b).val%2305843009213693949:Nat):Int))=some (.int .u64 ((Px a b:Nat):Int)):=eY 1 _ (by unfold Px at d;omega);simp only[go_sem];apply cX (aDc S a b j f i h g c);simp only[go_sem,↓e,↓k]
end
end Hud
namespace Hud
set_option maxRecDepth 99999
open Go
def LZ:=eVf (cF zZ [])
def Gd:=eVf (cF rQ [(2,none,1)])
def Bx:=eVf (cF cD [])
def Bz:=eVf (cF fD [])
def Ge:=eVf (cF fL [])
def La:=eVf (cF DX [])
def OQ:=eVf (cF FA [])
def I2:=eVf (cF Ap [])
def OR:=eVf (cF E9 [])
def Hd:=eVf (cF tO [])
end Hud
