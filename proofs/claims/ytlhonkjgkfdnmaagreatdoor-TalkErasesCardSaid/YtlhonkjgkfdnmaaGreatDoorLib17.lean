import Derived.Test.YtlhonkjgkfdnmaaGreatDoorLib14
import Derived.Test.YtlhonkjgkfdnmaaGreatDoorLib15
import Derived.Test.YtlhonkjgkfdnmaaGreatDoorLib16
set_option linter.all false
set_option maxHeartbeats 40000000
namespace Hud
open Go
variable{G:L_}
def mD(x m:Nat)(h:m≠0):bV .rem (.int .u64 (x:Int)) (.int .u64 (m:Int))=some (.int .u64 ((x%m:Nat):Int)):=by grind[bV]
def Cp(x m:Nat)(h:m≠0)(a:x<2^64):bV .quo (.int .u64 (x:Int)) (.int .u64 (m:Int))=some (.int .u64 ((x/m:Nat):Int)):=by
 have:(m:Int)≠0:=o_;have h2:x/m<2^64:=QJ (Ml _ _) a;simp only[bV,if_true,if_neg this];rw[Int.tdiv_eq_ediv_of_nonneg o_,<-Int.natCast_ediv,bS _ h2]
def GE(x:Nat):bV .rem (.int .u64 (x:Int)) (.int .u64 2305843009213693951)=some (.int .u64 ((x%2305843009213693951:Nat):Int)):=mD x 2305843009213693951 d_
def Wt(x:Nat):bV .rem (.int .u64 (x:Int)) (.int .u64 4294967296)=some (.int .u64 ((x%2^32:Nat):Int)):=mD x 4294967296 d_
def Wu(x:Nat):bV .rem (.int .u64 (x:Int)) (.int .u64 536870912)=some (.int .u64 ((x%536870912:Nat):Int)):=mD x 536870912 d_
def aAG(x:Nat):bV .rem (.int .u64 (x:Int)) (.int .u64 2)=some (.int .u64 ((x%2:Nat):Int)):=mD x 2 d_
def OI(x:Nat)(a:x<2^64):bV .quo (.int .u64 (x:Int)) (.int .u64 4294967296)=some (.int .u64 ((x/2^32:Nat):Int)):=Cp x 4294967296 d_ a
def Wv(x:Nat)(a:x<2^64):bV .quo (.int .u64 (x:Int)) (.int .u64 536870912)=some (.int .u64 ((x/536870912:Nat):Int)):=Cp x 536870912 d_ a
def aAH(x:Nat)(a:x<2^64):bV .quo (.int .u64 (x:Int)) (.int .u64 2)=some (.int .u64 ((x/2:Nat):Int)):=Cp x 2 d_ a
def Ww(x:Nat)(h:x*2^32<2^64):bV .mul (.int .u64 (x:Int)) (.int .u64 4294967296)=some (.int .u64 ((x*2^32:Nat):Int)):=lE x 4294967296 h
def aAI(x:Nat)(h:8*x<2^64):bV .mul (.int .u64 8) (.int .u64 (x:Int))=some (.int .u64 ((8*x:Nat):Int)):=lE 8 x h
def aH2(a b:Fq):aA PQ G GB [.v (fu a),.v (fu b)] [] λr h=>r=.v (fu (a+b))/\h=[]:=by refine aC SN ?_;have f:=FU a;have e:=FU b;have d:a.val%2305843009213693951=a.val:=EZ f;have c:b.val%2305843009213693951=b.val:=EZ e;have g:=eY a.val b.val o_;simp only[↓GE,d,c,↓g,go_sem];rfl
def aD9(x y:Nat)(l h m:Nat)(b:l=x%2^32*(y%2^32))(a:m=x/2^32*(y%2^32)+x%2^32*(y/2^32))(c:h=x/2^32*(y/2^32)):
 (l%2305843009213693951+m%536870912*2^32+m/536870912+8*h)%2305843009213693951=x*y%2305843009213693951:=by
 rw[Qm x y,<-b,<-a,<-c];omega
def Ue(a b:Fq):aA PQ G AX [.v (fu a),.v (fu b)] [] λr I=>r=.v (fu (a*b))/\I=[]:=by
 apply aC SL;have f:=FU a;have H:=FU b;have e:(a*b).val=a.val*b.val%2305843009213693951:=rfl;unfold fu;rw[e];generalize a.val=x at *
 generalize b.val=y at *
 have B:x%2305843009213693951=x:=EZ f;have z:y%2305843009213693951=y:=EZ H;have d:∀a c A C:Nat,a<=A->c<=C->a*c<=A*C:=λa c A C f F=>aJh f F;have M:=d (x%2^32) (y%2^32) 4294967295 4294967295 o_ o_;have L:=d (x/2^32) (y%2^32) 536870911 4294967295 o_ o_;have K:=d (x%2^32) (y/2^32) 4294967295 536870911 o_ o_;have J:=d (x/2^32) (y/2^32) 536870911 536870911 o_ o_;have p:=OI x o_;have q2:=OI y o_;have w:=lE (x%2^32) (y%2^32) o_;have u:=lE (x/2^32) (y%2^32) o_;have t:=lE (x%2^32) (y/2^32) o_;have s:=lE (x/2^32) (y/2^32) o_;have q:=eY (x/2^32*(y%2^32)) (x%2^32*(y/2^32)) o_;have D:x/2^32*(y%2^32)+x%2^32*(y/2^32)<=4611686008763711490:=o_;have E:=aD9 x y _ _ _ rfl rfl rfl;generalize x%2^32*(y%2^32)=l at *
 generalize x/2^32*(y%2^32)+x%2^32*(y/2^32)=m at *
 generalize x/2^32*(y/2^32)=h at *
 have o:=Ww (m%536870912) o_;have n:=eY (l%2305843009213693951) (m%536870912*2^32) o_;have k:=Wv m o_;have j:=eY (l%2305843009213693951+m%536870912*2^32) (m/536870912) o_;have i:=aAI h o_;have g:=eY (l%2305843009213693951+m%536870912*2^32+m/536870912) (8*h) o_;simp only[↓GE,B,z,↓Wt,↓p,↓q2,↓w,↓u,↓t,↓s,↓q,↓Wu,↓o,↓n,↓k,↓j,↓i,↓g,go_sem,E]
def Uf (a:Fq) (n:Nat) (i:n<2^64):aA PQ G wD [.v (fu a),.v (.int .u64 (n:Int))] [] λr l=>r=.v (fu (a^n))/\l=[]:=by
 apply aC SO;have h:a.val%2305843009213693951=a.val:=EZ (FU a);simp only[↓GE,h,go_sem];refine cO (λm s=>∃out b:Fq,out*b^m=a^n/\m<2^64/\s=⟨0,[(5,.v (fu out)),(6,.v (fu b)),(7,.v (.int .u64 (m:Int)))],[]⟩) n ⟨1,a,aJZ _,i,?_⟩ ?_;rfl;rintro m s ⟨out,b,e,j,rfl⟩;rcases JX m with rfl|c;have f:decide (((0:Nat):Int)>0)=false:=d_;have:out=a^n:=m_;subst this;simp only[go_sem];have f:decide ((m:Int)>0)=true:=ox;have k:=aAG m;have g:=aAH m j;simp only[go_sem,f,↓k];refine aL (λd=>?_) (λd=>?_);have h3:m%2=1:=by simp at d;omega
 simp only[go_sem];apply cX (Ue out b);simp only[go_sem];apply cX (Ue b b);simp only[go_sem,↓g];refine⟨m/2,o_,out*b,b*b,?_,o_,rfl⟩;rw[<-e,MD b m,h3,aH0,aK0,aH1 b];have h3:m%2=0:=by simp at d;omega
 simp only[go_sem];apply cX (Ue b b);simp only[go_sem,↓g];refine⟨m/2,o_,out,b*b,?_,o_,rfl⟩;rw[<-e,MD b m,h3,OH,aHZ]
@[go_sem] def aRO:IntKind.i64.wrap 0=0:=d_
@[go_sem] def aMl:IntKind.u64.wrap 0=0:=d_
@[go_sem] def aMm:IntKind.i64.wrap 1=1:=d_
@[go_sem] def aRP:IntKind.u64.wrap 1=1:=d_
@[go_sem] def aMo:IntKind.i64.wrap 2=2:=d_
@[go_sem] def aRQ:IntKind.u64.wrap 2=2:=d_
@[go_sem] def aMq:IntKind.i64.wrap 3=3:=d_
@[go_sem] def aRR:IntKind.u64.wrap 3=3:=d_
@[go_sem] def aMs:IntKind.i64.wrap 4=4:=d_
@[go_sem] def aRS:IntKind.u64.wrap 4=4:=d_
@[go_sem] def aRT:IntKind.i64.wrap 5=5:=d_
@[go_sem] def aRU:IntKind.u64.wrap 5=5:=d_
@[go_sem] def aRV:IntKind.i64.wrap 6=6:=d_
@[go_sem] def aRW:IntKind.u64.wrap 6=6:=d_
@[go_sem] def aMy:IntKind.i64.wrap 7=7:=d_
@[go_sem] def aRX:IntKind.u64.wrap 7=7:=d_
@[go_sem] def aRY:IntKind.i64.wrap 8=8:=d_
@[go_sem] def aRZ:IntKind.u64.wrap 8=8:=d_
@[go_sem] def aQK:IntKind.i64.wrap 16=16:=d_
@[go_sem] def aQL:IntKind.u64.wrap 16=16:=d_
@[go_sem] def aQM:IntKind.i64.wrap 24=24:=d_
@[go_sem] def aQN:IntKind.u64.wrap 24=24:=d_
@[go_sem] def aQO:IntKind.i64.wrap 32=32:=d_
@[go_sem] def aQP:IntKind.u64.wrap 32=32:=d_
@[go_sem] def aQQ:IntKind.i64.wrap 64=64:=d_
@[go_sem] def aQR:IntKind.u64.wrap 64=64:=d_
def nG(s w:Fq)(k:Nat):Fq:=(37*s+(w+Fin.ofNat PP k))^17
def Qv(n:Nat)(h:n<PP):((Fin.ofNat PP n:Fq)).val=n:=EZ h
def aFv(w:Fq)(k:Nat)(h:k<PP):(w.val+k)%FP=(w+Fin.ofNat PP k).val:=by rw[Fin.val_add,Qv k h];rfl
def eW:Fq:=⟨1835363429,d_⟩
def Y5(es:N_):aA PQ G AB [.ls 1 es] [] λr a=>r=.cl nS [.ptr 0 0]/\a=[some (.box [.ls 1 es])]:=by refine aC LW ?_;simp only[go_sem]
def Y6(es:N_):aA PQ G lX [.ls 1 es,iv 7] [] λr a=>r=.cl kS [.ptr 0 0,.ptr 1 0]/\a=[some (.box [.ls 1 es]),some (.box [iv 7])]:=by refine aC yU ?_;simp only[go_sem]
def Dn:Fq->Nat->List Fq->Fq|s,_,[]=>s|s,k,w::l=>Dn (nG s w (k+1)) (k+1) l
def hI(a b c:Nat):Nat->Fq|0=>nG (nG 4 eW 1) (Fin.ofNat PP 3) 2|1=>nG (nG (nG 4 eW 1) (Fin.ofNat PP 3) 2) (Fin.ofNat PP a) 3|2=>nG (nG (nG (nG 4 eW 1) (Fin.ofNat PP 3) 2) (Fin.ofNat PP a) 3) (Fin.ofNat PP b) 4|_=>nG (nG (nG (nG (nG 4 eW 1) (Fin.ofNat PP 3) 2) (Fin.ofNat PP a) 3) (Fin.ofNat PP b) 4) (Fin.ofNat PP c) 5
abbrev fl(l:List Fq):List (List AV):=l.map λc=>[.v (fu c)]
def aI0(l:List Fq)(i:Nat)(h:i<l.length):(fl l)[i]?=some [.v (fu l[i])]:=by simp[fl,h]
def xA:V_->Nat|[]=>0|x::r=>x+256*xA r
def wH:Nat->V_->V_|0,_=>[]|_+1,[]=>[]|n+1,x::b=>xA ((x::b).take 7)::wH n ((x::b).drop 7)
def eN(b:V_):V_:=wH b.length b
def OJ:∀{b:V_},xN b->xA b<256^b.length|[],_=>by simp[xA]|x::r,h=>by have h1:=OJ (b:=r) λy a=>h y (GU _ a);have h2:=h x EV;grind[xA,List.length_cons,Nat.pow_succ]
def Qw{b:V_}(h:xN b)(a:b.length<=7):xA b<72057594037927936 :=
 CV (OJ h) (uR (Gl d_ a) d_)
def Ky:∀(n m:Nat)(b:V_),b.length<=n->b.length<=m->wH n b=wH m b
 |0,m,b,h,_=>by
  have:b=[]:=Ae o_;subst this;cases m<;>rfl
 |n+1,m,[],_,_=>by cases m<;>rfl
 |n+1,0,x::b,_,h=>by simp at h|n+1,m+1,x::b,h1,h2=>by simp only[wH];rw[Ky n m ((x::b).drop 7) (by simp at h1⊢;omega) (by simp at h2⊢;omega)]
def Wx:eN []=[]:=rfl
def FV{b:V_}(h:b≠[]):eN b=xA (b.take 7)::eN (b.drop 7):=by
 cases b with
 |nil=>exact absurd rfl h|cons x b=>
  unfold eN;simp only[sE,wH];rw[Ky _ ((x::b).drop 7).length _ s_ (cN _)]
def Wy{b:V_}(h:b≠[])(a:b.length<=7):eN b=[xA b]:=by rw[FV h,sG a,LB a,Wx]
def Hc(b:V_):(eN b).length<=b.length:=by
 have:∀(n:Nat)(b:V_),(wH n b).length<=n:=by
  intro n
  induction n with
  |zero=>intro b;simp[wH]|succ n ih=>intro b;cases b<;>simp[wH,ih]
 exact this _ _
def J1 {b:V_} (h:xN b):∀w∈eN b,w<72057594037927936:=by
 have:∀(n:Nat)(b:V_),xN b->∀w∈wH n b,w<72057594037927936:=by
  intro n
  induction n with
  |zero=>intro b _ w a;simp[wH]at a| succ n ih=>
   intro b c w a
   cases b with
   |nil=>simp[wH]at a|cons x b=>
    simp only[wH,cS]at a;rcases a with rfl|a;exact Qw (uU c 7) s6;exact ih _ (Ih c 7) w a
 exact this _ _ h
def aDa{c:V_}{j:Nat}(h:j<c.length):xA (c.drop j)=c[j]+256*xA (c.drop (j+1)):=by rw[Kc h];rfl
def Cq{w:Nat}(h:w<PP):(Value.int .u64 (w:Int))=fu (Fin.ofNat PP w):=by rw[fu,Qv w h]
def Ug (b:V_) (H:xN b) (P:b.length<=100000000):aA PQ G Bo [.ls 1 (bl b)] [] λr O=>r=.own 0/\O=[some (.arr 1 (ul (eN b)))]:=by
 apply aC N6;simp only[go_sem];refine cO (λn s=>∃(i:Nat)(A:V_),n=b.length+7-i/\i<=b.length+6/\A.length<=i/\A++eN (b.drop i)=eN b/\s=⟨0,[(0,.ls 1 (bl b)),(3,.own 0),(4,iv i)],[some (.arr 1 (ul A))]⟩) (b.length+7) ⟨0,[],o_,o_,cN _,s_,?_⟩ ?_;simp only[go_sem];rintro n s ⟨i,A,rfl,R,S,q,rfl⟩;by_cases k:i<b.length;obtain⟨e,E,D,C,B⟩:∃e:Nat,i<e/\e<=b.length/\e<=i+7/\e=min b.length (i+7):=⟨min b.length (i+7),o_,o_,o_,rfl⟩
 have w1:IntKind.i64.wrap ((i:Int)+7)=((i+7:Nat):Int):=a_;have w2:(if((i+7:Nat):Int)<(b.length:Int) then((i+7:Nat):Int) else(b.length:Int))=(e:Int):=ax;have w3:IntKind.i64.wrap ((e:Int)-1)=(e:Int)-1:=aJ o_ o_;have F:((b.drop i).take (e-i)).length=e-i:=c_;have f:xN ((b.drop i).take (e-i)):=uU (Ih H i) _;have l:xA ((b.drop i).take 7)=xA ((b.drop i).take (e-i)):=m_;have d:∀j(h:j<((b.drop i).take (e-i)).length),(bl b)[i+j]?=some [.v (.int .u8 ((((b.drop i).take (e-i))[j]:Nat):Int))]:=λj h=>m_;generalize(b.drop i).take (e-i)=c at F f l d;have a:=FV (b:=b.drop i) (λh=>by have:=congrArg List.length h;simp at this;omega);rw[l,Kg]at a;rw[a]at q;simp only[go_sem,aP,aT k,w1,w2,w3];refine jG (λs=>s=⟨0,[(0,.ls 1 (bl b)),(3,.own 0),(4,iv i),(5,.v (.int .u64 ((xA c:Nat):Int)))],[some (.arr 1 (ul A))]⟩) ?_ ?_;refine cO (λn s=>∃j:Nat,n=j/\j<=e-i/\s=⟨0,[(0,.ls 1 (bl b)),(3,.own 0),(4,iv i),(5,.v (.int .u64 ((xA (c.drop j):Nat):Int))),(6,iv (((i+j:Nat):Int)-1))],[some (.arr 1 (ul A))]⟩) (e-i) ⟨e-i,rfl,cN _,?_⟩ ?_;have h0:xA (c.drop (e-i))=0:=by rw[LB o_];rfl
 simp only[go_sem,h0,(o_:i+(e-i)=e)];rintro n s ⟨j,rfl,Q,rfl⟩
 cases n with
 |zero=>
  have m:decide ((i:Int)<=(i:Int)-1)=false:=decide_eq_false o_;simp only[go_sem,ge_iff_le,m]
 |succ j=>
  have g:j<c.length:=o_;have K:((i+(j+1):Nat):Int)-1=((i+j:Nat):Int):=o_;have m:decide ((i:Int)<=((i+j:Nat):Int))=true:=decide_eq_true o_;have I:=OJ (Ih f (j+1));have p:xA (c.drop (j+1))<281474976710656:=CV I (uR (Gl d_ (c_:(c.drop (j+1)).length<=6)) d_);have z:=f c[j] (eQ g);have t:=aDa g;have u:=d j g;have J:IntKind.i64.wrap (((i+j:Nat):Int)-1)=((i+j:Nat):Int)-1:=aJ o_ o_;generalize c[j]=x at z t u;generalize xA (c.drop (j+1))=W at p t;have y:bV .mul (.int .u64 (W:Int)) (.int .u64 256)=some (.int .u64 ((W*256:Nat):Int)):=lE W 256 o_;have N:bV .add (.int .u64 ((W*256:Nat):Int)) (.int .u64 (x:Int))=some (.int .u64 ((W*256+x:Nat):Int)):=eY _ _ o_;have w:IntKind.u64.wrap (x:Int)=(x:Int):=bS x o_;have o:W*256+x=xA (c.drop j):=o_;simp only[K];simp only[go_sem,ge_iff_le,m,u,w,↓y,↓N,J];exact⟨j,o_,j,rfl,o_,by rw[o]⟩
 rintro s rfl;have M:(A.length+1)*8<=140737488355328:=o_;have L:A.length+1<=maxLen:=g_;simp only[go_sem,aP,M,L,w1];exact⟨b.length+7-(i+7),o_,i+7,A++[xA c],o_,o_,c_,by rw[eB];exact q,by simp only[ul,bZ,fG,uP]⟩;simp only[go_sem,aP,aS k];have:eN (b.drop i)=[]:=by rw[LB o_];rfl
 simp_all
theorem GF(w:Fq):∀(l:List Fq)(s:Fq)(k:Nat),Dn s k (l++[w])=nG (Dn s k l) w (k+l.length+1)|[],s,k=>rfl|x::l,s,k=>by rw[jC,Dn,Dn,GF w l];congr 1;simp;omega
def Uh(a b:V_):List Fq:=(eN a++b.length::b++[0]).map (Fin.ofNat PP)
def FW(a b:V_):Fq:=Dn (Fin.ofNat PP a.length) 0 (Uh a b)
def aDb{l:V_}(h:∀w∈l,w<PP):ul l=fl (l.map (Fin.ofNat PP)):=by simp only[ul,fl,rI];refine LD λw a=>?_;simp only[Function.comp,Cq (h w a)]
def aDc (S:ByteArray) (a b:V_) (I:lJ S=bl a) (g:S.size=a.length) (s:xN a) (Q:a.length<=1000) (P:∀n∈b,n<2^64) (E:b.length<=10000000):aA PQ G E8 [.v (.string S),.ls 1 (ul b)] [] λr O=>r=.v (fu (FW a b))/\O=[]:=by
 apply aC UO;have D:=J1 s;have C:=Hc a;have F:a.length<=maxLen:=g_;have u:IntKind.u64.wrap (b.length:Int)=(b.length:Int):=bS _ o_;have t:IntKind.u64.wrap (a.length:Int)=(a.length:Int):=bS _ o_;simp only[go_sem,I,g,F];apply kM (Ug a s o_);have m:((eN a).length+1)*8<=140737488355328:=o_;have k:(eN a).length+1<=maxLen:=g_;simp only[go_sem,aP,m,k,u];have N:ul (eN a)++[[AV.v (.int .u64 (b.length:Int))]]=fl ((eN a++[b.length]).map (Fin.ofNat PP)):=by rw[<-aDb (l:=eN a++[b.length])];simp;intro w h;rcases cG.1 h with h|h;exact QQ (D w h) d_;rw[cA.1 h];show _<2305843009213693951;omega
 rw[N];have H:((eN a++[b.length]).map (Fin.ofNat PP):List Fq).length<=1001:=c_;have j:Uh a b=(eN a++[b.length]).map (Fin.ofNat PP)++(b.map (Fin.ofNat PP)++[0]):=by unfold Uh;simp
 unfold FW;rw[j];generalize(eN a++[b.length]).map (Fin.ofNat PP)=W at H;refine aQ b.length (λi=>⟨0,[(0,.v (.string S)),(1,.ls 1 (ul b)),(5,.own 0),(6,iv i)],[some (.arr 1 (fl (W++(b.take i).map (Fin.ofNat PP))))]⟩) (λ_=>True) ?_ trivial ?_ ?_;simp only[go_sem];intro i e _;have K:(ul b)[i]?=some [.v (.int .u64 ((b[i]:Nat):Int))]:=h_;have A:(Value.int .u64 ((b[i]%2305843009213693951:Nat):Int))=fu (Fin.ofNat PP b[i]):=rfl;have m:(W.length+min i b.length+1)*8<=140737488355328:=o_;have k:W.length+min i b.length+1<=maxLen:=g_;have g:fl (W++(b.take i).map (Fin.ofNat PP))++[[.v (fu (Fin.ofNat PP b[i]))]]=fl (W++(b.take (i+1)).map (Fin.ofNat PP)):=by rw[lB e];simp only[fl,bZ,fG,uP,eB]
 have c:(fl (W++(b.take i).map (Fin.ofNat PP))).length=W.length+min i b.length:=by simp[fl]
 generalize fl (W++(b.take i).map (Fin.ofNat PP))=X at g c;simp only[go_sem,aP,aT e,K,↓GE,A,c,m,k,fQ i o_,g];intro _;rw[dE];have m:(W.length+b.length+1)*8<=140737488355328:=o_;have k:W.length+b.length+1<=maxLen:=g_;have f:fl (W++b.map (Fin.ofNat PP))++[[.v (.int .u64 0)]]=fl (W++(b.map (Fin.ofNat PP)++[0])):=s_;have c:(fl (W++b.map (Fin.ofNat PP))).length=W.length+b.length:=by simp[fl]
 have J:(W++(b.map (Fin.ofNat PP)++[0])).length=W.length+b.length+1:=c_;generalize W++(b.map (Fin.ofNat PP)++[0])=L at f J;generalize fl (W++b.map (Fin.ofNat PP))=X at f c;have B:(Value.int .u64 (a.length:Int))=fu (Fin.ofNat PP a.length):=Cq oy;simp only[go_sem,aP,aS (bP _),c,m,k,f,g,t,B];refine aQ L.length (λi=>⟨0,[(5,.own 0),(7,.v (fu (Dn (Fin.ofNat PP a.length) 0 (L.take i)))),(8,iv i)],[some (.arr 1 (fl L))]⟩) (λ_=>True) ?_ trivial ?_ ?_;rfl;intro i e _;have d:nG (Dn (Fin.ofNat PP a.length) 0 (L.take i)) L[i] (i+1)=Dn (Fin.ofNat PP a.length) 0 (L.take (i+1)):=by rw[lB e,GF];congr 1;simp;omega
 unfold nG at d;have p:=aI0 L i e;have o:=fQ i o_;have q:IntKind.u64.wrap ((i+1:Nat):Int)=((i+1:Nat):Int):=bS _ o_;have M:(Value.int .u64 ((i+1:Nat):Int))=fu (Fin.ofNat PP (i+1)):=Cq oy;generalize Dn (Fin.ofNat PP a.length) 0 (L.take i)=x at d;generalize Dn (Fin.ofNat PP a.length) 0 (L.take (i+1))=z at d;generalize L[i]=y at d p;simp only[go_sem,aP,aT e,p,e,o,q];apply cX (Ue 37 x);simp only[go_sem,aP,p,e,o,q,M];apply cX (aH2 y (Fin.ofNat PP (i+1)));simp only[go_sem];apply cX (aH2 (37*x) (y+Fin.ofNat PP (i+1)));simp only[go_sem];apply cX (Uf _ 17 d_);simp only[go_sem,o,d];intro _;rw[dE];simp only[go_sem,aP,aS (bP _)]
end Hud
namespace Hud
set_option maxRecDepth 99999
open Go
def Sc:=eVf (cF F7 [])
def LX:=eVf (cF zY [])
def Sd:=eVf (cF AW [])
def Pv:=eVf (cF HN [])
def Wz:=eVf (cF MA [])
def OK:=eVf (cF E6 [])
def W0:=eVf (cF MB [])
def OL:=eVf (cF kY [])
def OM:=eVf (cF qS [(2,none,1)])
def Se:=eVf (cF uH [(2,none,1),(3,none,1)])
def LY:=eVf (cF iM [])
def ON:=eVf (cF E4 [])
def OO:=eVf (cF Bl [])
def Pw:=eVf (cF DU [])
end Hud
namespace Hud
open Go
variable{G:L_}
def Do:Nat->Nat->V_|0,k=>[k]|n+1,k=>if 127<k then(k%128+128)::Do n (k/128) else [k]
def gJ(k:Nat):V_:=Do 9 k
def W3(n:Int):Nat:=if n<0 then(2*(-(n+1))+1).toNat else(2*n).toNat
def OP{n:Int}(h1:-9223372036854775808<=n)(h2:n<=2^63-1):W3 n<2^64:=by grind[W3]
def bN(n:Int):V_:=gJ (W3 n)
def Y7:∀(n k:Nat),k<2*128^n->xN (Do n k)|0,k,h=>λx a=>by simp[Do]at a;subst a;simp at h;omega| n+1,k,h=>by simp only[Do];split;intro x a;rcases cS.1 a with rfl|a;omega;exact Y7 n (k/128) (by rw[QM]at h;omega) x a;intro x a;simp_all;omega
def Ui:∀(n k:Nat),(Do n k).length<=n+1|0,k=>by simp[Do]|n+1,k=>by simp only[Do];split;have:=Ui n (k/128);simp;omega;simp
def GG{k:Nat}(h:k<2^64):xN (gJ k):=Y7 9 k o_
def iP(k:Nat):(gJ k).length<=10:=Ui 9 k
def GI(x:Nat)(h:x<256):IntKind.u8.wrap (x:Int)=(x:Int):=dg
def Qx (k:Nat) (o:k<2^64):aA PQ G uH [.v (.int .u64 (k:Int))] [] λr n=>r=.own 0/\n=[some (.arr 1 (bl (gJ k)))]:=by
 apply aC Se;simp only[go_sem];refine jG (λs=>∃(A:V_)(j:Nat),A++[j]=gJ k/\j<=127/\s=⟨0,[(0,.v (.int .u64 (j:Int))),(3,.own 0)],[some (.arr 1 (bl A))]⟩) ?_ ?_;refine cO (λm s=>∃(A:V_)(j:Nat),A++Do m j=gJ k/\j<2*128^m/\A.length+m<=9/\s=⟨0,[(0,.v (.int .u64 (j:Int))),(3,.own 0)],[some (.arr 1 (bl A))]⟩) 9 ⟨[],k,rfl,o_,d_,?_⟩ ?_;simp only[go_sem];rintro m s ⟨A,j,a,e,c,rfl⟩;by_cases b:127<j
 cases m with
 |zero=>simp at e;omega|succ m=>
  have d:j<2^64:=CV e (uR (YF 2 (Gl d_ (o_:m+1<=9))) d_);have t1:decide ((j:Int)>127)=true:=decide_eq_true o_;have h:bV .rem (.int .u64 (j:Int)) (.int .u64 128)=some (.int .u64 ((j%128:Nat):Int)):=mD j 128 d_;have i:bV .quo (.int .u64 (j:Int)) (.int .u64 128)=some (.int .u64 ((j/128:Nat):Int)):=Cp j 128 d_ d;have w1:IntKind.u8.wrap ((j%128:Nat):Int)=((j%128:Nat):Int):=GI _ o_;have w2:IntKind.u8.wrap (((j%128:Nat):Int)+128)=((j%128+128:Nat):Int):=GI (j%128+128) o_;have l:A.length+1<=140737488355328:=o_;have g:A.length+1<=maxLen:=g_;have f:(A.length+1)*1<=140737488355328:=o_;simp only[go_sem,aP,t1,↓h,↓i,w1,w2,g,f];refine⟨m,o_,A++[j%128+128],j/128,?_,?_,?_,?_⟩;simp_all[a,Do,eB];omega;simp;omega;simp
 have t1:decide ((j:Int)>127)=false:=decide_eq_false o_;simp only[go_sem,t1];refine⟨A,j,?_,o_,rfl⟩;rw[<-a]
 cases m with
 |zero=>rfl|succ m=>rw[Do,if_neg b]
 rintro s ⟨A,j,a,e,rfl⟩;have c:=iP k;rw[<-a]at c;simp at c;have w1:IntKind.u8.wrap (j:Int)=(j:Int):=GI _ o_;have g:A.length+1<=maxLen:=g_;have f:(A.length+1)*1<=140737488355328:=o_;have l:A.length+1<=140737488355328:=o_;rw[<-a];simp only[go_sem,aP,w1,g,f,bZ,fG,uP]
def vI(n:Int)(h1:-9223372036854775808<=n)(h2:n<=2^63-1):aA PQ G iM [iv n] [] λr e=>r=.own 0/\e=[some (.arr 1 (bl (bN n)))]:=by
 apply aC LY;have f:=OP h1 h2;unfold bN;simp only[go_sem];by_cases c:n<0;obtain⟨m,rfl,g⟩:∃m:Nat,n=-((m:Int)+1)/\m<=(2^63-1):=⟨(-(n+1)).toNat,o_,o_⟩
 have t1:decide (-((m:Int)+1)<0)=true:=decide_eq_true c;have w1:IntKind.i64.wrap (-((m:Int)+1)+1)=-(m:Int):=a_;have w2:IntKind.i64.wrap (0 - -(m:Int))=(m:Int):=a_;have w3:IntKind.u64.wrap (m:Int)=(m:Int):=bS m o_;have b:bV .mul (.int .u64 (m:Int)) (.int .u64 2)=some (.int .u64 ((m*2:Nat):Int)):=lE m 2 o_;have d:bV .add (.int .u64 ((m*2:Nat):Int)) (.int .u64 1)=some (.int .u64 ((m*2+1:Nat):Int)):=eY (m*2) 1 o_;have a:W3 (-((m:Int)+1))=m*2+1:=by grind[W3]
 rw[a];simp only[go_sem,t1,w1,w2,w3,↓b,↓d];apply kM (Qx (m*2+1) o_);simp only[go_sem];obtain⟨m,rfl⟩:∃m:Nat,n=(m:Int):=⟨n.toNat,o_⟩
 have t1:decide ((m:Int)<0)=false:=decide_eq_false c;have w3:IntKind.u64.wrap (m:Int)=(m:Int):=bS m o_;have b:bV .mul (.int .u64 (m:Int)) (.int .u64 2)=some (.int .u64 ((m*2:Nat):Int)):=lE m 2 o_;have a:W3 (m:Int)=m*2:=by grind[W3]
 rw[a];simp only[go_sem,t1,w3,↓b];apply kM (Qx (m*2) o_);simp only[go_sem]
def bX(n:Int):(bN n).length<=10:=iP _
def Dp{n:Int}(h1:-9223372036854775808<=n)(h2:n<=2^63-1):xN (bN n):=GG (OP h1 h2)
def idB(a b:Int)(c:Nat):V_:=bN a++bN b++gJ c
def aFw(a b:Int)(c:Nat)(g:-9223372036854775808<=a)(f:a<=2^63-1)(e:-9223372036854775808<=b)(d:b<=2^63-1)(h:c<2^64):
 aA PQ G qS [.ag [iv a,iv b,.v (.int .u64 (c:Int))]] [] λr m=>r=.own 0/\m=[some (.arr 1 (bl (idB a b c)))]:=by
 apply aC OM;have p:=bX a;have o:=bX b;have n:=iP c;have t:(bl (bN a)).length=(bN a).length:=s_;have s:(bl (bN b)).length=(bN b).length:=s_;have q:(bl (gJ c)).length=(gJ c).length:=s_;simp only[go_sem];apply kM (vI a g f);simp only[go_sem];apply kM (vI b e d);have w:(bN a).length+(bN b).length<=140737488355328:=o_;have l:(bN a).length+(bN b).length<=maxLen:=g_;have k:((bN a).length+(bN b).length)*1<=140737488355328:=o_;simp only[go_sem,aP,l,k];apply kM (Qx c h);have u:(bN a).length+(bN b).length+(gJ c).length<=140737488355328:=o_;have j:(bN a).length+(bN b).length+(gJ c).length<=maxLen:=g_;have i:((bN a).length+(bN b).length+(gJ c).length)*1<=140737488355328:=o_;simp only[go_sem,aP,dZ,j,i,idB,bl,bZ]
def Uj(a b:V_):Fq:=FW a (eN b++[b.length])
def Uk(S:ByteArray)(a b:V_)(j:lJ S=bl a)(f:S.size=a.length)(i:xN a)(g:a.length<=1000)(c:xN b)(h:b.length<=1000000):aA PQ G Bl [.v (.string S),.ls 1 (bl b)] [] λr o=>r=.v (fu (Uj a b))/\o=[]:=by
 apply aC OO;have e:=Hc b;have p:=J1 c;have d:IntKind.u64.wrap (b.length:Int)=(b.length:Int):=bS _ o_;have m:(eN b).length+1<=maxLen:=g_;have l:((eN b).length+1)*8<=140737488355328:=o_;simp only[go_sem];apply kM (Ug b c o_);have k:ul (eN b)++[[AV.v (.int .u64 (b.length:Int))]]=ul (eN b++[b.length]):=s_;simp only[go_sem,aP,d,m,l];rw[k];refine iJ (aB _) rfl rfl (aDc S a (eN b++[b.length]) j f i g (λn q=>?_) c_) ?_;grind;simp only[go_sem];rfl
def Px(a b:V_):Nat:=1+(FW a b).val%2305843009213693949
def Sf(a b:V_):1<=Px a b/\Px a b<=2305843009213693949:=by unfold Px;omega
def Qy(S:ByteArray)(a b:V_)(j:lJ S=bl a)(f:S.size=a.length)(i:xN a)(h:a.length<=1000)(g:∀n∈b,n<2^64)(c:b.length<=10000000):aA PQ G zY [.v (.string S),.ls 1 (ul b)] [] λr l=>r=.v (.int .u64 ((Px a b:Nat):Int))/\l=[]:=by refine aC LX ?_;have d:=Sf a b;have e:bV .rem (fu (FW a b)) (.int .u64 2305843009213693949)=some (.int .u64 (((FW a b).val%2305843009213693949:Nat):Int)):=mD _ 2305843009213693949 d_;have k:bV .add (.int .u64 1) (.int .u64 (((FW a b).val%2305843009213693949:Nat):Int))=some (.int .u64 ((Px a b:Nat):Int)):=eY 1 _ (by unfold Px at d;omega);simp only[go_sem];apply cX (aDc S a b j f i h g c);simp only[go_sem,↓e,↓k]
def cZ(l:B_):V_:=(l.map bN).flatten
def mP(l:V_):V_:=(l.map gJ).flatten
def OS(l:B_)(x:Int):cZ (l++[x])=cZ l++bN x:=by simp[cZ]
def W4(l:V_)(x:Nat):mP (l++[x])=mP l++gJ x:=by simp[mP]
def lF:∀l:B_,(cZ l).length<=10*l.length
 |[]=>by simp[cZ]
 |x::l=>by
  have:=lF l;have h:=bX x;simp only[cZ,fG,zK,dZ,sE]at *
  omega
def AY:∀l:V_,(mP l).length<=10*l.length
 |[]=>by simp[mP]
 |x::l=>by
  have:=AY l;have h:=iP x;simp only[mP,fG,zK,dZ,sE]at *
  omega
def Sg(l:B_)(m:l.length<=1000000)(e:∀n∈l,mZ n):aA PQ G wE [rG l] [] λr j=>r=.own 0/\j=[some (.arr 1 (bl (cZ l)))]:=by
 apply aC Pc;simp only[go_sem];refine aQ l.length (λi=>⟨0,[(0,rG l),(3,.own 0),(4,iv i)],[some (.arr 1 (bl (cZ (l.take i))))]⟩) (λ_=>True) ?_ trivial ?_ ?_;simp only[go_sem];rfl;intro i a _;have f:(l.map λn=>[iv n])[i]?=some [iv l[i]]:=aO _ l i a;have b:=e l[i] (eQ a);have d:cZ (l.take (i+1))=cZ (l.take i)++bN l[i]:=by rw[lB a,OS]
 have c:=lF (l.take i);have k:=bX l[i];rw[d];rw[eC]at c;generalize cZ (l.take i)=X at *
 generalize l[i]=x at *
 have h:X.length+(bN x).length<=maxLen:=g_;have g:(X.length+(bN x).length)*1<=140737488355328:=o_;have o:X.length+(bN x).length<=140737488355328:=o_;simp only[go_sem,aP,aT a,f];apply kM (vI x b.1 b.2);simp only[go_sem,aP,h,g,fQ i o_,bZ];intro _;rw[dE];simp only[go_sem,aP,aS (bP _)]
def aDg(l:V_)(m:l.length<=1000000)(e:∀n∈l,n<2^64):aA PQ G DV [.ls 1 (ul l)] [] λr j=>r=.own 0/\j=[some (.arr 1 (bl (mP l)))]:=by
 apply aC Pd;simp only[go_sem];refine aQ l.length (λi=>⟨0,[(0,.ls 1 (ul l)),(3,.own 0),(4,iv i)],[some (.arr 1 (bl (mP (l.take i))))]⟩) (λ_=>True) ?_ trivial ?_ ?_;simp only[go_sem];rfl;intro i a _;have f:(ul l)[i]?=some [.v (.int .u64 ((l[i]:Nat):Int))]:=aO _ l i a;have c:=e l[i] (eQ a);have d:mP (l.take (i+1))=mP (l.take i)++gJ l[i]:=by rw[lB a,W4]
 have b:=AY (l.take i);have k:=iP l[i];rw[d];rw[eC]at b;generalize mP (l.take i)=X at *
 generalize l[i]=x at *
 have h:X.length+(gJ x).length<=maxLen:=g_;have g:(X.length+(gJ x).length)*1<=140737488355328:=o_;have o:X.length+(gJ x).length<=140737488355328:=o_;simp only[go_sem,aP,aT a,f];apply kM (Qx x c);simp only[go_sem,aP,h,g,fQ i o_,bZ];intro _;rw[dE];simp only[go_sem,aP,aS (bP _)]
def BoxM.B(b:BoxM):V_:=mP [b.To,b.Eph,b.Body,b.Tag]
def vJ(l:List BoxM):V_:=bN (l.length:Int)++(l.map BoxM.B).flatten
def I4:∀l:List BoxM,((l.map BoxM.B).flatten).length<=40*l.length
 |[]=>by simp
 |x::l=>by
  have:=I4 l;have h:x.B.length<=10*4:=AY [x.To,x.Eph,x.Body,x.Tag];simp only[fG,zK,dZ,sE]at *
  omega
def Y9(l:List BoxM)(y:l.length<=1000000)(k:∀b∈l,b.ok):aA PQ G Bm [F5 l] [] λr f=>r=.own 0/\f=[some (.arr 1 (bl (vJ l)))]:=by
 apply aC Nf;have h0:=bX (l.length:Int);simp only[go_sem,aP];apply kM (vI (l.length:Int) o_ o_);simp only[go_sem];refine aQ l.length (λi=>⟨0,[(0,F5 l),(3,.own 0),(4,iv i)],[some (.arr 1 (bl (bN (l.length:Int)++((l.take i).map BoxM.B).flatten)))]⟩) (λ_=>True) ?_ trivial ?_ ?_;simp only[go_sem,uQ,B9,jO];intro i a _;have q:(l.map BoxM.A)[i]?=some l[i].A:=aO _ l i a;have h:=k l[i] (eQ a);have j:bN (l.length:Int)++((l.take (i+1)).map BoxM.B).flatten=(bN (l.length:Int)++((l.take i).map BoxM.B).flatten)++l[i].B:=by rw[lB a,bZ,Kf,eB];simp only[fG,uP,zK,B9,jO]
 have g:=I4 (l.take i);rw[eC]at g;have w:l[i].B.length<=10*4:=AY [l[i].To,l[i].Eph,l[i].Body,l[i].Tag];have u:(bN (l.length:Int)++((l.take i).map BoxM.B).flatten).length<=40000010:=k6;rw[j];generalize bN (l.length:Int)++((l.take i).map BoxM.B).flatten=X at *
 generalize l[i]=x at *
 have t:X.length+x.B.length<=maxLen:=g_;have s:(X.length+x.B.length)*1<=140737488355328:=o_;have C:X.length+x.B.length<=140737488355328:=o_;have p:(l.map BoxM.A)[i]?=some [uv x.To,uv x.Eph,uv x.Body,uv x.Tag]:=q;simp only[go_sem,aP,aT a,p];refine cH (aB _) rfl rfl (aDg [x.To,x.Eph,x.Body,x.Tag] s_ (λn d=>?_)) ?_;simp only[cS,pP,or_false]at d;obtain⟨h1,h2,h3,z⟩:=h;rcases d with rfl|rfl|rfl|rfl<;>assumption;rintro r f ⟨rfl,rfl⟩;refine⟨x_,by simp only[cA,xH,forall_eq,bl,dF];rintro e ⟨n,_,rfl⟩ c m;exact⟨_,cA.1 m⟩,?_⟩;have o:mP [x.To,x.Eph,x.Body,x.Tag]=x.B:=rfl;rw[o];simp only[go_sem,aP,t,s,fQ i o_,bZ];intro _;rw[dE];simp only[go_sem,aP,aS (bP _),vJ]
def rD(b:V_):V_:=bN (b.length:Int)++b
def aDh(S:ByteArray)(b:V_)(c:lJ S=bl b)(a:S.size=b.length)(h:b.length<=1000000):aA PQ G DU [.v (.string S)] [] λr f=>r=.own 0/\f=[some (.arr 1 (bl (rD b)))]:=by
 apply aC Pw;have g:=bX (b.length:Int);have e:(bN (b.length:Int)).length+b.length<=140737488355328:=o_;have d:(bN (b.length:Int)).length+b.length<=maxLen:=g_;simp only[go_sem,a];apply kM (vI (b.length:Int) o_ o_);simp only[go_sem,aP,a,c,e,d,rD,bZ]
def Un:∀(l:V_)(x:Nat),xA (l++[x])=xA l+256^l.length*x|[],x=>by simp[xA]|y::l,x=>by simp only[jC,xA,Un l x,sE,QM];grind
def Uo{b:V_}{j:Nat}(h:j<b.length):xA (b.take (j+1))=xA (b.take j)+256^j*b[j]:=by rw[lB h,Un,eC,Kj o_]
def aDk(w x j:Nat)(h:w<256^j):w ||| (x*2^(8*j))=w+256^j*x:=by
 have e:(256:Nat)^j=2^(8*j):=by rw[IA]
 rw[e]at h⊢;have:=Nat.shiftLeft_add_eq_or_of_lt h x;grind[Nat.shiftLeft_eq]
def Q0(x j:Nat)(b:j<=7)(a:x<256):bV .shl (.int .u64 (x:Int)) (.int .i64 ((8*j:Nat):Int))=some (.int .u64 ((x*2^(8*j):Nat):Int)):=by
 have h1:¬((8*j:Nat):Int)<0:=o_;have h2:min (((8*j:Nat):Int)).toNat IntKind.u64.bits=8*j:=by grind[Int.toNat_natCast,IntKind.bits]
 have h3:x*2^(8*j)<2^64:=by have:x*2^(8*j)<256*2^(8*j):=Nat.mul_lt_mul_of_pos_right a (Nat.pow_pos d_);have c:2^(8*j)<=2^56:=Gl d_ o_;omega
 simp only[bV,h1,if_false,h2];have:(x:Int)*2^(8*j)=((x*2^(8*j):Nat):Int):=s_;rw[this,bS _ h3]
def Uq(a b:Nat)(e:a<2^64)(d:b<2^64)(c:a ||| b<2^64):bV .or (.int .u64 (a:Int)) (.int .u64 (b:Int))=some (.int .u64 ((a ||| b:Nat):Int)):=by
 have h1:(BitVec.ofInt IntKind.u64.bits (a:Int) ||| BitVec.ofInt IntKind.u64.bits (b:Int)).toNat=a ||| b:=by
  have ea:(BitVec.ofInt 64 (a:Int)).toNat=a:=h_;have f:(BitVec.ofInt 64 (b:Int)).toNat=b:=h_;show(BitVec.ofInt 64 (a:Int) ||| BitVec.ofInt 64 (b:Int)).toNat=a ||| b;grind
 simp only[bV,if_true,h1];rw[bS _ c]
def MK(s w:Fq)(k:Nat)(g:k<1000000000):aA PQ G jZ [.ptr 0 0,.own 1] [some (.box [.v (fu s),.v (.int .u64 (k:Int))]),some (.arr 1 [[.v (fu w)]])] λr d=>
 d=[some (.box [.v (fu (nG s w (k+1))),.v (.int .u64 ((k+1:Nat):Int))]),some (.arr 1 [[.v (fu w)]])]:=by
 apply aC FO;have f:=FU w;have a:=eY k 1 o_;have c:=eY w.val (k+1) o_;have e:=aFv w (k+1) oy;simp only[aHD]at a;have b:IntKind.u64.wrap ((w.val:Int)+((k+1:Nat):Int))=((w.val+(k+1):Nat):Int):=by rw[<-Int.natCast_add,bS _ o_]
 simp only[go_sem];refine aQ 1 (λi=>⟨2,[(0,.ptr 0 0),(6,.own 1),(7,iv 1),(8,iv i)],[some (.box [.v (fu (if i=0 then s else nG s w (k+1))),.v (.int .u64 ((k+i:Nat):Int))]),some (.arr 1 [[.v (fu w)]])]⟩) (λ_=>True) ?_ trivial ?_ ?_;simp only[go_sem];intro i h _;obtain rfl:i=0:=o_;simp only[go_sem,↓a,↓c];apply cX (Ud 37 s);simp only[go_sem,b];apply cX (Gy G (w.val+(k+1)) o_);simp only[go_sem,e];apply cX (aJY (37*s) (w+Fin.ofNat PP (k+1)));simp only[go_sem];apply cX (aD8 _ 17 d_);simp only[go_sem,nG];intro _;simp only[go_sem]
def aH4 (S:ByteArray) (a b:V_) (hS:lJ S=bl a) (hs:S.size=a.length) (p:xN a) (m:1<=a.length) (J:a.length<=7) (hn:∀n∈b,n<2^64) (ac:b.length<=10000000):aA PQ G GA [.v (.string S),.ls 1 (ul b)] [] λr u=>r=.v (fu (FW a b))/\u=[]:=by
 apply aC SM;have hm:a.length<=maxLen:=g_;have L:IntKind.u64.wrap (b.length:Int)=(b.length:Int):=bS _ o_;have K:IntKind.u64.wrap (a.length:Int)=(a.length:Int):=bS _ o_;have V:(Value.int .u64 (a.length:Int))=fu (Fin.ofNat PP a.length):=Cq oy;have R:(Value.int .u64 (b.length:Int))=fu (Fin.ofNat PP b.length):=Cq oy;have l:(bl a).length=a.length:=s_;have N:∀n,a.length<=n->(bl a).take n=bl a:=λn h=>sG w_;have hW:xA a<72057594037927936:=Qw p J;have Q:(Value.int .u64 ((xA a:Nat):Int))=fu (Fin.ofNat PP (xA a)):=Cq (QQ hW d_);have E:(if(a.length:Int)<7 then(a.length:Int) else(7:Int))=(a.length:Int):=ax;have w0:IntKind.i64.wrap (0+(a.length:Int))=(a.length:Int):=a_;have D:¬a.length=0:=o_;have O:decide ((7:Int)<(a.length:Int))=false:=decide_eq_false o_;have P:decide ((0:Int)<(a.length:Int))=true:=decide_eq_true o_;have I:Uh a b=Fin.ofNat PP (xA a)::Fin.ofNat PP b.length::(b.map (Fin.ofNat PP)++[0]):=by unfold Uh;rw[Wy (λh=>by rw[h]at m;simp at m) J];simp
 simp only[go_sem,hS,hs,hm,K,V];apply kM (Y5 _);simp only[go_sem];refine NX rfl (vZ qG) λr k1 Z hy ab=>?_;simp only[go_sem];refine Ic [0,1,2] (aB _) d_ (λi e=>by simp at e⊢;omega) rfl rfl (aC qG ?_);simp only[go_sem];apply kM (Y6 _);simp only[go_sem];refine NX rfl (vZ fN) λF W q2 hz aa=>?_;simp only[go_sem];refine Ic [0,1,2,3,4,5,6] (aB _) d_ (λi e=>by simp at e⊢;omega) rfl rfl (aC fN ?_);simp only[go_sem];generalize ae:Fin.ofNat PP a.length=g at *
 refine cO (λn s=>(n=1/\s=⟨7,[(0,.yl 6),(1,.ptr 4 0),(2,.ptr 5 0),(4,iv 0)],[some (.box [.v (fu g),.v (.int .u64 0)]),some (.box [.ls 1 (bl a)]),some (.lp r [(5,.ptr 0 0)]),some (.box [.yl 2]),some (.box [.ls 1 (bl a)]),some (.box [iv 7]),some (.lp F [(2,.ptr 3 0)])]⟩) \/
  (n=0/\s=⟨7,[(0,.yl 6),(1,.ptr 4 0),(2,.ptr 5 0),(4,iv 7)],[some (.box [.v (fu (nG g (Fin.ofNat PP (xA a)) 1)),.v (.int .u64 ((1:Nat):Int))]),some (.box [.ls 1 (bl a)]),some (.lp r [(5,.ptr 0 0)]),some (.box [.yl 2]),some (.box [.ls 1 (bl a)]),some (.box [iv 7]),some (.lp F [(2,.ptr 3 0)])]⟩)) 1 (.inl ⟨rfl,?_⟩) ?_
 simp only[go_sem];rintro n s (⟨rfl,rfl⟩|⟨rfl,rfl⟩);simp only[go_sem,P,E,w0,D,l,N a.length (cN _)];apply hz _ _ _ _ _ rfl rfl;simp only[go_sem,aP];refine cO (λn s=>∃j:Nat,j<=a.length/\n=a.length-j/\s=⟨7,[(2,.ptr 3 0),(4,.v (.int .u64 ((xA (a.take j):Nat):Int))),(10,.ls 1 (bl a)),(11,iv a.length),(12,iv j)],[some (.box [.v (fu g),.v (.int .u64 0)]),some (.box [.ls 1 (bl a)]),some (.lp r [(5,.ptr 0 0)]),some (.box [.yl 2]),some (.box [.ls 1 (bl a)]),some (.box [iv 7]),none]⟩) a.length ⟨0,pR _,rfl,?_⟩ ?_;simp only[go_sem,uQ,xA];rintro n s ⟨j,hj,rfl,rfl⟩;by_cases d:j<a.length;have w:(bl a)[j]?=some [.v (.int .u8 ((a[j]:Nat):Int))]:=aO U8 a j d;have H:=p a[j] (eQ d);have q:=OJ (uU p j);rw[eC,Kj o_]at q;have ad:xA (a.take j)<72057594037927936:=Qw (uU p j) s6;have t:xA (a.take (j+1))<72057594037927936:=Qw (uU p _) s6;have c:=Uo d;rw[c]at t;generalize a[j]=x at w H c t;have M:IntKind.u64.wrap (x:Int)=(x:Int):=bS x o_;have v2:IntKind.i64.wrap (8*(j:Int))=((8*j:Nat):Int):=a_;have T:=Q0 x j o_ H;have ho:=aDk (xA (a.take j)) x j q;have A:x*2^(8*j)<2^64:=by
  have:256^j*x=x*2^(8*j):=by rw[QP,show(256:Nat)^j=2^(8*j) by rw[IA]]
  omega
 have k:=Uq (xA (a.take j)) (x*2^(8*j)) o_ A o_;rw[ho,<-c]at k;simp only[go_sem,aT d,w,M,v2,↓T,↓k,fQ j o_];exact⟨a.length-(j+1),o_,j+1,o_,rfl,rfl⟩;obtain rfl:j=a.length:=o_;rw[dE];simp only[go_sem,aS (bP _),Q];apply hy _ _ _ _ _ rfl rfl;simp only[go_sem];apply aG [0,7] (aB _) d_ s_ rfl rfl (MK g (Fin.ofNat PP (xA a)) 0 d_);rintro y u f;subst f;simp only[go_sem];simp;simp only[go_sem,aP,O,W,q2,k1,Z,L,R];apply aG [0,3] (aB _) d_ s_ rfl rfl (MK (nG g (Fin.ofNat PP (xA a)) 1) (Fin.ofNat PP b.length) 1 d_);rintro y u f;subst f;have o:FW a b=nG (Dn (nG (nG g (Fin.ofNat PP (xA a)) 1) (Fin.ofNat PP b.length) 2) 2 (b.map (Fin.ofNat PP))) 0 (b.length+3):=by grind[FW,Dn,GF,List.length_map]
 rw[o];generalize nG (nG g (Fin.ofNat PP (xA a)) 1) (Fin.ofNat PP b.length) 2=B at *
 simp only[go_sem,aP];refine aQ b.length (λi=>⟨0,[(4,.v (.int .u64 0)),(5,.ptr 0 0),(15,.cl nS [.ptr 1 0]),(25,.ls 1 (ul b)),(26,iv b.length),(27,iv i)],[some (.box [.v (fu (Dn B 2 ((b.take i).map (Fin.ofNat PP)))),.v (.int .u64 ((2+i:Nat):Int))]),some (.box [.ls 1 (bl a)])]⟩) (λ_=>True) ?_ trivial ?_ ?_;simp only[go_sem];rfl;intro i e _;have w:(ul b)[i]?=some [.v (.int .u64 ((b[i]:Nat):Int))]:=h_;have C:=hn b[i] (eQ e);have z:nG (Dn B 2 ((b.take i).map (Fin.ofNat PP))) (Fin.ofNat PP b[i]) (2+i+1)=Dn B 2 ((b.take (i+1)).map (Fin.ofNat PP)):=by rw[lB e,bZ,fG,uP,GF];congr 1;simp;omega
 have U:(Value.int .u64 ((b[i]%FP:Nat):Int))=fu (Fin.ofNat PP b[i]):=rfl;generalize Dn B 2 ((b.take i).map (Fin.ofNat PP))=X at *
 generalize Dn B 2 ((b.take (i+1)).map (Fin.ofNat PP))=Y at *
 simp only[go_sem,aT e,w];apply cX (Gy G b[i] C);simp only[go_sem,U];apply aG [0,2] (aB _) d_ s_ rfl rfl (MK X (Fin.ofNat PP b[i]) (2+i) o_);rintro y u f;subst f;simp only[go_sem,z,fQ i o_];rfl;intro _;rw[dE];simp only[go_sem,aS (bP _)];apply aG [0,2] (aB _) d_ s_ rfl rfl (MK (Dn B 2 (b.map (Fin.ofNat PP))) 0 (2+b.length) o_);rintro y u f;subst f;have e3:2+b.length+1=b.length+3:=o_;simp only[go_sem,e3]
end Hud
