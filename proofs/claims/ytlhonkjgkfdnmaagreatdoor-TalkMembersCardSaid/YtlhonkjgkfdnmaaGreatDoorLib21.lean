import Derived.Test.YtlhonkjgkfdnmaaGreatDoorLib02
import Derived.Test.YtlhonkjgkfdnmaaGreatDoorLib14
import Derived.Test.YtlhonkjgkfdnmaaGreatDoorLib18
import Derived.Test.YtlhonkjgkfdnmaaGreatDoorLib19
set_option linter.all false
set_option maxHeartbeats 40000000
namespace Hud
set_option maxRecDepth 99999
open Go
def N1:=eVf (cF oK [])
def SK:=eVf (cF wC [])
def LT:=eVf (cF rO [(2,none,3),(3,none,3),(6,none,3)])
def LU:=eVf (cF zX [])
def FM:=eVf (cF jW [])
def Cl:=eVf (cF qV [])
def Po:=eVf (cF DR [])
end Hud
namespace Hud
set_option maxRecDepth 99999
open Go
def Aw:=eVf (cF kH [])
def pJ:=eVf (cF bK [])
def sP:=eVf (cF bO [])
def oU:=eVf (cF eK [])
def rS:=eVf (cF gO [])
def oV:=eVf (cF eM [])
def pW:=eVf (cF fK [])
def pK:=eVf (cF fB [])
def lS:=eVf (cF dA [])
def oF:=eVf (cF cQ [])
def rC:=eVf (cF dL [])
def rT:=eVf (cF dR [])
def oG:=eVf (cF bW [])
def tH:=eVf (cF eF [])
def tI:=eVf (cF cY [])
end Hud
namespace Hud
open Go
variable{G:L_}
def OD(x y:Id):aA PQ G DR [.ag x.A,.ag y.A] [] λr T=>r=.v (.bool (x.lt y))/\T=[]:=by refine aC Po ?_;simp only[go_sem,Id.A];refine aL (λh=>?_) (λh=>?_)<;>simp only[go_sem];simp_all[Id.lt];refine aL (λh2=>?_) (λh2=>?_)<;>simp only[go_sem]<;>simp_all[Id.lt]
def EF(x:Int):aA PQ G kH [iv x] [] λr T=>r=.v (.bool false)/\T=[]:=by refine aC Aw ?_;simp only[go_sem,bne_self_eq_false]
def Ay(x:Int):aA PQ G oT [.v (.int .u64 x)] [] λr T=>r=.v (.bool false)/\T=[]:=by refine aC EQ ?_;simp only[go_sem,bne_self_eq_false]
def wG(x y:Int):Int:=if x<y then -1 else if y<x then 1 else 0
def kB(x y:Int):aA PQ G jW [iv x,iv y] [] λr T=>r=iv (wG x y)/\T=[]:=by refine aC FM ?_;simp only[go_sem];apply cX (EF x);simp only[go_sem];apply cX (EF y);simp only[go_sem];refine aL (λh=>?_) (λh=>?_)<;>simp only[go_sem];simp_all[wG];refine aL (λh2=>?_) (λh2=>?_)<;>simp only[go_sem]<;>simp_all[wG];omega
def FR(x y:Int):aA PQ G qV [.v (.int .u64 x),.v (.int .u64 y)] [] λr T=>r=iv (wG x y)/\T=[]:=by refine aC Cl ?_;simp only[go_sem];apply cX (Ay x);simp only[go_sem];apply cX (Ay y);simp only[go_sem];refine aL (λh=>?_) (λh=>?_)<;>simp only[go_sem];simp_all[wG];refine aL (λh2=>?_) (λh2=>?_)<;>simp only[go_sem]<;>simp_all[wG];omega
def I1(x:Int):O_:=[iv x]
def aOL(x:Int):I1 x=[iv x]:=rfl
abbrev ints(l:List Int):AV:=.ls 1 (l.map I1)
def pX(n m:Int):Int:=(if n<0 then -(n+1) else n)%m
def nF:B_->Int|[]=>0|x::r=>if x=0 then nF r else x
def Iv{l:B_}{i:Nat}(h:∀j,j<i->l.getD j 0=0)(c:i<l.length)(b:l[i]≠0):nF l=l[i]:=by
 induction l generalizing i with
 |nil=>simp at c| cons a l ih=>
  cases i with
  |zero=>simp only[List.getElem_cons_zero]at b⊢;simp[nF,b]|succ i=>
   have h0:a=0:=by simpa using h 0 o_
   grind[nF]
def Iw{l:B_}(h:∀j,j<l.length->l.getD j 0=0):nF l=0:=by
 induction l with
 |nil=>rfl|cons a l ih=>
  have h0:a=0:=by simpa using h 0 s_
  simp only[nF,h0,if_true];exact ih λj b=>by simpa using h (j+1) T_
theorem aHT{x y:Int}:wG x y=0↔x=y:=by grind[wG]
theorem aCX{x y:Int}:wG x y<0↔x<y:=by grind[wG]
def aHU(x y:Id):decide (nF [wG x.a y.a,wG x.b y.b,wG x.c y.c]<0)=x.lt y:=by rw[CT];grind[nF,Id.lt,aHT,aCX]
def AC(l:B_)(c:l.length<=maxLen):aA PQ G zX [ints l] [] λr T=>r=iv (nF l)/\T=[]:=by refine aC LU ?_;unfold maxLen at c;simp only[go_sem,aP];refine aQ l.length (λi=>⟨0,[(3,iv 0),(6,ints l),(7,iv l.length),(8,iv i)],[]⟩) (λi=>∀j,j<i->l.getD j 0=0) ?_ s_ ?_ ?_;rfl;intro i b a;simp only[go_sem,aT b,aO I1 l i b,aOL];refine aL (λh=>?_) (λh=>?_)<;>simp only[go_sem,fQ i o_];rw[Iv a b x_];grind;intro a;simp only[go_sem,aS (bP _),Iw a]
def Cm(x y:Id):aA PQ G wC [.ag x.A,.ag y.A] [] λr T=>r=.v (.bool (x.lt y))/\T=[]:=by refine aC SK ?_;simp only[go_sem,Id.A];apply cX (kB x.a y.a);simp only[go_sem];apply cX (kB x.b y.b);simp only[go_sem];apply cX (FR x.c y.c);simp only[go_sem];apply iJ (aB _) rfl rfl (AC [wG x.a y.a,wG x.b y.b,wG x.c y.c] (by simp[maxLen]));simp only[go_sem];rw[aHU]
def Dl(n m:Int)(h1:-9223372036854775808<=n)(h2:n<=2^63-1)(h3:1<=m)(c:m<=2^63-1):
 aA PQ G uV [iv n,iv m] [] λr T=>r=iv (pX n m)/\T=[]:=by
 apply aC LV;have a:¬m=0:=o_;simp only[go_sem];refine aL (λh=>?_) (λh=>?_)<;>simp only[go_sem,a];have b:n<0:=x_;rw[aJ (n:=n+1) o_ o_,aJ o_ o_];grind[pX,Int.zero_sub];grind[pX]
def uJ(l:D_)(x:Id)(d:l.length<=maxLen):aA PQ G oK [ids l,.ag x.A] [] λr T=>r=.v (.bool (decide (x∈l)))/\T=[]:=by
 apply aC N1;unfold maxLen at d;simp only[go_sem,Id.A_def];refine aQ l.length (λi=>⟨0,[(0,ids l),(3,.ptr 0 0),(5,iv i)],[some (.box x.A)]⟩) (λi=>x∉l.take i) ?_ s_ ?_ ?_;rfl;intro i b a;simp only[go_sem,aP,aT b,aO Id.A l i b,Id.A_def];refine aL (λh=>?_) (λh=>?_)<;>simp only[go_sem,fQ i o_];grind;refine⟨rfl,?_⟩;have:l[i]≠x:=x_;intro c;rw[lB b]at c;grind;intro a;rw[dE]at a;simp only[go_sem,aP,aS (bP _),a]
def Ha(x:Id)(out:D_):Nat->Nat|0=>0|n+1=>match out[n]? with|some y=>if x.lt y then Ha x out n else n+1|none=>n+1
def Ps(out:D_)(x:Id):D_:=out.take (Ha x out out.length)++[x]++out.drop (Ha x out out.length)
def jI(l:D_):D_:=l.foldl Ps []
def Yz(x:Id)(out:D_):∀n,Ha x out n<=n|0=>cN _| n+1=>by simp only[Ha];split;split;have:=Yz x out n;omega;omega;omega
def aCY(out:D_)(x:Id):(Ps out x).length=out.length+1:=by grind[Ps,List.length_append,List.length_take,List.length_drop,List.length_cons,List.length_nil]
def aAt(l:D_):∀out,(l.foldl Ps out).length=out.length+l.length:=by
 induction l with
 |nil=>simp|cons x l ih=>intro out;simp only[CW,ih,aCY,sE];omega
def Qn(l:D_):(jI l).length=l.length:=by simp[jI,aAt]
def Wh(l:D_)(i:Nat)(h:i<l.length):jI (l.take (i+1))=Ps (jI (l.take i)) l[i]:=by rw[lB h,jI,Hy];rfl
def AD (l:D_) (j:l.length<=1000000000):aA PQ G rO [ids l] [] λr T=>r=.own 0/\T=[some (.arr 3 ((jI l).map Id.A))]:=by
 apply aC LT;simp only[go_sem];refine aQ l.length (λi=>⟨0,[(0,ids l),(3,.own 0),(4,iv i)],[some (.arr 3 ((jI (l.take i)).map Id.A))]⟩) (λ_=>True) ?_ trivial ?_ ?_;rfl;intro i b _;simp only[go_sem,aP,aT b];have g:=Qn (l.take i);rw[eC]at g;have c:=Yz l[i] (jI (l.take i)) (jI (l.take i)).length;refine jG (λs=>s=⟨0,[(0,ids l),(3,.own 0),(4,iv i),(5,iv (Ha l[i] (jI (l.take i)) (jI (l.take i)).length:Nat))],[some (.arr 3 ((jI (l.take i)).map Id.A))]⟩) ?_ ?_;refine aFb (jI (l.take i)).length (λk=>⟨0,[(0,ids l),(3,.own 0),(4,iv i),(5,iv k)],[some (.arr 3 ((jI (l.take i)).map Id.A))]⟩) (λk=>Ha l[i] (jI (l.take i)) (jI (l.take i)).length=Ha l[i] (jI (l.take i)) k) ?_ rfl ?_ ?_;simp only[go_sem];intro k d e;have a:=aO Id.A (jI (l.take i)) k d;simp only[go_sem,aP,aO Id.A l i b,F3 (o_:k<2^63-1),d,a,Id.A_def];apply cX (OD l[i] (jI (l.take i))[k]);simp only[go_sem];refine aL (λh=>?_) (λh=>?_)<;>simp only[go_sem,F3 (o_:k<2^63-1)];grind[Ha];grind[Ha];intro e;simp only[go_sem,e,Ha];rintro s rfl;generalize f:Ha l[i] (jI (l.take i)) (jI (l.take i)).length=p at c
 simp only[go_sem,aP,eC,vY,dZ,Kj c,c,QO,pQ,pR,aO Id.A l i b,Id.A_def,(o_:p*24<=140737488355328),(g_:p<=maxLen),(o_:(p+1)*24<=140737488355328),(g_:p+1<=maxLen),
  (o_:p+((jI (l.take i)).length-p)=(jI (l.take i)).length),fQ i o_,
  (o_:(p+1+((jI (l.take i)).length-p))*24<=140737488355328),(g_:p+1+((jI (l.take i)).length-p)<=maxLen),cN,eB]
 rw[Wh l i b,Ps,f];simp only[bZ,QN,aC0,fG,Id.A_def,eB,jC,dM];intro _;simp only[go_sem,aP,aS (bP _),dE]
def Id.K(x:Id):C_:=[.int .i64 x.a,.int .i64 x.b,.int .u64 x.c]
def sQ(l:D_):D_:=l.mergeSort (λx y=>!(y.lt x))
def Wi(x y:Id):Int:=if x.lt y then -1 else if y.lt x then 1 else 0
def EG{α:Type}{p:α->Bool}{l:List α}{i:Nat}(a:i<l.length)(h:p l[i]=false):l.all p=false:=m_
def Bu{α:Type}{p:α->Bool}{l:List α}(h:∀j(a:j<l.length),j<l.length->p l[j]=true):l.all p=true:=by rw[oD];intro x b;obtain⟨j,a,rfl⟩:=CU b;exact h j a a
def vH{α:Type}{p:α->Bool}{l:List α}{i:Nat}(c:i<l.length)(d:∀j(a:j<l.length),j<i->p l[j]=true)(h:p l[i]=true):∀j(a:j<l.length),j<i+1->p l[j]=true:=λj a b=>m_
def aAu(o:OpM):aA PQ G wO [.ag o.A] [] λr T=>r=.v (.bool (fP o))/\T=[]:=by
 apply aC Jr;simp only[go_sem]
 repeat' (first
  |((with_reducible refine aL (λh=>?_) (λh=>?_))<;>(try simp only[vP,lI,sF]at h)<;>simp only[go_sem,aP,h,undef])
  |(with_reducible refine dO (f:=dP) ?_;refine aU (aB _) rfl (FF _ _ _) rfl ?_;simp only[go_sem,aP,undef])|(with_reducible refine dO (f:=jT) ?_;refine aU (aB _) rfl (FG _) rfl ?_;simp only[go_sem,aP,undef])|(with_reducible refine dO (f:=kQ) ?_;refine aU (aB _) rfl (Dh _) rfl ?_;simp only[go_sem,aP,undef]))
 all_goals simp_all[fP]
def Y0(l:List BoxM)(e:l.length<2^63-1):aA PQ G xW [F5 l] [] λr T=>r=.v (.bool (l.all wA))/\T=[]:=by
 apply aC Nk;simp only[go_sem];refine aQ l.length (λi=>⟨0,[(0,F5 l),(3,iv i)],[]⟩) (λi=>∀j(d:j<l.length),j<i->wA l[j]=true) ?_ ar ?_ ?_;simp only[go_sem]
 ·intro i a c;have b:(l.map BoxM.A)[i]?=some [uv l[i].To,uv l[i].Eph,uv l[i].Body,uv l[i].Tag]:=aO _ l i a;simp only[go_sem,aP,aT a,b]
  repeat' (first
   |((with_reducible refine aL (λh=>?_) (λh=>?_))<;>(try simp only[vP,lI,sF]at h)<;>simp only[go_sem,aP,a,b,fQ i o_,h,undef])
   |(with_reducible refine dO (f:=kQ) ?_;refine aU (aB _) rfl (Dh _) rfl ?_;simp only[go_sem,aP,a,b,fQ i o_,undef])|(with_reducible refine dO (f:=xV) ?_;refine aU (aB _) rfl (Nt _) rfl ?_;simp only[go_sem,aP,a,b,fQ i o_,undef]))
  all_goals first
   |exact vH a c (by clear c b;generalize l[i]=x at *;simp_all[wA])|rw[EG a (by clear c b;generalize l[i]=x at *;simp_all[wA])]
 intro c;simp only[go_sem,aP,aS (bP _),Bu c]
def aFn(o:OpM)(q:o.ok):aA PQ G Bn [.ag o.A] [] λr T=>r=.v (.bool (uA o))/\T=[]:=by
 apply aC Ni;have F:=q.guards.1;have E:=q.refs.1;have D:=q.past.1;have C:=q.path.1;have B:=q.hist.1;have z:=q.boxes.1;simp only[go_sem];refine aQ o.Guards.length (λi=>⟨0,[(1,.ptr 0 0),(3,iv i)],[some (.box o.A)]⟩) (λi=>∀j(m:j<o.Guards.length),j<i->yS o.Guards[j]=true) ?_ au ?_ ?_;simp only[go_sem]
 ·intro i d g;have k:(o.Guards.map λn=>[iv n])[i]?=some [iv o.Guards[i]]:=aO _ o.Guards i d;have l:o.Guards.length<(2^63-1):=o_;simp only[go_sem,aP,aT d,k]
  repeat' (first
   |((with_reducible refine aL (λh=>?_) (λh=>?_))<;>(try simp only[vP,lI,sF]at h)<;>simp only[go_sem,aP,d,k,fQ i o_,h,undef])
   |(with_reducible refine dO (f:=dP) ?_;refine aU (aB _) rfl (FF _ _ _) rfl ?_;simp only[go_sem,aP,d,k,fQ i o_,undef]))
  all_goals first
   |exact vH d g (by clear g k;generalize o.Guards[i]=x at *;simp_all[yS])|(have e:=EG (p:=yS) d (by clear g k;generalize o.Guards[i]=x at *;simp_all[yS]);simp[uA,e])
 intro g;simp only[go_sem,aP,aS (bP _)];have h3:=Bu g;clear g;refine aQ o.Refs.length (λi=>⟨0,[(1,.ptr 0 0),(4,iv i)],[some (.box o.A)]⟩) (λi=>∀j(m:j<o.Refs.length),j<i->SF o.Refs[j]=true) ?_ au ?_ ?_;simp only[go_sem]
 ·intro i d g;have k:(ul o.Refs)[i]?=some [uv o.Refs[i]]:=aO _ o.Refs i d;have l:o.Refs.length<(2^63-1):=o_;simp only[go_sem,aP,aT d,k]
  repeat' (first
   |((with_reducible refine aL (λh=>?_) (λh=>?_))<;>(try simp only[vP,lI,sF]at h)<;>simp only[go_sem,aP,d,k,fQ i o_,h,undef])
   |(with_reducible refine dO (f:=xV) ?_;refine aU (aB _) rfl (Nt _) rfl ?_;simp only[go_sem,aP,d,k,fQ i o_,undef]))
  all_goals first
   |exact vH d g (by clear g k;generalize o.Refs[i]=x at *;simp_all[SF])|(have e:=EG (p:=SF) d (by clear g k;generalize o.Refs[i]=x at *;simp_all[SF]);simp[uA,e])
 intro g;simp only[go_sem,aP,aS (bP _)];have y:=Bu g;clear g;refine aQ o.Past.length (λi=>⟨0,[(1,.ptr 0 0),(5,iv i)],[some (.box o.A)]⟩) (λi=>∀j(m:j<o.Past.length),j<i->jP o.Past[j]=true) ?_ au ?_ ?_;simp only[go_sem]
 ·intro i d g;have k:(o.Past.map Id.A)[i]?=some o.Past[i].A:=aO _ o.Past i d;have l:o.Past.length<(2^63-1):=o_;simp only[go_sem,aP,aT d,k]
  repeat' (first
   |((with_reducible refine aL (λh=>?_) (λh=>?_))<;>(try simp only[vP,lI,sF]at h)<;>simp only[go_sem,aP,d,k,fQ i o_,h,undef])
   |(with_reducible refine dO (f:=jT) ?_;refine aU (aB _) rfl (FG _) rfl ?_;simp only[go_sem,aP,d,k,fQ i o_,undef]))
  all_goals first
   |exact vH d g (by clear g k;generalize o.Past[i]=x at *;simp_all[jP])|(have e:=EG (p:=jP) d (by clear g k;generalize o.Past[i]=x at *;simp_all[jP]);simp[uA,e])
 intro g;simp only[go_sem,aP,aS (bP _)];have w:=Bu g;clear g;refine aQ o.Path.length (λi=>⟨0,[(1,.ptr 0 0),(6,iv i)],[some (.box o.A)]⟩) (λi=>∀j(m:j<o.Path.length),j<i->FI o.Path[j]=true) ?_ au ?_ ?_;simp only[go_sem]
 ·intro i d g;have k:(o.Path.map NodeM.A)[i]?=some [uv o.Path[i].Pub,F5 o.Path[i].Boxes]:=aO _ o.Path i d;have l:o.Path.length<(2^63-1):=o_;have s:o.Path[i].Boxes.length<(2^63-1):=by have:=(q.path.2 _ (eQ d)).2.1;omega
  simp only[go_sem,aP,aT d,k]
  repeat' (first
   |((with_reducible refine aL (λh=>?_) (λh=>?_))<;>(try simp only[vP,lI,sF]at h)<;>simp only[go_sem,aP,d,k,fQ i o_,h,undef])
   |(with_reducible refine dO (f:=kQ) ?_;refine aU (aB _) rfl (Dh _) rfl ?_;simp only[go_sem,aP,d,k,fQ i o_,undef])|(with_reducible refine dO (f:=xW) ?_;refine aU (aB _) rfl (Y0 _ s) rfl ?_;simp only[go_sem,aP,d,k,fQ i o_,undef]))
  all_goals first
   |exact vH d g (by clear g k;generalize o.Path[i]=x at *;simp_all[FI])|(have e:=EG (p:=FI) d (by clear g k;generalize o.Path[i]=x at *;simp_all[FI]);simp[uA,e])
 intro g;simp only[go_sem,aP,aS (bP _)];have u:=Bu g;clear g;refine aQ o.Hist.length (λi=>⟨0,[(1,.ptr 0 0),(7,iv i)],[some (.box o.A)]⟩) (λi=>∀j(m:j<o.Hist.length),j<i->FJ o.Hist[j]=true) ?_ au ?_ ?_;simp only[go_sem]
 ·intro i d g;have k:(o.Hist.map SealM.A)[i]?=some [.v (.int .i64 o.Hist[i].Of.a),.v (.int .i64 o.Hist[i].Of.b),.v (.int .u64 o.Hist[i].Of.c),.ls 1 (bl o.Hist[i].Body)]:=aO _ o.Hist i d;have l:o.Hist.length<(2^63-1):=o_;simp only[go_sem,aP,aT d,k]
  repeat' (first
   |((with_reducible refine aL (λh=>?_) (λh=>?_))<;>(try simp only[vP,lI,sF]at h)<;>simp only[go_sem,aP,d,k,fQ i o_,h,undef])
   |(with_reducible refine dO (f:=jT) ?_;refine aU (aB _) rfl (FG o.Hist[i].Of) rfl ?_;simp only[go_sem,aP,d,k,fQ i o_,undef]))
  all_goals first
   |exact vH d g (by clear g k;generalize o.Hist[i]=x at *;simp_all[FJ])|(have e:=EG (p:=FJ) d (by clear g k;generalize o.Hist[i]=x at *;simp_all[FJ]);simp[uA,e])
 intro g;simp only[go_sem,aP,aS (bP _)];have t:=Bu g;clear g;apply cX (Y0 o.Boxes o_);simp only[go_sem,uA,h3,y,w,u,t,mF]
def Co{α:Type}{a:α->α->Bool}:∀{l:List α},nT a l=true↔∀j(h:j+1<l.length),a l[j] l[j+1]=true|[]=>by simp[nT]|[x]=>by simp[nT]|x::y::l=>by simp only[nT,zJ,Co (l:=y::l)];constructor;grind;intro h;exact⟨h 0 s_,λj b=>h (j+1) T_⟩
def Y1{α:Type}{a:α->α->Bool}{l:List α}{i:Nat}(b:i+1<l.length)(h:a l[i] l[i+1]=false):nT a l=false:=by
 cases e:nT a l with
 |false=>rfl|true=>have:=Co.1 e i b;rw[h]at this;simp at this
def aHW(o:OpM)(m:o.ok):aA PQ G DZ [.ag o.A] [] λr T=>r=.v (.bool (ED o))/\T=[]:=by
 apply aC Pg;have s:=m.path.1;have q:=m.hist.1;simp only[go_sem];refine aQ o.Path.length (λi=>⟨0,[(1,.ptr 0 0),(3,iv i)],[some (.box o.A)]⟩) (λi=>∀j(l:j<o.Path.length),j<i->(λn:NodeM=>decide ((n.Boxes.length:Int)<=12)) o.Path[j]=true) ?_ (by intro j l h;omega) ?_ ?_;simp only[go_sem]
 ·intro i g d;have k:(o.Path.map NodeM.A)[i]?=some [uv o.Path[i].Pub,F5 o.Path[i].Boxes]:=aO _ o.Path i g;simp only[go_sem,aP,aT g,k]
  repeat' (first
   |((with_reducible refine aL (λh=>?_) (λh=>?_))<;>(try simp only[vP,lI,sF]at h)<;>simp only[go_sem,aP,g,k,fQ i o_,h,undef]))
  all_goals first
   |(refine vH (p:=λn:NodeM=>decide ((n.Boxes.length:Int)<=12)) g d ?_;clear d k;generalize o.Path[i]=x at *;simp at *;omega)|(have e:=EG (p:=λn:NodeM=>decide ((n.Boxes.length:Int)<=12)) g (by clear d k;generalize o.Path[i]=x at *;simp at *;omega);simp only[ED,e,sF,Ed,EI])
 intro d;have h3:=Bu (p:=λn:NodeM=>decide ((n.Boxes.length:Int)<=12)) d;clear d;simp only[go_sem,aP,aS (bP _)];refine aQ o.Hist.length (λi=>⟨0,[(1,.ptr 0 0),(4,iv i)],[some (.box o.A)]⟩) (λi=>∀j(l:j<o.Hist.length),j<i->(λx:SealM=>decide ((x.Body.length:Int)<=208)) o.Hist[j]=true) ?_ (by intro j l h;omega) ?_ ?_;simp only[go_sem]
 ·intro i g d;have k:(o.Hist.map SealM.A)[i]?=some [.v (.int .i64 o.Hist[i].Of.a),.v (.int .i64 o.Hist[i].Of.b),.v (.int .u64 o.Hist[i].Of.c),.ls 1 (bl o.Hist[i].Body)]:=aO _ o.Hist i g;simp only[go_sem,aP,aT g,k]
  repeat' (first
   |((with_reducible refine aL (λh=>?_) (λh=>?_))<;>(try simp only[vP,lI,sF]at h)<;>simp only[go_sem,aP,g,k,fQ i o_,h,undef]))
  all_goals first
   |(refine vH (p:=λx:SealM=>decide ((x.Body.length:Int)<=208)) g d ?_;clear d k;generalize o.Hist[i]=x at *;simp at *;omega)|(have e:=EG (p:=λx:SealM=>decide ((x.Body.length:Int)<=208)) g (by clear d k;generalize o.Hist[i]=x at *;simp at *;omega);simp only[ED,e,sF,Ed,EI])
 intro d;have t:=Bu (p:=λx:SealM=>decide ((x.Body.length:Int)<=208)) d;clear d;simp only[go_sem,aP,aS (bP _)]
 repeat' (first
  |((with_reducible refine aL (λh=>?_) (λh=>?_))<;>(try simp only[vP,lI,sF]at h)<;>simp only[go_sem,aP,h,undef])
  |(with_reducible refine dO (f:=dP) ?_;refine aU (aB _) rfl (FF _ _ _) rfl ?_;simp only[go_sem,aP,undef]))
 all_goals simp only[ED, *,lI,Ed,EI,EB,EH,if_true,if_false,jJ]
def aFq(o:OpM)(g:o.ok):aA PQ G E3 [.ag o.A] [] λr T=>r=.v (.int .i64 (jB o))/\T=[]:=by
 apply aC Ng;have x:=g.past.1;have w:=g.guards.1;have u:∀{a b:Int},a=b->AV.v (.int .i64 a)=.v (.int .i64 b):=λh=>by rw[h]
 simp only[go_sem]
 repeat' (first
  |((with_reducible refine aL (λh=>?_) (λh=>?_))<;>(try simp only[vP,lI,sF]at h)<;>simp only[go_sem,aP,gt_iff_lt,h,undef])
  |(with_reducible refine dO (f:=DY) ?_;refine aU (aB _) rfl (aHL o) rfl ?_;simp only[go_sem,aP,gt_iff_lt,undef])
  |(with_reducible refine dO (f:=wO) ?_;refine aU (aB _) rfl (aAu o) rfl ?_;simp only[go_sem,aP,gt_iff_lt,undef])
  |(with_reducible refine dO (f:=Bn) ?_;refine aU (aB _) rfl (aFn o g) rfl ?_;simp only[go_sem,aP,gt_iff_lt,undef])
  |(with_reducible refine dO (f:=DZ) ?_;refine aU (aB _) rfl (aHW o g) rfl ?_;simp only[go_sem,aP,gt_iff_lt,undef]))
 all_goals try (simp only[decide_eq_true_eq,decide_eq_false_iff_not]at *;simp[jB, *];done)
 rename_i h1 h2 h3 B z;have y:=h;clear h;simp only[decide_eq_false_iff_not]at h1 h2;have c:jB o=if nT Id.lt o.Past=false then 6 else if nT (λa b:Int=>decide (a<b)) o.Guards=false then 6 else if decide (o.Past.length=0)≠decide (o.Kind=1) then 10 else 0:=by grind[jB]
 refine aQ (o.Past.length-1) (λi=>⟨0,[(1,.ptr 0 0),(3,iv ((i+1:Nat):Int))],[some (.box o.A)]⟩) (λi=>∀j(d:j+1<o.Past.length),j<i->o.Past[j].lt o.Past[j+1]=true) ?_ ar ?_ ?_;simp only[go_sem];intro i t e;have p:(o.Past.map Id.A)[i]?=some o.Past[i].A:=aO _ o.Past i o_;have m:(o.Past.map Id.A)[i+1]?=some o.Past[i+1].A:=aO _ o.Past (i+1) o_;simp only[go_sem,aP,aT (o_:i+1<o.Past.length),p,m,F3 (o_:i<2^63-1)];apply cX (OD o.Past[i] o.Past[i+1]);simp only[go_sem];refine aL (λh=>?_) (λh=>?_)<;>simp only[go_sem,pC (o_:i+1<2^63-1)];rw[c,if_pos (Y1 (o_:i+1<o.Past.length) x_)];grind;intro e;have l:nT Id.lt o.Past=true:=Co.2 λj d=>e j d o_;rw[if_neg (by simp[l])]at c;simp only[go_sem,aP,aS (o_:¬(o.Past.length-1+1<o.Past.length))];clear e;refine aQ (o.Guards.length-1) (λi=>⟨0,[(1,.ptr 0 0),(4,iv ((i+1:Nat):Int))],[some (.box o.A)]⟩) (λi=>∀j(d:j+1<o.Guards.length),j<i->decide (o.Guards[j]<o.Guards[j+1])=true) ?_ ar ?_ ?_;simp only[go_sem];intro i t e;have p:(o.Guards.map λn=>[iv n])[i]?=some [iv o.Guards[i]]:=aO _ o.Guards i o_;have m:(o.Guards.map λn=>[iv n])[i+1]?=some [iv o.Guards[i+1]]:=aO _ o.Guards (i+1) o_;simp only[go_sem,aP,aT (o_:i+1<o.Guards.length),p,m,F3 (o_:i<2^63-1)];refine aL (λh=>?_) (λh=>?_)<;>simp only[go_sem,pC (o_:i+1<2^63-1)];rw[c,if_pos (Y1 (o_:i+1<o.Guards.length) (by simp at h⊢;omega))];grind;intro e;have k:nT (λa b:Int=>decide (a<b)) o.Guards=true:=Co.2 λj d=>e j d o_;rw[if_neg (by simp[k])]at c;simp only[go_sem,aP,aS (o_:¬(o.Guards.length-1+1<o.Guards.length))];rw[c];have q:((o.Past.length:Int)==0)=decide (o.Past.length=0):=m_;have s:(o.Kind==1)=decide (o.Kind=1):=rfl;rw[q,s];generalize decide (o.Past.length=0)=a;generalize decide (o.Kind=1)=b;cases a<;>cases b<;>simp only[go_sem]<;>rfl
def aFK(l:D_)(x:Id)(d:l.length<=1000000):aA PQ G gB [ids l,.ag x.A] [] λr T=>(∃n:Int,r=iv n/\decide (n>=0)=decide (x∈l))/\T=[]:=by
 apply aC rB;simp only[go_sem,aP,Id.A_def];refine aQ l.length (λi=>⟨0,[(0,ids l),(3,.ptr 0 0),(7,iv l.length),(8,iv i)],[some (.box x.A)]⟩) (λi=>x∉l.take i) ?_ s_ ?_ ?_;rfl;intro i a b;simp only[go_sem,aT a,aO Id.A l i a,Id.A_def];refine aL (λh=>?_) (λh=>?_)<;>simp only[go_sem,fQ i o_];simp_all;refine⟨rfl,?_⟩;have h1:x≠l[i]:=x_;intro c;rw[lB a]at c;grind;intro b;rw[dE]at b;simp only[go_sem,aS (bP _)];simp_all
def Dx(l:D_)(x:Id)(b:l.length<=1000000):aA PQ G bJ [ids l,.ag x.A] [] λr T=>r=.v (.bool (decide (x∈l)))/\T=[]:=by refine aC pI ?_;simp only[go_sem,Id.A_def];apply Jo (aFK l x b);rintro r c ⟨⟨n,rfl,a⟩,rfl⟩;simp only[go_sem,a]
def Id.A_zero:[AV.v (.int .i64 0),AV.v (.int .i64 0),AV.v (.int .u64 0)]=Id.A ⟨0,0,0⟩:=rfl
def MO(a:D_)(b:a.length<=1000000):aA PQ G bF [ids a] [] λr T=>r=.own 0/\T=[some (.arr 3 (a.map Id.A))]:=by
 apply aC rA
 cases a with
 |nil=>simp only[go_sem,ids,(d_:0<=maxLen)]|cons x a=>
  have d:(a.length+1)*24<=140737488355328:=by simp at b;omega
  have c:a.length+1<=maxLen:=by simp at b;unfold maxLen;omega
  simp only[go_sem,ids,aP,d,c]
theorem W9(l:D_):(sQ l).length=l.length:=(H4 l _).length_eq
def rE(es:N_)(h:es.length<=1000000):aA PQ G cT [.ls 5 es] [] λr T=>r=.own 0/\T=[some (.arr 5 es)]:=by
 apply aC sK
 cases es with
 |nil=>simp only[go_sem,(d_:0<=maxLen)]|cons x a=>
  have c:(a.length+1)*40<=140737488355328:=d9;have b:a.length+1<=maxLen:=P_;simp only[go_sem,c,b]
def BB(es:N_)(h:es.length<=1000000):aA PQ G cT [.ls 5 es] [] λr T=>r=.ls 5 es/\T=[]:=by refine(rE es h).fin [0] ?_;rintro r a ⟨rfl,rfl⟩;simp only[go_sem,gQ]
def Hf(es:N_)(h:es.length<=1000000):aA PQ G fO [.ls 1 es] [] λr T=>r=.own 0/\T=[some (.arr 1 es)]:=by
 apply aC yT
 cases es with
 |nil=>simp only[go_sem,(d_:0<=maxLen)]|cons x a=>
  have c:(a.length+1)*1<=140737488355328:=d9;have b:a.length+1<=maxLen:=P_;simp only[go_sem,c,b]
def BC(es:N_)(h:es.length<=1000000):aA PQ G fO [.ls 1 es] [] λr T=>r=.ls 1 es/\T=[]:=by refine(Hf es h).fin [0] ?_;rintro r a ⟨rfl,rfl⟩;simp only[go_sem,gQ]
def J8(es:N_)(h:es.length<=1000000):aA PQ G eU [.ls 1 es] [] λr T=>r=.own 0/\T=[some (.arr 1 es)]:=by
 apply aC Au
 cases es with
 |nil=>simp only[go_sem,(d_:0<=maxLen)]|cons x a=>
  have c:(a.length+1)*8<=140737488355328:=d9;have b:a.length+1<=maxLen:=P_;simp only[go_sem,c,b]
def Ct(es:N_)(h:es.length<=1000000):aA PQ G eU [.ls 1 es] [] λr T=>r=.ls 1 es/\T=[]:=by refine(J8 es h).fin [0] ?_;rintro r a ⟨rfl,rfl⟩;simp only[go_sem,gQ]
def CO(es:N_)(h:es.length<=1000000):aA PQ G dC [.ls 4 es] [] λr T=>r=.own 0/\T=[some (.arr 4 es)]:=by
 apply aC uB
 cases es with
 |nil=>simp only[go_sem,(d_:0<=maxLen)]|cons x a=>
  have c:(a.length+1)*32<=140737488355328:=d9;have b:a.length+1<=maxLen:=P_;simp only[go_sem,c,b]
def tJ(es:N_)(h:es.length<=1000000):aA PQ G dC [.ls 4 es] [] λr T=>r=.ls 4 es/\T=[]:=by refine(CO es h).fin [0] ?_;rintro r a ⟨rfl,rfl⟩;simp only[go_sem,gQ]
def Dy(es:N_)(h:es.length<=1000000):aA PQ G fU [.ls 1 es] [] λr T=>r=.own 0/\T=[some (.arr 1 es)]:=by
 apply aC vG
 cases es with
 |nil=>simp only[go_sem,(d_:0<=maxLen)]|cons x a=>
  have c:(a.length+1)*8<=140737488355328:=d9;have b:a.length+1<=maxLen:=P_;simp only[go_sem,c,b]
def Dz(es:N_)(h:es.length<=1000000):aA PQ G fU [.ls 1 es] [] λr T=>r=.ls 1 es/\T=[]:=by refine(Dy es h).fin [0] ?_;rintro r a ⟨rfl,rfl⟩;simp only[go_sem,gQ]
def BD(es:N_)(h:es.length<=1000000):aA PQ G gZ [.ls 2 es] [] λr T=>r=.own 0/\T=[some (.arr 2 es)]:=by
 apply aC sL
 cases es with
 |nil=>simp only[go_sem,(d_:0<=maxLen)]|cons x a=>
  have c:(a.length+1)*32<=140737488355328:=d9;have b:a.length+1<=maxLen:=P_;simp only[go_sem,c,b]
def wJ(es:N_)(h:es.length<=1000000):aA PQ G fJ [.ls 4 es] [] λr T=>r=.own 0/\T=[some (.arr 4 es)]:=by
 apply aC pU
 cases es with
 |nil=>simp only[go_sem,(d_:0<=maxLen)]|cons x a=>
  have c:(a.length+1)*48<=140737488355328:=d9;have b:a.length+1<=maxLen:=P_;simp only[go_sem,c,b]
def aDu(a:D_)(b:a.length<=1000000):aA PQ G bF [ids a] [] λr T=>r=ids a/\T=[]:=by refine(MO a b).fin [0] ?_;rintro r c ⟨rfl,rfl⟩;simp only[go_sem,gQ]
end Hud
