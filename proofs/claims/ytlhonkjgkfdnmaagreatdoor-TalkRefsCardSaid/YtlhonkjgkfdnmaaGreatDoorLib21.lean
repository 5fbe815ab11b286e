import Derived.Test.YtlhonkjgkfdnmaaGreatDoorLib02
import Derived.Test.YtlhonkjgkfdnmaaGreatDoorLib17
import Derived.Test.YtlhonkjgkfdnmaaGreatDoorLib18
import Derived.Test.YtlhonkjgkfdnmaaGreatDoorLib20
import Derived.WalkKit
import Derived.WalkSpells
import Derived.Deep.RegionLaw
import Derived.Lib.SlicesDelete
import Derived.Lib.SliceRun
import Derived.Shelf.RegionOpenPlain
set_option linter.all false
set_option maxHeartbeats 40000000
namespace Hud
set_option maxRecDepth 99999
open Go
def N1:=eVf (cF oK [])
def SK:=eVf (cF wC [])
def LT:=eVf (cF rO [(2,none,3),(3,none,3),(6,none,3)])
def LU:=eVf (cF zX [])
def FM:=eVf (cF jW [])
def Cl:=eVf (cF qV [])
def Po:=eVf (cF DR [])
end Hud
namespace Hud
open Go
variable{G:L_}
def OD(x y:Id):aA PQ G DR [.ag x.A,.ag y.A] [] λr T=>r=.v (.bool (x.lt y))/\T=[]:=by refine aC Po ?_;simp only[go_sem,Id.A];refine aL (λh=>?_) (λh=>?_)<;>simp only[go_sem];simp_all[Id.lt];refine aL (λh2=>?_) (λh2=>?_)<;>simp only[go_sem]<;>simp_all[Id.lt]
def EF(x:Int):aA PQ G kH [iv x] [] λr T=>r=.v (.bool false)/\T=[]:=by refine aC Aw ?_;simp only[go_sem,bne_self_eq_false]
def Ay(x:Int):aA PQ G oT [.v (.int .u64 x)] [] λr T=>r=.v (.bool false)/\T=[]:=by refine aC EQ ?_;simp only[go_sem,bne_self_eq_false]
def wG(x y:Int):Int:=if x<y then -1 else if y<x then 1 else 0
def kB(x y:Int):aA PQ G jW [iv x,iv y] [] λr T=>r=iv (wG x y)/\T=[]:=by refine aC FM ?_;simp only[go_sem];apply cX (EF x);simp only[go_sem];apply cX (EF y);simp only[go_sem];refine aL (λh=>?_) (λh=>?_)<;>simp only[go_sem];simp_all[wG];refine aL (λh2=>?_) (λh2=>?_)<;>simp only[go_sem]<;>simp_all[wG];omega
def FR(x y:Int):aA PQ G qV [.v (.int .u64 x),.v (.int .u64 y)] [] λr T=>r=iv (wG x y)/\T=[]:=by refine aC Cl ?_;simp only[go_sem];apply cX (Ay x);simp only[go_sem];apply cX (Ay y);simp only[go_sem];refine aL (λh=>?_) (λh=>?_)<;>simp only[go_sem];simp_all[wG];refine aL (λh2=>?_) (λh2=>?_)<;>simp only[go_sem]<;>simp_all[wG];omega
def I1(x:Int):O_:=[iv x]
def aOC(x:Int):I1 x=[iv x]:=rfl
abbrev ints(l:List Int):AV:=.ls 1 (l.map I1)
def pX(n m:Int):Int:=(if n<0 then -(n+1) else n)%m
def nF:B_->Int|[]=>0|x::r=>if x=0 then nF r else x
def Iv{l:B_}{i:Nat}(h:∀j,j<i->l.getD j 0=0)(c:i<l.length)(b:l[i]≠0):nF l=l[i]:=by
 induction l generalizing i with
 |nil=>simp at c| cons a l ih=>
  cases i with
  |zero=>simp only[List.getElem_cons_zero]at b⊢;simp[nF,b]|succ i=>
   have h0:a=0:=by simpa using h 0 o_
   grind[nF]
def Iw{l:B_}(h:∀j,j<l.length->l.getD j 0=0):nF l=0:=by
 induction l with
 |nil=>rfl|cons a l ih=>
  have h0:a=0:=by simpa using h 0 s_
  simp only[nF,h0,if_true];exact ih λj b=>by simpa using h (j+1) T_
theorem aHT{x y:Int}:wG x y=0↔x=y:=by grind[wG]
theorem aCX{x y:Int}:wG x y<0↔x<y:=by grind[wG]
def aHU(x y:Id):decide (nF [wG x.a y.a,wG x.b y.b,wG x.c y.c]<0)=x.lt y:=by rw[CT];grind[nF,Id.lt,aHT,aCX]
def AC(l:B_)(c:l.length<=maxLen):aA PQ G zX [ints l] [] λr T=>r=iv (nF l)/\T=[]:=by refine aC LU ?_;unfold maxLen at c;simp only[go_sem,aP];refine aQ l.length (λi=>⟨0,[(3,iv 0),(6,ints l),(7,iv l.length),(8,iv i)],[]⟩) (λi=>∀j,j<i->l.getD j 0=0) ?_ s_ ?_ ?_;rfl;intro i b a;simp only[go_sem,aT b,aO I1 l i b,aOC];refine aL (λh=>?_) (λh=>?_)<;>simp only[go_sem,fQ i o_];rw[Iv a b w_];grind;intro a;simp only[go_sem,aS (bP _),Iw a]
def Cm(x y:Id):aA PQ G wC [.ag x.A,.ag y.A] [] λr T=>r=.v (.bool (x.lt y))/\T=[]:=by refine aC SK ?_;simp only[go_sem,Id.A];apply cX (kB x.a y.a);simp only[go_sem];apply cX (kB x.b y.b);simp only[go_sem];apply cX (FR x.c y.c);simp only[go_sem];apply iJ (aB _) rfl rfl (AC [wG x.a y.a,wG x.b y.b,wG x.c y.c] (by simp[maxLen]));simp only[go_sem];rw[aHU]
def Dl(n m:Int)(h1:-9223372036854775808<=n)(h2:n<=2^63-1)(h3:1<=m)(c:m<=2^63-1):
 aA PQ G uV [iv n,iv m] [] λr T=>r=iv (pX n m)/\T=[]:=by
 apply aC LV;have a:¬m=0:=o_;simp only[go_sem];refine aL (λh=>?_) (λh=>?_)<;>simp only[go_sem,a];have b:n<0:=w_;rw[aJ (n:=n+1) o_ o_,aJ o_ o_];grind[pX,Int.zero_sub];grind[pX]
def uJ(l:D_)(x:Id)(d:l.length<=maxLen):aA PQ G oK [ids l,.ag x.A] [] λr T=>r=.v (.bool (decide (x∈l)))/\T=[]:=by
 apply aC N1;unfold maxLen at d;simp only[go_sem,Id.A_def];refine aQ l.length (λi=>⟨0,[(0,ids l),(3,.ptr 0 0),(5,iv i)],[some (.box x.A)]⟩) (λi=>x∉l.take i) ?_ s_ ?_ ?_;rfl;intro i b a;simp only[go_sem,aP,aT b,aO Id.A l i b,Id.A_def];refine aL (λh=>?_) (λh=>?_)<;>simp only[go_sem,fQ i o_];grind;refine⟨rfl,?_⟩;have:l[i]≠x:=w_;intro c;rw[lB b]at c;grind;intro a;rw[dE]at a;simp only[go_sem,aP,aS (bP _),a]
def Ha(x:Id)(out:D_):Nat->Nat|0=>0|n+1=>match out[n]? with|some y=>if x.lt y then Ha x out n else n+1|none=>n+1
def Ps(out:D_)(x:Id):D_:=out.take (Ha x out out.length)++[x]++out.drop (Ha x out out.length)
def jI(l:D_):D_:=l.foldl Ps []
def Yz(x:Id)(out:D_):∀n,Ha x out n<=n|0=>cN _| n+1=>by simp only[Ha];split;split;have:=Yz x out n;omega;omega;omega
def aCY(out:D_)(x:Id):(Ps out x).length=out.length+1:=by grind[Ps,List.length_append,List.length_take,List.length_drop,List.length_cons,List.length_nil]
def aAt(l:D_):∀out,(l.foldl Ps out).length=out.length+l.length:=by
 induction l with
 |nil=>simp|cons x l ih=>intro out;simp only[CW,ih,aCY,sE];omega
def Qn(l:D_):(jI l).length=l.length:=by simp[jI,aAt]
def Wh(l:D_)(i:Nat)(h:i<l.length):jI (l.take (i+1))=Ps (jI (l.take i)) l[i]:=by rw[lB h,jI,Hy];rfl
def AD (l:D_) (j:l.length<=1000000000):aA PQ G rO [ids l] [] λr T=>r=.own 0/\T=[some (.arr 3 ((jI l).map Id.A))]:=by
 apply aC LT;simp only[go_sem];refine aQ l.length (λi=>⟨0,[(0,ids l),(3,.own 0),(4,iv i)],[some (.arr 3 ((jI (l.take i)).map Id.A))]⟩) (λ_=>True) ?_ trivial ?_ ?_;rfl;intro i b _;simp only[go_sem,aP,aT b];have g:=Qn (l.take i);rw[eC]at g;have c:=Yz l[i] (jI (l.take i)) (jI (l.take i)).length;refine jG (λs=>s=⟨0,[(0,ids l),(3,.own 0),(4,iv i),(5,iv (Ha l[i] (jI (l.take i)) (jI (l.take i)).length:Nat))],[some (.arr 3 ((jI (l.take i)).map Id.A))]⟩) ?_ ?_;refine aFb (jI (l.take i)).length (λk=>⟨0,[(0,ids l),(3,.own 0),(4,iv i),(5,iv k)],[some (.arr 3 ((jI (l.take i)).map Id.A))]⟩) (λk=>Ha l[i] (jI (l.take i)) (jI (l.take i)).length=Ha l[i] (jI (l.take i)) k) ?_ rfl ?_ ?_;simp only[go_sem];intro k d e;have a:=aO Id.A (jI (l.take i)) k d;simp only[go_sem,aP,aO Id.A l i b,F3 (o_:k<2^63-1),d,a,Id.A_def];apply cX (OD l[i] (jI (l.take i))[k]);simp only[go_sem];refine aL (λh=>?_) (λh=>?_)<;>simp only[go_sem,F3 (o_:k<2^63-1)];grind[Ha];grind[Ha];intro e;simp only[go_sem,e,Ha];rintro s rfl;generalize f:Ha l[i] (jI (l.take i)) (jI (l.take i)).length=p at c
 simp only[go_sem,aP,eC,vY,dZ,Kj c,c,QO,pQ,pR,aO Id.A l i b,Id.A_def,(o_:p*24<=140737488355328),(g_:p<=maxLen),(o_:(p+1)*24<=140737488355328),(g_:p+1<=maxLen),
  (o_:p+((jI (l.take i)).length-p)=(jI (l.take i)).length),fQ i o_,
  (o_:(p+1+((jI (l.take i)).length-p))*24<=140737488355328),(g_:p+1+((jI (l.take i)).length-p)<=maxLen),cN,eB]
 rw[Wh l i b,Ps,f];simp only[bZ,QN,aC0,fG,Id.A_def,eB,jC,dM];intro _;simp only[go_sem,aP,aS (bP _),dE]
def Id.K(x:Id):C_:=[.int .i64 x.a,.int .i64 x.b,.int .u64 x.c]
def sQ(l:D_):D_:=l.mergeSort (λx y=>!(y.lt x))
def Wi(x y:Id):Int:=if x.lt y then -1 else if y.lt x then 1 else 0
def EG{α:Type}{p:α->Bool}{l:List α}{i:Nat}(a:i<l.length)(h:p l[i]=false):l.all p=false:=m_
def Bu{α:Type}{p:α->Bool}{l:List α}(h:∀j(a:j<l.length),j<l.length->p l[j]=true):l.all p=true:=by rw[oD];intro x b;obtain⟨j,a,rfl⟩:=CU b;exact h j a a
def vH{α:Type}{p:α->Bool}{l:List α}{i:Nat}(c:i<l.length)(d:∀j(a:j<l.length),j<i->p l[j]=true)(h:p l[i]=true):∀j(a:j<l.length),j<i+1->p l[j]=true:=λj a b=>m_
def aAu(o:OpM):aA PQ G wO [.ag o.A] [] λr T=>r=.v (.bool (fP o))/\T=[]:=by
 apply aC Jr;simp only[go_sem]
 repeat' (first
  |((with_reducible refine aL (λh=>?_) (λh=>?_))<;>(try simp only[vP,lI,sF]at h)<;>simp only[go_sem,aP,h,undef])
  |(with_reducible refine dO (f:=dP) ?_;refine aU (aB _) rfl (FF _ _ _) rfl ?_;simp only[go_sem,aP,undef])|(with_reducible refine dO (f:=jT) ?_;refine aU (aB _) rfl (FG _) rfl ?_;simp only[go_sem,aP,undef])|(with_reducible refine dO (f:=kQ) ?_;refine aU (aB _) rfl (Dh _) rfl ?_;simp only[go_sem,aP,undef]))
 all_goals simp_all[fP]
def Y0(l:List BoxM)(e:l.length<2^63-1):aA PQ G xW [F5 l] [] λr T=>r=.v (.bool (l.all wA))/\T=[]:=by
 apply aC Nk;simp only[go_sem];refine aQ l.length (λi=>⟨0,[(0,F5 l),(3,iv i)],[]⟩) (λi=>∀j(d:j<l.length),j<i->wA l[j]=true) ?_ ar ?_ ?_;simp only[go_sem]
 ·intro i a c;have b:(l.map BoxM.A)[i]?=some [uv l[i].To,uv l[i].Eph,uv l[i].Body,uv l[i].Tag]:=aO _ l i a;simp only[go_sem,aP,aT a,b]
  repeat' (first
   |((with_reducible refine aL (λh=>?_) (λh=>?_))<;>(try simp only[vP,lI,sF]at h)<;>simp only[go_sem,aP,a,b,fQ i o_,h,undef])
   |(with_reducible refine dO (f:=kQ) ?_;refine aU (aB _) rfl (Dh _) rfl ?_;simp only[go_sem,aP,a,b,fQ i o_,undef])|(with_reducible refine dO (f:=xV) ?_;refine aU (aB _) rfl (Nt _) rfl ?_;simp only[go_sem,aP,a,b,fQ i o_,undef]))
  all_goals first
   |exact vH a c (by clear c b;generalize l[i]=x at *;simp_all[wA])|rw[EG a (by clear c b;generalize l[i]=x at *;simp_all[wA])]
 intro c;simp only[go_sem,aP,aS (bP _),Bu c]
def aFn(o:OpM)(q:o.ok):aA PQ G Bn [.ag o.A] [] λr T=>r=.v (.bool (uA o))/\T=[]:=by
 apply aC Ni;have F:=q.guards.1;have E:=q.refs.1;have D:=q.past.1;have C:=q.path.1;have B:=q.hist.1;have z:=q.boxes.1;simp only[go_sem];refine aQ o.Guards.length (λi=>⟨0,[(1,.ptr 0 0),(3,iv i)],[some (.box o.A)]⟩) (λi=>∀j(m:j<o.Guards.length),j<i->yS o.Guards[j]=true) ?_ au ?_ ?_;simp only[go_sem]
 ·intro i d g;have k:(o.Guards.map λn=>[iv n])[i]?=some [iv o.Guards[i]]:=aO _ o.Guards i d;have l:o.Guards.length<(2^63-1):=o_;simp only[go_sem,aP,aT d,k]
  repeat' (first
   |((with_reducible refine aL (λh=>?_) (λh=>?_))<;>(try simp only[vP,lI,sF]at h)<;>simp only[go_sem,aP,d,k,fQ i o_,h,undef])
   |(with_reducible refine dO (f:=dP) ?_;refine aU (aB _) rfl (FF _ _ _) rfl ?_;simp only[go_sem,aP,d,k,fQ i o_,undef]))
  all_goals first
   |exact vH d g (by clear g k;generalize o.Guards[i]=x at *;simp_all[yS])|(have e:=EG (p:=yS) d (by clear g k;generalize o.Guards[i]=x at *;simp_all[yS]);simp[uA,e])
 intro g;simp only[go_sem,aP,aS (bP _)];have h3:=Bu g;clear g;refine aQ o.Refs.length (λi=>⟨0,[(1,.ptr 0 0),(4,iv i)],[some (.box o.A)]⟩) (λi=>∀j(m:j<o.Refs.length),j<i->SF o.Refs[j]=true) ?_ au ?_ ?_;simp only[go_sem]
 ·intro i d g;have k:(ul o.Refs)[i]?=some [uv o.Refs[i]]:=aO _ o.Refs i d;have l:o.Refs.length<(2^63-1):=o_;simp only[go_sem,aP,aT d,k]
  repeat' (first
   |((with_reducible refine aL (λh=>?_) (λh=>?_))<;>(try simp only[vP,lI,sF]at h)<;>simp only[go_sem,aP,d,k,fQ i o_,h,undef])
   |(with_reducible refine dO (f:=xV) ?_;refine aU (aB _) rfl (Nt _) rfl ?_;simp only[go_sem,aP,d,k,fQ i o_,undef]))
  all_goals first
   |exact vH d g (by clear g k;generalize o.Refs[i]=x at *;simp_all[SF])|(have e:=EG (p:=SF) d (by clear g k;generalize o.Refs[i]=x at *;simp_all[SF]);simp[uA,e])
 intro g;simp only[go_sem,aP,aS (bP _)];have y:=Bu g;clear g;refine aQ o.Past.length (λi=>⟨0,[(1,.ptr 0 0),(5,iv i)],[some (.box o.A)]⟩) (λi=>∀j(m:j<o.Past.length),j<i->jP o.Past[j]=true) ?_ au ?_ ?_;simp only[go_sem]
 ·intro i d g;have k:(o.Past.map Id.A)[i]?=some o.Past[i].A:=aO _ o.Past i d;have l:o.Past.length<(2^63-1):=o_;simp only[go_sem,aP,aT d,k]
  repeat' (first
   |((with_reducible refine aL (λh=>?_) (λh=>?_))<;>(try simp only[vP,lI,sF]at h)<;>simp only[go_sem,aP,d,k,fQ i o_,h,undef])
   |(with_reducible refine dO (f:=jT) ?_;refine aU (aB _) rfl (FG _) rfl ?_;simp only[go_sem,aP,d,k,fQ i o_,undef]))
  all_goals first
   |exact vH d g (by clear g k;generalize o.Past[i]=x at *;simp_all[jP])|(have e:=EG (p:=jP) d (by clear g k;generalize o.Past[i]=x at *;simp_all[jP]);simp[uA,e])
 intro g;simp only[go_sem,aP,aS (bP _)];have w:=Bu g;clear g;refine aQ o.Path.length (λi=>⟨0,[(1,.ptr 0 0),(6,iv i)],[some (.box o.A)]⟩) (λi=>∀j(m:j<o.Path.length),j<i->FI o.Path[j]=true) ?_ au ?_ ?_;simp only[go_sem]
 ·intro i d g;have k:(o.Path.map NodeM.A)[i]?=some [uv o.Path[i].Pub,F5 o.Path[i].Boxes]:=aO _ o.Path i d;have l:o.Path.length<(2^63-1):=o_;have s:o.Path[i].Boxes.length<(2^63-1):=by have:=(q.path.2 _ (eQ d)).2.1;omega
  simp only[go_sem,aP,aT d,k]
  repeat' (first
   |((with_reducible refine aL (λh=>?_) (λh=>?_))<;>(try simp only[vP,lI,sF]at h)<;>simp only[go_sem,aP,d,k,fQ i o_,h,undef])
   |(with_reducible refine dO (f:=kQ) ?_;refine aU (aB _) rfl (Dh _) rfl ?_;simp only[go_sem,aP,d,k,fQ i o_,undef])|(with_reducible refine dO (f:=xW) ?_;refine aU (aB _) rfl (Y0 _ s) rfl ?_;simp only[go_sem,aP,d,k,fQ i o_,undef]))
  all_goals first
   |exact vH d g (by clear g k;generalize o.Path[i]=x at *;simp_all[FI])|(have e:=EG (p:=FI) d (by clear g k;generalize o.Path[i]=x at *;simp_all[FI]);simp[uA,e])
 intro g;simp only[go_sem,aP,aS (bP _)];have u:=Bu g;clear g;refine aQ o.Hist.length (λi=>⟨0,[(1,.ptr 0 0),(7,iv i)],[some (.box o.A)]⟩) (λi=>∀j(m:j<o.Hist.length),j<i->FJ o.Hist[j]=true) ?_ au ?_ ?_;simp only[go_sem]
 ·intro i d g;have k:(o.Hist.map SealM.A)[i]?=some [.v (.int .i64 o.Hist[i].Of.a),.v (.int .i64 o.Hist[i].Of.b),.v (.int .u64 o.Hist[i].Of.c),.ls 1 (bl o.Hist[i].Body)]:=aO _ o.Hist i d;have l:o.Hist.length<(2^63-1):=o_;simp only[go_sem,aP,aT d,k]
  repeat' (first
   |((with_reducible refine aL (λh=>?_) (λh=>?_))<;>(try simp only[vP,lI,sF]at h)<;>simp only[go_sem,aP,d,k,fQ i o_,h,undef])
   |(with_reducible refine dO (f:=jT) ?_;refine aU (aB _) rfl (FG o.Hist[i].Of) rfl ?_;simp only[go_sem,aP,d,k,fQ i o_,undef]))
  all_goals first
   |exact vH d g (by clear g k;generalize o.Hist[i]=x at *;simp_all[FJ])|(have e:=EG (p:=FJ) d (by clear g k;generalize o.Hist[i]=x at *;simp_all[FJ]);simp[uA,e])
 intro g;simp only[go_sem,aP,aS (bP _)];have t:=Bu g;clear g;apply cX (Y0 o.Boxes o_);simp only[go_sem,uA,h3,y,w,u,t,mF]
def Co{α:Type}{a:α->α->Bool}:∀{l:List α},nT a l=true↔∀j(h:j+1<l.length),a l[j] l[j+1]=true|[]=>by simp[nT]|[x]=>by simp[nT]|x::y::l=>by simp only[nT,zJ,Co (l:=y::l)];constructor;grind;intro h;exact⟨h 0 s_,λj b=>h (j+1) T_⟩
def Y1{α:Type}{a:α->α->Bool}{l:List α}{i:Nat}(b:i+1<l.length)(h:a l[i] l[i+1]=false):nT a l=false:=by
 cases e:nT a l with
 |false=>rfl|true=>have:=Co.1 e i b;rw[h]at this;simp at this
def aHW(o:OpM)(m:o.ok):aA PQ G DZ [.ag o.A] [] λr T=>r=.v (.bool (ED o))/\T=[]:=by
 apply aC Pg;have s:=m.path.1;have q:=m.hist.1;simp only[go_sem];refine aQ o.Path.length (λi=>⟨0,[(1,.ptr 0 0),(3,iv i)],[some (.box o.A)]⟩) (λi=>∀j(l:j<o.Path.length),j<i->(λn:NodeM=>decide ((n.Boxes.length:Int)<=12)) o.Path[j]=true) ?_ (by intro j l h;omega) ?_ ?_;simp only[go_sem]
 ·intro i g d;have k:(o.Path.map NodeM.A)[i]?=some [uv o.Path[i].Pub,F5 o.Path[i].Boxes]:=aO _ o.Path i g;simp only[go_sem,aP,aT g,k]
  repeat' (first
   |((with_reducible refine aL (λh=>?_) (λh=>?_))<;>(try simp only[vP,lI,sF]at h)<;>simp only[go_sem,aP,g,k,fQ i o_,h,undef]))
  all_goals first
   |(refine vH (p:=λn:NodeM=>decide ((n.Boxes.length:Int)<=12)) g d ?_;clear d k;generalize o.Path[i]=x at *;simp at *;omega)|(have e:=EG (p:=λn:NodeM=>decide ((n.Boxes.length:Int)<=12)) g (by clear d k;generalize o.Path[i]=x at *;simp at *;omega);simp only[ED,e,sF,Ed,EI])
 intro d;have h3:=Bu (p:=λn:NodeM=>decide ((n.Boxes.length:Int)<=12)) d;clear d;simp only[go_sem,aP,aS (bP _)];refine aQ o.Hist.length (λi=>⟨0,[(1,.ptr 0 0),(4,iv i)],[some (.box o.A)]⟩) (λi=>∀j(l:j<o.Hist.length),j<i->(λx:SealM=>decide ((x.Body.length:Int)<=208)) o.Hist[j]=true) ?_ (by intro j l h;omega) ?_ ?_;simp only[go_sem]
 ·intro i g d;have k:(o.Hist.map SealM.A)[i]?=some [.v (.int .i64 o.Hist[i].Of.a),.v (.int .i64 o.Hist[i].Of.b),.v (.int .u64 o.Hist[i].Of.c),.ls 1 (bl o.Hist[i].Body)]:=aO _ o.Hist i g;simp only[go_sem,aP,aT g,k]
  repeat' (first
   |((with_reducible refine aL (λh=>?_) (λh=>?_))<;>(try simp only[vP,lI,sF]at h)<;>simp only[go_sem,aP,g,k,fQ i o_,h,undef]))
  all_goals first
   |(refine vH (p:=λx:SealM=>decide ((x.Body.length:Int)<=208)) g d ?_;clear d k;generalize o.Hist[i]=x at *;simp at *;omega)|(have e:=EG (p:=λx:SealM=>decide ((x.Body.length:Int)<=208)) g (by clear d k;generalize o.Hist[i]=x at *;simp at *;omega);simp only[ED,e,sF,Ed,EI])
 intro d;have t:=Bu (p:=λx:SealM=>decide ((x.Body.length:Int)<=208)) d;clear d;simp only[go_sem,aP,aS (bP _)]
 repeat' (first
  |((with_reducible refine aL (λh=>?_) (λh=>?_))<;>(try simp only[vP,lI,sF]at h)<;>simp only[go_sem,aP,h,undef])
  |(with_reducible refine dO (f:=dP) ?_;refine aU (aB _) rfl (FF _ _ _) rfl ?_;simp only[go_sem,aP,undef]))
 all_goals simp only[ED, *,lI,Ed,EI,EB,EH,if_true,if_false,jJ]
def aFq(o:OpM)(g:o.ok):aA PQ G E3 [.ag o.A] [] λr T=>r=.v (.int .i64 (jB o))/\T=[]:=by
 apply aC Ng;have x:=g.past.1;have w:=g.guards.1;have u:∀{a b:Int},a=b->AV.v (.int .i64 a)=.v (.int .i64 b):=λh=>by rw[h]
 simp only[go_sem]
 repeat' (first
  |((with_reducible refine aL (λh=>?_) (λh=>?_))<;>(try simp only[vP,lI,sF]at h)<;>simp only[go_sem,aP,gt_iff_lt,h,undef])
  |(with_reducible refine dO (f:=DY) ?_;refine aU (aB _) rfl (aHL o) rfl ?_;simp only[go_sem,aP,gt_iff_lt,undef])
  |(with_reducible refine dO (f:=wO) ?_;refine aU (aB _) rfl (aAu o) rfl ?_;simp only[go_sem,aP,gt_iff_lt,undef])
  |(with_reducible refine dO (f:=Bn) ?_;refine aU (aB _) rfl (aFn o g) rfl ?_;simp only[go_sem,aP,gt_iff_lt,undef])
  |(with_reducible refine dO (f:=DZ) ?_;refine aU (aB _) rfl (aHW o g) rfl ?_;simp only[go_sem,aP,gt_iff_lt,undef]))
 all_goals try (simp only[decide_eq_true_eq,decide_eq_false_iff_not]at *;simp[jB, *];done)
 rename_i h1 h2 h3 B z;have y:=h;clear h;simp only[decide_eq_false_iff_not]at h1 h2;have c:jB o=if nT Id.lt o.Past=false then 6 else if nT (λa b:Int=>decide (a<b)) o.Guards=false then 6 else if decide (o.Past.length=0)≠decide (o.Kind=1) then 10 else 0:=by grind[jB]
 refine aQ (o.Past.length-1) (λi=>⟨0,[(1,.ptr 0 0),(3,iv ((i+1:Nat):Int))],[some (.box o.A)]⟩) (λi=>∀j(d:j+1<o.Past.length),j<i->o.Past[j].lt o.Past[j+1]=true) ?_ ar ?_ ?_;simp only[go_sem];intro i t e;have p:(o.Past.map Id.A)[i]?=some o.Past[i].A:=aO _ o.Past i o_;have m:(o.Past.map Id.A)[i+1]?=some o.Past[i+1].A:=aO _ o.Past (i+1) o_;simp only[go_sem,aP,aT (o_:i+1<o.Past.length),p,m,F3 (o_:i<2^63-1)];apply cX (OD o.Past[i] o.Past[i+1]);simp only[go_sem];refine aL (λh=>?_) (λh=>?_)<;>simp only[go_sem,pC (o_:i+1<2^63-1)];rw[c,if_pos (Y1 (o_:i+1<o.Past.length) w_)];grind;intro e;have l:nT Id.lt o.Past=true:=Co.2 λj d=>e j d o_;rw[if_neg (by simp[l])]at c;simp only[go_sem,aP,aS (o_:¬(o.Past.length-1+1<o.Past.length))];clear e;refine aQ (o.Guards.length-1) (λi=>⟨0,[(1,.ptr 0 0),(4,iv ((i+1:Nat):Int))],[some (.box o.A)]⟩) (λi=>∀j(d:j+1<o.Guards.length),j<i->decide (o.Guards[j]<o.Guards[j+1])=true) ?_ ar ?_ ?_;simp only[go_sem];intro i t e;have p:(o.Guards.map λn=>[iv n])[i]?=some [iv o.Guards[i]]:=aO _ o.Guards i o_;have m:(o.Guards.map λn=>[iv n])[i+1]?=some [iv o.Guards[i+1]]:=aO _ o.Guards (i+1) o_;simp only[go_sem,aP,aT (o_:i+1<o.Guards.length),p,m,F3 (o_:i<2^63-1)];refine aL (λh=>?_) (λh=>?_)<;>simp only[go_sem,pC (o_:i+1<2^63-1)];rw[c,if_pos (Y1 (o_:i+1<o.Guards.length) (by simp at h⊢;omega))];grind;intro e;have k:nT (λa b:Int=>decide (a<b)) o.Guards=true:=Co.2 λj d=>e j d o_;rw[if_neg (by simp[k])]at c;simp only[go_sem,aP,aS (o_:¬(o.Guards.length-1+1<o.Guards.length))];rw[c];have q:((o.Past.length:Int)==0)=decide (o.Past.length=0):=m_;have s:(o.Kind==1)=decide (o.Kind=1):=rfl;rw[q,s];generalize decide (o.Past.length=0)=a;generalize decide (o.Kind=1)=b;cases a<;>cases b<;>simp only[go_sem]<;>rfl
def aFK(l:D_)(x:Id)(d:l.length<=1000000):aA PQ G gB [ids l,.ag x.A] [] λr T=>(∃n:Int,r=iv n/\decide (n>=0)=decide (x∈l))/\T=[]:=by
 apply aC rB;simp only[go_sem,aP,Id.A_def];refine aQ l.length (λi=>⟨0,[(0,ids l),(3,.ptr 0 0),(7,iv l.length),(8,iv i)],[some (.box x.A)]⟩) (λi=>x∉l.take i) ?_ s_ ?_ ?_;rfl;intro i a b;simp only[go_sem,aT a,aO Id.A l i a,Id.A_def];refine aL (λh=>?_) (λh=>?_)<;>simp only[go_sem,fQ i o_];simp_all;refine⟨rfl,?_⟩;have h1:x≠l[i]:=w_;intro c;rw[lB a]at c;grind;intro b;rw[dE]at b;simp only[go_sem,aS (bP _)];simp_all
def Dx(l:D_)(x:Id)(b:l.length<=1000000):aA PQ G bJ [ids l,.ag x.A] [] λr T=>r=.v (.bool (decide (x∈l)))/\T=[]:=by refine aC pI ?_;simp only[go_sem,Id.A_def];apply Jo (aFK l x b);rintro r c ⟨⟨n,rfl,a⟩,rfl⟩;simp only[go_sem,a]
def Id.A_zero:[AV.v (.int .i64 0),AV.v (.int .i64 0),AV.v (.int .u64 0)]=Id.A ⟨0,0,0⟩:=rfl
def MO(a:D_)(b:a.length<=1000000):aA PQ G bF [ids a] [] λr T=>r=.own 0/\T=[some (.arr 3 (a.map Id.A))]:=by
 apply aC rA
 cases a with
 |nil=>simp only[go_sem,ids,(d_:0<=maxLen)]|cons x a=>
  have d:(a.length+1)*24<=140737488355328:=by simp at b;omega
  have c:a.length+1<=maxLen:=by simp at b;unfold maxLen;omega
  simp only[go_sem,ids,aP,d,c]
theorem W9(l:D_):(sQ l).length=l.length:=(H4 l _).length_eq
def rE(es:N_)(h:es.length<=1000000):aA PQ G cT [.ls 5 es] [] λr T=>r=.own 0/\T=[some (.arr 5 es)]:=by
 apply aC sK
 cases es with
 |nil=>simp only[go_sem,(d_:0<=maxLen)]|cons x a=>
  have c:(a.length+1)*40<=140737488355328:=sk;have b:a.length+1<=maxLen:=I_;simp only[go_sem,c,b]
def BB(es:N_)(h:es.length<=1000000):aA PQ G cT [.ls 5 es] [] λr T=>r=.ls 5 es/\T=[]:=by refine(rE es h).fin [0] ?_;rintro r a ⟨rfl,rfl⟩;simp only[go_sem,gQ]
def Hf(es:N_)(h:es.length<=1000000):aA PQ G fO [.ls 1 es] [] λr T=>r=.own 0/\T=[some (.arr 1 es)]:=by
 apply aC yT
 cases es with
 |nil=>simp only[go_sem,(d_:0<=maxLen)]|cons x a=>
  have c:(a.length+1)*1<=140737488355328:=sk;have b:a.length+1<=maxLen:=I_;simp only[go_sem,c,b]
def BC(es:N_)(h:es.length<=1000000):aA PQ G fO [.ls 1 es] [] λr T=>r=.ls 1 es/\T=[]:=by refine(Hf es h).fin [0] ?_;rintro r a ⟨rfl,rfl⟩;simp only[go_sem,gQ]
def J8(es:N_)(h:es.length<=1000000):aA PQ G eU [.ls 1 es] [] λr T=>r=.own 0/\T=[some (.arr 1 es)]:=by
 apply aC Au
 cases es with
 |nil=>simp only[go_sem,(d_:0<=maxLen)]|cons x a=>
  have c:(a.length+1)*8<=140737488355328:=sk;have b:a.length+1<=maxLen:=I_;simp only[go_sem,c,b]
def Ct(es:N_)(h:es.length<=1000000):aA PQ G eU [.ls 1 es] [] λr T=>r=.ls 1 es/\T=[]:=by refine(J8 es h).fin [0] ?_;rintro r a ⟨rfl,rfl⟩;simp only[go_sem,gQ]
def CO(es:N_)(h:es.length<=1000000):aA PQ G dC [.ls 4 es] [] λr T=>r=.own 0/\T=[some (.arr 4 es)]:=by
 apply aC uB
 cases es with
 |nil=>simp only[go_sem,(d_:0<=maxLen)]|cons x a=>
  have c:(a.length+1)*32<=140737488355328:=sk;have b:a.length+1<=maxLen:=I_;simp only[go_sem,c,b]
def tJ(es:N_)(h:es.length<=1000000):aA PQ G dC [.ls 4 es] [] λr T=>r=.ls 4 es/\T=[]:=by refine(CO es h).fin [0] ?_;rintro r a ⟨rfl,rfl⟩;simp only[go_sem,gQ]
def Dy(es:N_)(h:es.length<=1000000):aA PQ G fU [.ls 1 es] [] λr T=>r=.own 0/\T=[some (.arr 1 es)]:=by
 apply aC vG
 cases es with
 |nil=>simp only[go_sem,(d_:0<=maxLen)]|cons x a=>
  have c:(a.length+1)*8<=140737488355328:=sk;have b:a.length+1<=maxLen:=I_;simp only[go_sem,c,b]
def Dz(es:N_)(h:es.length<=1000000):aA PQ G fU [.ls 1 es] [] λr T=>r=.ls 1 es/\T=[]:=by refine(Dy es h).fin [0] ?_;rintro r a ⟨rfl,rfl⟩;simp only[go_sem,gQ]
def BD(es:N_)(h:es.length<=1000000):aA PQ G gZ [.ls 2 es] [] λr T=>r=.own 0/\T=[some (.arr 2 es)]:=by
 apply aC sL
 cases es with
 |nil=>simp only[go_sem,(d_:0<=maxLen)]|cons x a=>
  have c:(a.length+1)*32<=140737488355328:=sk;have b:a.length+1<=maxLen:=I_;simp only[go_sem,c,b]
def wJ(es:N_)(h:es.length<=1000000):aA PQ G fJ [.ls 4 es] [] λr T=>r=.own 0/\T=[some (.arr 4 es)]:=by
 apply aC pU
 cases es with
 |nil=>simp only[go_sem,(d_:0<=maxLen)]|cons x a=>
  have c:(a.length+1)*48<=140737488355328:=sk;have b:a.length+1<=maxLen:=I_;simp only[go_sem,c,b]
def aDu(a:D_)(b:a.length<=1000000):aA PQ G bF [ids a] [] λr T=>r=ids a/\T=[]:=by refine(MO a b).fin [0] ?_;rintro r c ⟨rfl,rfl⟩;simp only[go_sem,gQ]
def CP (o:OpM):aK:=[some (.box [iv o.By,iv o.Seq,iv o.Kind,iv o.At,ids o.Past,iv o.Device,iv o.Old,iv o.Member,iv o.Role,.own 2,
 iv o.Epoch.a,iv o.Epoch.b,.v (.int .u64 o.Epoch.c),iv o.N,.ls 1 (bl o.Body),.ls 1 (ul o.Refs),iv o.Of.a,iv o.Of.b,.v (.int .u64 o.Of.c),rG o.Guards,
 iv o.Need,iv o.Wait,F5 o.Boxes,uv o.Pub,.own 3,uv o.SR,uv o.SS]),some (.box [AV.v (Value.int IntKind.i64 0),AV.v (Value.int IntKind.i64 0),AV.v (Value.int IntKind.i64 0),
        AV.v (Value.int IntKind.i64 0),AV.v (Value.slice none 0 0),AV.v (Value.int IntKind.i64 0),
        AV.v (Value.int IntKind.i64 0),AV.v (Value.int IntKind.i64 0),AV.v (Value.int IntKind.i64 0),
        AV.v (Value.slice none 0 0),AV.v (Value.int IntKind.i64 0),AV.v (Value.int IntKind.i64 0),
        AV.v (Value.int IntKind.u64 0),AV.v (Value.int IntKind.i64 0),AV.v (Value.slice none 0 0),
        AV.v (Value.slice none 0 0),AV.v (Value.int IntKind.i64 0),AV.v (Value.int IntKind.i64 0),
        AV.v (Value.int IntKind.u64 0),AV.v (Value.slice none 0 0),AV.v (Value.int IntKind.i64 0),
        AV.v (Value.int IntKind.i64 0),AV.v (Value.slice none 0 0),AV.v (Value.int IntKind.u64 0),
        AV.v (Value.slice none 0 0),AV.v (Value.int IntKind.u64 0),AV.v (Value.int IntKind.u64 0)]),some (.arr 2 (o.Path.map NodeM.A)),some (.arr 4 (o.Hist.map SealM.A))]
def BE{α a:Type}(f:α->a)(l:List α)(i:Nat)(h:i<l.length):(l.map f).set i (f l[i])=l.map f:=by rw[<-Ba,List.set_getElem_self]
def aDv(o:OpM)(e:o.ok):aA PQ G pO [.ag o.A] [] λr T=>r=.ag [iv o.By,iv o.Seq,iv o.Kind,iv o.At,ids o.Past,iv o.Device,iv o.Old,iv o.Member,iv o.Role,.own 0,
 iv o.Epoch.a,iv o.Epoch.b,.v (.int .u64 o.Epoch.c),iv o.N,.ls 1 (bl o.Body),.ls 1 (ul o.Refs),iv o.Of.a,iv o.Of.b,.v (.int .u64 o.Of.c),rG o.Guards,
 iv o.Need,iv o.Wait,F5 o.Boxes,uv o.Pub,.own 1,uv o.SR,uv o.SS]/\T=[some (.arr 2 (o.Path.map NodeM.A)),some (.arr 4 (o.Hist.map SealM.A))]:=by
 apply aC Jw;have t:=e.past.1;have s:=e.path.1;have q:=e.refs.1;have p:=e.guards.1;have m:=e.boxes.1;have l:=e.hist.1;have k:=e.body.1;simp only[go_sem,OpM.A_def];apply cX (aDu o.Past o_);simp only[go_sem];apply cX (BC (bl o.Body) M_);simp only[go_sem];apply cX (Dz (ul o.Refs) M_);simp only[go_sem];apply cX (Ct (o.Guards.map λn=>[iv n]) M_);simp only[go_sem];apply cX (tJ (o.Boxes.map BoxM.A) M_);simp only[go_sem];apply kM (BD (o.Path.map NodeM.A) M_);simp only[go_sem];apply kM (wJ (o.Hist.map SealM.A) M_);simp only[go_sem,aP];refine aQ o.Path.length (λi=>⟨0,[(1,.ptr 0 0),(2,.ptr 1 0),(35,iv o.Path.length),(36,iv i)],CP o⟩) (λ_=>True) ?_ trivial ?_ ?_;simp only[go_sem,CP];intro i d _;have g:=fQ i o_;have f:(o.Path.map NodeM.A)[i]?=some [uv o.Path[i].Pub,F5 o.Path[i].Boxes]:=aO _ o.Path i d;have h:(o.Path.map NodeM.A).set i [uv o.Path[i].Pub,F5 o.Path[i].Boxes]=o.Path.map NodeM.A:=BE NodeM.A o.Path i d;have j:=(e.path.2 _ (eQ d)).2.1;generalize o.Path[i]=x at *
 simp only[go_sem,CP,aP,aT d,d,f];apply cX (tJ (x.Boxes.map BoxM.A) M_);simp only[go_sem,CP,aP,d,f,h,g];intro _;simp only[go_sem,CP,aP,aS (bP _)];refine aQ o.Hist.length (λi=>⟨0,[(1,.ptr 0 0),(2,.ptr 1 0),(54,iv o.Hist.length),(55,iv i)],CP o⟩) (λ_=>True) ?_ trivial ?_ ?_;simp only[go_sem,CP];intro i d _;have g:=fQ i o_;have f:(o.Hist.map SealM.A)[i]?=some [.v (.int .i64 o.Hist[i].Of.a),.v (.int .i64 o.Hist[i].Of.b),.v (.int .u64 o.Hist[i].Of.c),.ls 1 (bl o.Hist[i].Body)]:=aO _ o.Hist i d;have h:(o.Hist.map SealM.A).set i [.v (.int .i64 o.Hist[i].Of.a),.v (.int .i64 o.Hist[i].Of.b),.v (.int .u64 o.Hist[i].Of.c),.ls 1 (bl o.Hist[i].Body)]=o.Hist.map SealM.A:=BE SealM.A o.Hist i d;have j:=(e.hist.2 _ (eQ d)).2.1;generalize o.Hist[i]=x at *
 simp only[go_sem,CP,aP,aT d,d,f];apply cX (BC (bl x.Body) M_);simp only[go_sem,CP,aP,d,f,h,g];intro _;simp only[go_sem,CP,aS (bP _)]
def ZH(o:OpM)(a:o.ok):aA PQ G pO [.ag o.A] [] λr T=>r=.ag o.A/\T=[]:=by refine(aDv o a).fin [0,1] ?_;rintro r b ⟨rfl,rfl⟩;simp only[go_sem,gQ,OpM.A_def]
end Hud
namespace Hud
open Go Go.Proofs Go.Sort Go.Shelf Go.RowKit Go.Lib
abbrev zId:List Value:=[.int .i64 0,.int .i64 0,.int .u64 0]
def Ze:(Tryz.prog.info? 41).map (λi=>(i.zero,i.size,i.bytes))=some (some (.agg #[.int .i64 0,.int .i64 0,.int .u64 0]),3,24):=k_
def aEH:Tryz.prog.underlying 25=some (.slice 41):=k_
def aIL(w:World)(ty:TypeId)(b o c:Nat)(k:∀j,j<3->(w.cell? ⟨b,o+j,none⟩).isSome=true)(i:∀j,j<3->w.frozen? ⟨b,o+j,none⟩=false):
 (Builtin.clear_ #[25] ty #[.slice (some ⟨b,o,none⟩) 1 c]).run Tryz.prog w=.ok (.tuple #[]) (w.setCells b o zId):=by
 obtain⟨i0,h,g,f,e⟩:=info_parts Ze;have nG:=run_storeCells_cells (P:=Tryz.prog) b o zId 0 w (by simpa using k) (by simpa using i) (by intro v a;simp only[zId,cS,pP,or_false]at a;rcases a with rfl|rfl|rfl<;>rfl);simp only[mG]at nG;have d:(Builtin.zeroCells #[Value.int .i64 0,.int .i64 0,.int .u64 0] 1).toList=zId:=by simp[Builtin.zeroCells,zId];rfl
 simp_all[Builtin.clear_,Value.cells]
set_option maxRecDepth 1000000 in
def aEI (F:Array Value) (kI b n i:Nat) (w:World) (Y:F.size=n*3) (l:∀v∈F.toList,v.oneCell'=true) (p:Holds id w kI 0 F) (C:n<=b) (W:b<=2^63-1) (X:i<n):
 Calls Tryz.prog 156 #[.slice (some ⟨kI,0,none⟩) n b,.int .i64 i,.int .i64 (i+1:Nat)] w λe E=>e=.returned (.slice (some ⟨kI,0,none⟩) (n-1) b)/\E=(w.drew.setCells kI (i*3) (F.toList.drop ((i+1)*3))).setCells kI ((n-1)*3) zId:=by
 obtain⟨i0,y,K,x,J⟩:=info_parts Ze;obtain⟨a,c⟩:∃a,a=F.toList.drop ((i+1)*3):=⟨_,rfl⟩
 have m:a.length=(n-(i+1))*3:=p_;obtain⟨A,Z,k⟩:∃A:Addr,(if b=i+1 then some (⟨kI,0,none⟩:Addr) else some ⟨kI,(i+1)*3,none⟩)=some A/\Hid (∀t u,a[t]?=some u->w.drew.cell? (A.add t)=some u):=by
  by_cases h:b=i+1;refine⟨⟨kI,0,none⟩,by simp[h],λt u d=>?_⟩;simp_all;refine⟨⟨kI,(i+1)*3,none⟩,by simp[h],λt u d=>?_⟩;have B:t<a.length:=(sV.1 d).1;rw[c,Hw,Array.getElem?_toList]at d;have g:(i+1)*3+t<F.size:=o_;rw[Addr.add_lit];have z:=(p ((i+1)*3+t) g).1;simp_all
 have I:Hid (a.length=(n-(i+1))*3):=m;have H:Hid (∀u∈a,u.oneCell'=true):=λu d=>l u (by rw[c]at d;exact QG d);have G:Hid (∀t,t<a.length->(w.drew.cell? ⟨kI,0+i*3+t,none⟩).isSome=true/\w.drew.frozen? ⟨kI,0+i*3+t,none⟩=false):=by
  intro t B;have g:i*3+t<F.size:=o_;have z:=p (i*3+t) g;simp_all
 obtain⟨f,o⟩:∃f,f=w.drew.setCells kI (i*3) a:=⟨_,rfl⟩
 have T:∀r,(Builtin.clear_ #[25] r #[.slice (some ⟨kI,(i+(n-(i+1)))*3,none⟩) (n-(i+(n-(i+1)))) (b-(i+(n-(i+1))))]).run Tryz.prog f=.ok (.tuple #[]) (f.setCells kI ((n-1)*3) zId):=λr=>by
  rw[(o_:i+(n-(i+1))=n-1),(o_:n-(n-1)=1)];have g:∀j,j<3->(n-1)*3+j<F.size:=λj q=>o_;have z:=λj q=>p ((n-1)*3+j) (g j q);simp only[pQ]at z;refine aIL f r kI _ _ (λj q=>?_) λj q=>?_;rw[o];have V:∀t,t<a.length->(w.drew.cell? ⟨kI,i*3+t,none⟩).isSome=true:=λt B=>by have h8:=(p (i*3+t) o_).1;simp_all
  by_cases R:(n-1)*3+j<i*3+a.length;omega;rw[World.cell?_setCells_out kI a (i*3) w.drew _ (λ_ _=>.inr (by show i*3+a.length<=(n-1)*3+j;omega))];simp_all;simp_all[World.frozen?_setCells]
 have D:Hid (f=w.drew.setCells kI (0+i*3) a):=h_;have U:Hid (a=F.toList.drop ((i+1)*3)):=c;have S:i<=b:=o_;have Q:i+1<=b:=o_;have P:i+1<=n:=o_;have O:¬i=i+1:=o_;have N:(0:Int)<=(i:Int)+1:=o_;have M:(i:Int)+1<=(n:Int):=o_;have L:((i:Int)+1).toNat=i+1:=o_;have s:Tryz.prog.follows Departure.mixedOrders=true:=k_;clear p o c;go_enter Tryz.func156,Tryz.ntmps156;go_wp2_with fail;go_region_law_o (refine step_append_room rfl (.tmp 22) (.tmp 25) 25 rfl 41 i0 3 aEH y x kI 0 i b (by simp[Act.eval,Act.put]) A (n-(i+1)) (b-(i+1)) a (by simp[Act.eval,Act.put]) I.out k.out H.out o_ G.out ?_;rw[<-D.out]);go_wp2;go_ret;have h1:=D.out;rw[pQ,U.out]at h1;simp_all;omega
section
variable{h:GH}{φ:Nat->Value}{w:World}{T:aK}
def TC:∀(M:D_),∀v∈M.flatMap Id.K,v.oneCell'=true:=by intro M v b;obtain⟨x,_,a⟩:=H7.1 b;simp only[Id.K,cS,pP,or_false]at a;rcases a with rfl|rfl|rfl<;>rfl
def aGm(M:D_):(M.flatMap Id.K).length=M.length*3:=MF (enc:=Id.K) (k:=3) (λ_=>rfl) M
def Vd(M:D_):(M.map Id.A).flatten=(M.flatMap Id.K).map .v:=HZ Id.K M
def aEJ(L:D_):∀d∈L.map Id.A,d.length=3/\∀c∈d,aX c=true:=by intro d b;obtain⟨x,_,rfl⟩:=dF.1 b;refine⟨rfl,λc a=>?_⟩;simp only[Id.A,cS,pP,or_false]at a;rcases a with rfl|rfl|rfl<;>rfl
def Zf(hI:Inv h φ w T){k g c o:Nat}{L M:D_}{a:Array Value}{E:TypeId}(B:T[k]?=some (some (.arr 3 (L.map Id.A))))(m:φ k=.slice (some ⟨g,0,none⟩) L.length (c+1))(l:w.heap[g]?=some (.cells a E (0,0)))(H:L.length<=c+1)(G:c+1<=maxLen)(y:a.size=(c+1)*3)(D:h g=none)
 (z:cK h (L.map Id.A).flatten (a.toList.take (L.length*3))) (I:o+M.length<=L.length):
 (Inv h φ (w.setCells g (o*3) (M.flatMap Id.K)) (T.set k (some (.arr 3 ((L.take o++M++L.drop (o+M.length)).map Id.A))))/\Evo h φ T w h φ (T.set k (some (.arr 3 ((L.take o++M++L.drop (o+M.length)).map Id.A)))) (w.setCells g (o*3) (M.flatMap Id.K))) /\
  ∃f,(w.setCells g (o*3) (M.flatMap Id.K)).heap[g]?=some (.cells f E (0,0))/\f.size=(c+1)*3/\cK h ((L.take o++M++L.drop (o+M.length)).map Id.A).flatten (f.toList.take ((L.take o++M++L.drop (o+M.length)).length*3)):=by
 have s:=aGm M;have t:o*3+(M.flatMap Id.K).length<=a.size:=by rw[s,y];omega
 have x:=run_storeCells_at Tryz.prog g (o*3) E (M.flatMap Id.K) 0 a w l J_ (TC M);have u:=run_storeCells_cells (P:=Tryz.prog) g (o*3) (M.flatMap Id.K) 0 w (λj C=>by rw[(Iu l).1,Ri o_];rfl) (λj C=>(Iu (o:=o*3+0+j) l).2) (TC M);simp only[mG]at x u;have e:w.setCells g (o*3) (M.flatMap Id.K)=w.setRow g (a.toList.take (o*3)++M.flatMap Id.K++a.toList.drop (o*3+(M.flatMap Id.K).length)).toArray:=by have:=u.symm.trans x;injection this
 rw[e];have b:(L.take o++M++L.drop (o+M.length)).length=L.length:=km;have r:a.toList.length=(c+1)*3:=by rw[GV,y]
 have q:∀d∈L.map Id.A,d.length=3:=λd F=>(aEJ L d F).1;have i:((L.take o++M++L.drop (o+M.length)).map Id.A).flatten=(L.map Id.A).flatten.take (o*3)++(M.flatMap Id.K).map .v++(L.map Id.A).flatten.drop (o*3+M.length*3):=by rw[bZ,bZ,Kf,Kf,Vd M,QN,aC0,Fz q,Fy q,aGg]
 have p:cK h ((L.take o++M++L.drop (o+M.length)).map Id.A).flatten ((a.toList.take (o*3)++M.flatMap Id.K++a.toList.drop (o*3+(M.flatMap Id.K).length)).take (L.length*3)):=by rw[i,s,Mz a.toList (M.flatMap Id.K) (o*3) (M.length*3) (L.length*3) o_ o_ s];exact((z.take _).app (Ru h _)).app (z.drop _)
 have n:(a.toList.take (o*3)++M.flatMap Id.K++a.toList.drop (o*3+(M.flatMap Id.K).length)).toArray.size=(c+1)*3:=by rw[Gn];simp only[dZ,eC,vY,r];omega
 refine⟨Lt hI B l (by rw[m];rfl) ⟨aEJ _,.inr ⟨g,c,_,E,by rw[aP,b];exact m,setRow_heap w g a _ E _ l,by rw[aP,b];exact H,G,n,D,by rw[aP,b];exact p⟩⟩,_,setRow_heap w g a _ E _ l,n,by rw[b];exact p⟩
def aIM(L:D_)(n i:Nat):D_ :=
 let M:=(L.take n).drop (i+1)
 let a:=L.take i++M++L.drop (i+M.length)
 a.take (n-1)++[⟨0,0,0⟩]++a.drop (n-1+([⟨0,0,0⟩]:D_).length)
def aBp{G:L_}{k n i:Nat}{L:D_}{sl:AV}(F:T[k]?=some (some (.arr 3 (L.map Id.A))))(hn:n<=L.length)(ae:sl=.vw k 3 0 n\/(sl=.own k/\n=L.length))(hi:i<n):
 aA PQ G fR [sl,iv i,iv (i+1:Nat)] T λr T'=>r=.vw k 3 0 (n-1)/\T'=T.set k (some (.arr 3 ((aIM L n i).map Id.A))):=by
 intro h z w m hG hI S;refine .inl ⟨Go.Proofs.enters_of Tryz.func156 k_ rfl _ _,?_⟩;simp only[cC]at S;obtain⟨u0,ac,ad,af,u1,ab,rfl,y,u2,aa,rfl,x,rfl⟩:=S;simp only[Rp]at y x;subst y x;obtain rfl:m=#[u0,.int .i64 i,.int .i64 (i+1:Nat)]:=m_;have q:k<T.length:=(sV.1 F).1;obtain⟨hc,f⟩:=hI.obj k _ F;rw[aP]at f;rcases f with⟨A0,D,P⟩|⟨g,c,a,E,D,C,B,V,e4,U,J⟩
 simp_all;have hu:∃d,u0=.slice (some ⟨g,0,none⟩) n d/\n<=d/\d<=maxLen:=by grind[Rp,Value.slice.injEq]
 obtain⟨d,rfl,u,p⟩:=hu;have Q:n*3<=a.toList.length:=p_;have j:a.toList.take (L.length*3)=L.flatMap Id.K:=by rw[Vd]at J;exact SV J
 have s:a.toList.take (n*3)=(L.take n).flatMap Id.K:=by
  have h1:(a.toList.take (L.length*3)).take (n*3)=a.toList.take (n*3):=m_;rw[<-h1,j];have:=MF (enc:=Id.K) (k:=3) (λ_=>rfl) (L.take n)
  conv=>lhs;rw[<-LC n L]
  grind
 have R:(a.toList.take (n*3)).toArray.size=n*3:=m_;refine(aEI (a.toList.take (n*3)).toArray g d n i w R (λv O=>by rw[s]at O;exact TC _ v (by simpa using O)) ?_ u (by unfold maxLen at p;omega) hi).mono ?_;intro t ht;rw[R]at ht;obtain⟨c1,c2⟩:=Iu (o:=0+t) C;grind;rintro e w' ⟨rfl,rfl⟩;have hd:(a.toList.take (n*3)).toArray.toList.drop ((i+1)*3)=((L.take n).drop (i+1)).flatMap Id.K:=by
  show(a.toList.take (n*3)).drop ((i+1)*3)=_;rw[s]
  conv=>lhs;rw[<-LC (i+1) (L.take n)]
  have:=MF (enc:=Id.K) (k:=3) (λ_=>rfl) ((L.take n).take (i+1));rw[List.flatMap_append,aGG (by rw[this,eC,eC];omega),LB (by rw[this,eC,eC];omega),dM]
 rw[hd];have I:Inv h z w.drew T:=⟨hI.gh,hI.obj,hI.dis⟩
 have H:((L.take n).drop (i+1)).length=n-(i+1):=by rw[vY,eC];omega
 obtain⟨⟨i1,Z⟩,W,w1,X,p1⟩:=Zf I (M:=(L.take n).drop (i+1)) (o:=i) F D C B V e4 U J (by rw[H];omega);have l:(L.take i++(L.take n).drop (i+1)++L.drop (i+((L.take n).drop (i+1)).length)).length=L.length:=km;obtain⟨⟨N,v2⟩,_⟩:=Zf i1 (M:=[⟨0,0,0⟩]) (o:=n-1) (by rw[List.getElem?_set_self q]) (by rw[l];exact D) w1 (by rw[l];exact B) V X U p1 (by rw[l];simp;omega);rw[List.set_set]at N v2;have Y:Evo h z T w h z T w.drew:=⟨rfl,rfl,rfl,cN _,λ_ _ _=>rfl,CA.refl _,λb cs e=>.inl e,λ_ _=>rfl,λi o b C B=>.inr ⟨i,o,C,B⟩,cN _,Kl _⟩
 refine⟨_,rfl,.vw k 3 0 (n-1),_,h,z,⟨rfl,rfl⟩,(Y.trans Z).trans v2,N,?_⟩;simp only[Rp,cL];refine⟨q,some ⟨g,0,none⟩,d,rfl,o_,p,.inr ⟨g,_,_,D,by rw[Nat.zero_mul],o_⟩⟩
def RX{G:L_}{k n i:Nat}{L:D_}{sl:AV}(g:T[k]?=some (some (.arr 3 (L.map Id.A))))(f:n<=L.length)(b:sl=.vw k 3 0 n\/(sl=.own k/\n=L.length))(h:i<n):
 aA PQ G fR [sl,iv i,iv (i+1:Nat)] T λr e=>∃d:D_,d.length=L.length/\d.take (n-1)=(L.take n).eraseIdx i/\r=.vw k 3 0 (n-1)/\e=T.set k (some (.arr 3 (d.map Id.A))):=by
 refine(aBp g f b h).mono λr e ⟨h1,h2⟩=>⟨_,?_,?_,h1,h2⟩
 simp only[aIM,dZ,eC,vY,sE,gQ];omega;have a:((L.take n).drop (i+1)).length=n-(i+1):=by rw[vY,eC];omega
 have c:(L.take i++(L.take n).drop (i+1)++L.drop (i+((L.take n).drop (i+1)).length)).length=L.length:=km;unfold aIM;dsimp only;rw[eB,Rf (by rw[eC,c];omega),Mj,Nat.min_self,List.eraseIdx_eq_take_drop_succ,Mj,Kj o_,Rf (by rw[dZ,eC,a];omega),sG (by rw[dZ,eC,a];omega)]
end
end Hud
namespace Hud
open Go
section
variable{G:L_}
def aPc(l:V_)(r:AV)(T:aK):Prop:=∃(L:V_)(n:Nat),n<=L.length/\(L.take n).Pairwise (· < ·)/\(∀z,z∈L.take n↔z∈l)/\((r=.own 0/\n=L.length)\/r=.vw 0 1 0 n)/\T=[some (.arr 1 (ul L))]
def aPB{L:V_}{x:Nat}(h:L.Pairwise (· < ·))(h2:∀y∈L,y<x):(L++[x]).Pairwise (· < ·):=
 List.pairwise_append.2 ⟨h,List.pairwise_singleton _ _,λa d b c=>by rw[cA.1 c];exact h2 a d⟩
def aPd{l:V_}(a:l.Pairwise (· <= ·)){i j:Nat}(h:i<=j)(b:j<l.length):l[i]<=l[j]:=by rcases eD i j with h1|h1;exact QD.1 a i j o_ b h1;grind
def aKI{l:V_}(b:l.Pairwise (· <= ·)){j:Nat}(c:j<l.length){y:Nat}(a:y∈l.take (j+1)):y<=l[j]:=by obtain⟨i,d,rfl⟩:=CU a;rw[eC]at d;rw[List.getElem_take];exact aPd b o_ c
def aOx (l:V_) (p:l.Pairwise (· <= ·)) (T:l.length<=1000000):aA PQ G aBD [.own 0] [some (.arr 1 (ul l))] (aPc l):=by
 apply aC aES;by_cases h2:l.length<2;simp only[go_sem,aP,show decide ((l.length:Int)<2)=true from decide_eq_true o_];refine⟨l,l.length,cN _,?_,s_,.inl ⟨rfl,rfl⟩,rfl⟩;rw[dE]
 match l,h2 with
 |[],_=>exact .nil|[x],_=>exact List.pairwise_singleton _ _
 have d:(l.take l.length).Pairwise (· < ·)->aPc l (.own 0) [some (.arr 1 (ul l))]:=λh=>⟨l,l.length,cN _,h,s_,.inl ⟨rfl,rfl⟩,rfl⟩
 simp only[go_sem,aP,show decide ((l.length:Int)<2)=false from decide_eq_false o_];refine cO (λm s=>∃k:Nat,m=l.length-k/\1<=k/\k<=l.length/\(l.take k).Pairwise (· < ·)/\s=⟨1,[(0,.own 0),(3,iv k)],[some (.arr 1 (ul l))]⟩) (l.length-1) ⟨1,rfl,cN _,o_,?_,i_⟩ ?_
 match l with
 |[]=>exact .nil|x::l=>simp
 rintro m s ⟨k,rfl,t,K,C,rfl⟩;have w1:IntKind.i64.wrap ((k:Int)-1)=((k-1:Nat):Int):=a_;by_cases a:k<l.length;have P:=aLL l k a;have O:=aLL l (k-1) o_;simp only[go_sem,aP,aT a,w1,a,(o_:k-1<l.length),P,O];have R:l.getD k 0=l[k]:=h_;have Q:l.getD (k-1) 0=l[k-1]:=m_;rw[R,Q];have I:=aPd p (o_:k-1<=k) a;have r:∀z,z∈l.take k->z<=l[k-1]:=λz F=>aKI p (j:=k-1) o_ (by rw[(o_:k-1+1=k)];exact F);refine aL (λh=>?_) (λh=>?_);have A:l[k]=l[k-1]:=p_;simp only[go_sem,aP,(o_:k<=l.length),cN]
 refine cO (λm s=>∃(i j:Nat)(L:V_),m=l.length-j/\1<=i/\i<j/\k+1<=j/\j<=l.length/\L.length=l.length/\(L.take i).Pairwise (· < ·)/\(∀z,z∈L.take i↔z∈l.take j)/\L.drop (j-1)=l.drop (j-1) /\
  s=⟨1,[(0,.own 0),(3,iv i),(4,.vw 0 1 k (l.length-k)),(5,iv ((j-k:Nat):Int))],[some (.arr 1 (ul L))]⟩) (l.length-(k+1)) ⟨k,k+1,l,rfl,t,o_,o_,o_,rfl,C,λz=>?_,rfl,?_⟩ ?_
 rw[lB a,cG,cA];refine⟨.inl,λh=>h.elim id λe=>?_⟩;rw[e,A];exact TT.2 ⟨k-1,o_,rfl⟩;simp only[go_sem,(o_:k+1-k=1)];rintro m s ⟨i,j,L,rfl,N,M,J,U,q,o,c,g,rfl⟩;by_cases b:j<l.length;have w:L.getD j 0=l[j]:=by
  have:(L.drop (j-1))[1]?=(l.drop (j-1))[1]?:=by rw[g]
  grind
 have u:L.getD (j-1) 0=l[j-1]:=by
  have:(L.drop (j-1))[0]?=(l.drop (j-1))[0]?:=by rw[g]
  grind
 have B:=aLL L j o_;have E:=aLL L (j-1) o_;have w2:IntKind.i64.wrap (((j-k:Nat):Int)-1)=((j-k-1:Nat):Int):=a_;have t1:decide (((j-k:Nat):Int)<((l.length-k:Nat):Int))=true:=decide_eq_true o_;rw[w]at B;rw[u]at E;have S:L.drop j=l.drop j:=by have:=congrArg (List.drop 1) g;rwa[Kg,Kg,(o_:j-1+1=j)]at this
 have D:=aPd p (o_:j-1<=j) b;simp only[go_sem,t1,w2,(o_:j-k<l.length-k),(o_:j-k-1<l.length-k),(o_:k+(j-k)=j),(o_:k+(j-k-1)=j-1),B,E];refine aL (λh=>?_) (λh=>?_);have f:l[j]≠l[j-1]:=λe=>by rw[e]at h;simp at h
 simp only[go_sem,aP,q,(o_:j-k<l.length-k),(o_:k+(j-k)=j),(o_:i<l.length),B,aLL L i o_,fQ i o_,pC (o_:j-k<2^63-1)];refine⟨l.length-(j+1),o_,i+1,j+1,L.set i l[j],rfl,o_,o_,o_,o_,by simpa using q,?_,λz=>?_,?_,?_⟩;rw[lB (by rw[cL];omega),YC,List.take_set_of_le (cN i)];refine aPB o λy H=>?_;have:=aKI p (j:=j-1) o_ (y:=y) (by rw[(o_:j-1+1=j)];exact(c y).1 H);omega;rw[lB (by rw[cL];omega),YC,List.take_set_of_le (cN i),lB b,cG,cG,c];rw[Nat.add_sub_cancel,List.drop_set_of_lt o_,S];simp_all;omega;have f:l[j]=l[j-1]:=p_;simp only[go_sem,pC (o_:j-k<2^63-1)];refine⟨l.length-(j+1),o_,i,j+1,L,rfl,o_,o_,o_,o_,q,o,λz=>?_,?_,?_⟩;rw[c,lB b,cG,cA];refine⟨.inl,λh=>h.elim id λe=>?_⟩;rw[e,f];exact TT.2 ⟨j-1,o_,rfl⟩;simp_all;simp_all;omega;obtain rfl:j=l.length:=o_;rw[dE]at c;have t1:decide (((l.length-k:Nat):Int)<((l.length-k:Nat):Int))=false:=decide_eq_false o_;have n:i<=l.length:=o_;simp only[go_sem,t1,aP,q,n,(o_:i+(l.length-i)=l.length),QE,eC,vY,Kj n,YN];refine⟨L.take i++List.replicate (l.length-i) 0,i,c_,?_,?_,.inr rfl,?_⟩;simp_all;simp_all;simp_all;have f:l[k]≠l[k-1]:=λe=>by rw[e]at h;simp at h
 simp only[go_sem,fQ k o_];refine⟨l.length-(k+1),o_,k+1,rfl,o_,o_,?_,rfl⟩;rw[lB a];grind;obtain rfl:k=l.length:=o_;simp only[go_sem,aP,aS a];exact d C
end
end Hud
namespace Hud
open Go Go.Proofs Go.Sort Go.Shelf
section
variable{P:Program}{α:Type}[Inhabited α]{e:α->Value}
def pc1(d:Array α):putCells e 0 d=putCells id 0 (flatK (λx=>[e x]) 1 d):=by funext c;unfold putCells;congr 1;funext k x;simp only[size_flatK,Bb];split;rw[get_flatK _ _ _ _ o_];simp[Nat.mod_one];rfl
def sw1(w:World)(b m:Nat)(d:Array α)(os:Array Obj):sortWorld e w b 0 m d os=sortWorldK (λx=>[e x]) 1 w b 0 m d os:=by unfold sortWorld sortWorldK putRowK putRow;rw[pc1]
def hd1{w:World}{b:Nat}{d:Array α}(h:HoldsK (λx=>[e x]) 1 w b 0 d):Holds e w b 0 d:=λj a=>by have:=h j ov;rw[get_flatK _ _ _ _ o_]at this;simpa[Nat.mod_one]using this
def aPe {z:Ren} (L0:SlLaysF0.n6 P z) (aE:∀w,(isAgg (z.t 24)).run P w=.ok false w) (zE:∀w,(Go.sizeOf (z.t 24)).run P w=.ok 1 w) (h1:∀x,(e x).oneCell'=true) (ae:∀x,∀c∈cellsOf (λx:α=>[e x]) x,aX c=true)
 {cf:α->α->Int} (hO:SWO (ltOf cf)) (hT:∀x y,(ltOf cf) x y=false->(ltOf cf) y x=false->x=y) {g:Nat} (eg:∀k w,(callFunc g k).run P w=.ok (.enter g k) w) (eS:∀k w,(callFunc (z.f 6) k).run P w=.ok (.enter (z.f 6) k) w) {G:L_}
 (R:∀x y,aA P G g [.v (e x),.v (e y)] [] λr T=>r=iv (cf x y)/\T=[]) (l:List α) (hl:l.length<2^62):
 aA P G (z.f 6) [.own 0,.cl g []] [some (.arr 1 (l.map (cellsOf λx=>[e x])))] λr T=>r=.tup []/\T=[some (.arr 1 ((l.mergeSort λx y=>!(ltOf cf) y x).map (cellsOf λx=>[e x])))]:=by
 have L:SlLaysF.n6 P z:={L0 with a24:=aE,z24:=zE}
 have hk:∀x:α,[e x].length=1:=λ_=>rfl;intro h H w J hG hI hA;refine .inl ⟨eS _ _,?_⟩;simp only[cC]at hA;obtain⟨u0,ak,aa,X,u1,aj,rfl,V,rfl⟩:=hA;simp only[Rp]at X V;obtain⟨_,rfl,_⟩:=X;obtain⟨us,rfl,M⟩:=V;simp only[cC]at M;have K:us=#[]:=by simpa using M
 subst K;obtain rfl:J=#[H 0,.func (.func g) #[] #[]]:=by apply EY.1;simpa using aa
 obtain⟨S,O⟩:=hI.obj 0 _ rfl;have B:=H4 l (λx y=>!(ltOf cf) y x);have p:(l.mergeSort λx y=>!(ltOf cf) y x).length=l.length:=B.length_eq;rcases O with⟨A0,Z,Q⟩|⟨b,c,ai,E,Z,Y,e2,e3,e4,e5,e6⟩
 have:l=[]:=by simpa using Q
 subst this;rw[Z];refine(AnyF.slices_SortFunc_none L0 A0 0 (.func (.func g) #[] #[]) w).mono ?_;rintro e w' ⟨rfl,rfl⟩;have ah:([]:List α).mergeSort (λx y=>!(ltOf cf) y x)=[]:=List.mergeSort_nil;rw[ah];exact⟨_,rfl,.tup [],_,h,H,⟨rfl,rfl⟩,Evo.refl,hI,G_⟩;rw [Z];rw[aP]at e2 e6⊢;have hb:b<w.heap.size:=by rcases eD b w.heap.size with C|C;exact C;rw[Hz C]at Y;simp at Y
 have hH:=hd1 (aCV hk Y e6);have N:l.length*1<=ai.size:=by rw[e4];exact H2 1 e2
 have ac:∀q cs,h q=some cs->q≠b:=λq cs e he=>by rw[he,e5]at e;simp at e
 have hC:CmpLays1 P g #[] e cf b 0 l.toArray.size w:=by
  intro m os s ad x y;rw[sw1];obtain⟨s1,⟨u,s2,s3,s4⟩,s5⟩:=UQ (m:=m) (os:=os) (d:=s) hk Y (by rw[ad];simpa using N)
  have af:Inv h H (sortWorldK (λx:α=>[e x]) 1 w b 0 m s os) []:=⟨λq cs e=>by
   obtain⟨E',fr,A⟩:=hI.gh q cs e;have D:q<w.heap.size:=by rcases eD q w.heap.size with C|C;exact C;rw[Hz C]at A;simp at A
   exact⟨E',fr,by rw[s1 q D (ac q cs e)];exact A⟩,λi o e=>so,λi j oi oj b e=>so⟩
  have F:cC h H 0 [.v (e x),.v (e y)] (#[e x,e y]++#[]:Array Value).toList:=by simp only[cC];exact⟨_,_,rfl,by simp only[Rp],_,_,rfl,by simp only[Rp],rfl⟩
  rcases R x y h H _ _ hG af F with⟨_,S⟩|⟨v,w',S,_⟩
  apply S.mono;rintro e w' ⟨v,rfl,r,T',h',φ',⟨rfl,rfl⟩,I,al,hv⟩;simp only[Rp]at hv;subst hv;refine⟨rfl,w'.drawn-(sortWorldK (λx:α=>[e x]) 1 w b 0 m s os).drawn,w'.heap.extract (sortWorldK (λx:α=>[e x]) 1 w b 0 m s os).heap.size w'.heap.size,?_⟩;have hd:=I.drawn;have a:w'.heap=(sortWorldK (λx:α=>[e x]) 1 w b 0 m s os).heap++w'.heap.extract (sortWorldK (λx:α=>[e x]) 1 w b 0 m s os).heap.size w'.heap.size:=by apply Array.ext_getElem?;intro i;rcases eD i (sortWorldK (λx:α=>[e x]) 1 w b 0 m s os).heap.size with hi|hi;rw[X5 hi,I.frame i hi (λj o e=>so)];rw[Array.getElem?_append_right hi];have:=I.size;rw[Array.getElem?_extract];split;congr 1;omega;rw[Hz o_]
  have e7:=I.os;have e8:=I.tape;have e9:=I.output;revert hd a e7 e8 e9;generalize sortWorldK (λx:α=>[e x]) 1 w b 0 m s os=W;intro hd a e7 e8 e9;obtain⟨hp,tp,dr,o,op⟩:=w';simp only at a hd e7 e8 e9;subst e7;subst e8;subst e9;simp only[Go.Sort.grow,World.drewN];rw[<-a];congr 1;omega;rw[eg]at S;simp at S
 have U:=Any.slices_SortFunc_total L e h1 cf hO g #[] b 0 (c+1) l.toArray w eg hC hH hb (by simpa using hl) hT;simp only[sw1]at U;apply U.mono;rintro e w' ⟨rfl,n,os,rfl⟩;generalize(l.mergeSort λx y=>!(ltOf cf) y x)=l' at p;obtain⟨s1,⟨u,s2,s3,s4⟩,s5⟩:=UQ (m:=n) (os:=os) (d:=l'.toArray) hk Y (by simpa[p]using N);have:=Fw (w':=sortWorldK (λx:α=>[e x]) 1 w b 0 n l'.toArray os) (o':=.arr 1 (l'.map (cellsOf (λx:α=>[e x])))) hI rfl rfl rfl s5 (i:=0) (o:=.arr 1 (l.map (cellsOf (λx:α=>[e x])))) rfl
  (λq D ab=>s1 q D (λe=>ab (by rw[Z,e];rfl)))
  ⟨λx hx=>by
   obtain⟨y,_,rfl⟩:=dF.1 hx
   exact⟨by simp[cellsOf],ae y⟩,.inr ⟨b,c,u,E,by rw[aP,p];simpa using Z,s2,by rw[aP,p];exact e2,e3,by rw[s3];exact e4,e5,by
    rw[aP,HZ];simp only[Gn]at s4;rw[s4]
    exact OC⟩⟩
  (Nat.le_add_right _ _)
 exact⟨_,rfl,.tup [],_,h,H,⟨rfl,rfl⟩,this.2,this.1,G_⟩
end
def aNQ(l:V_):V_:=l.mergeSort λx y=>decide (x<=y)
section
variable{G:L_}
def aPf(x y:Nat):aA PQ G aEQ [.v (.int .u64 (x:Int)),.v (.int .u64 (y:Int))] [] λr T=>r=iv (wG x y)/\T=[]:=by refine aC aKm ?_;simp only[go_sem];apply cX (FR x y);simp only[go_sem]
def aPC(l:V_)(j:l.length<2^62):aA PQ G aC1 [.own 0,.cl aEQ []] [some (.arr 1 (ul l))] λr T=>r=.tup []/\T=[some (.arr 1 (ul (aNQ l)))]:=by
 have d:∀x y:Nat,Go.Proofs.ltOf (λa b:Nat=>wG a b) x y=decide (x<y):=by intro x y;unfold Go.Proofs.ltOf;show decide (wG x y<0)=_;rw[decide_eq_decide,aCX];omega
 have i:(λx y:Nat=>!(Go.Proofs.ltOf (λa b:Nat=>wG a b) y x))=λx y:Nat=>decide (x<=y):=by funext x y;rw[d,CT];simp
 have f:=aPe (e:=λn:Nat=>.int .u64 (n:Int)) Go.Proofs.Tryz.laysSortU Go.Proofs.Tryz.isAgg39 Go.Proofs.Tryz.sizeOf39 (λ_=>rfl) (λx c h=>by simp[cellsOf]at h;subst h;rfl) (cf:=λa b:Nat=>wG a b)
  ⟨λx=>by rw[d];simp,λx y z h1 h2=>kf,λx y z h1 h2=>kf⟩
  (λx y h1 h2=>by rw[d]at *;simp at h1 h2;omega) (g:=aEQ) (Go.Proofs.enters_of Go.Proofs.Tryz.func110 k_ rfl) (Go.Proofs.enters_of Go.Proofs.Tryz.func109 k_ rfl) (G:=G) aPf l j
 rw[i]at f;exact f
end
end Hud
