import Derived.Test.YtlhonkjgkfdnmaaGreatDoorLib02
import Derived.Test.YtlhonkjgkfdnmaaGreatDoorLib22
import Derived.Test.YtlhonkjgkfdnmaaGreatDoorLib23
import Derived.Test.YtlhonkjgkfdnmaaGreatDoorLib24
import Derived.WalkKit
import Derived.WalkSpells
import Derived.Deep.RegionLaw
import Derived.Lib.SlicesDelete
import Derived.Lib.SliceRun
import Derived.Shelf.RegionOpenPlain
set_option linter.all false
set_option maxHeartbeats 40000000
namespace Hud
open Go
variable{G:L_}
def OD(x y:Id):aA PQ G DR [.ag x.A,.ag y.A] [] λr T=>r=.v (.bool (x.lt y))/\T=[]:=by refine aC Po ?_;simp only[go_sem,Id.A];refine aL (λh=>?_) (λh=>?_)<;>simp only[go_sem];simp_all[Id.lt];refine aL (λh2=>?_) (λh2=>?_)<;>simp only[go_sem]<;>simp_all[Id.lt]
def EF(x:Int):aA PQ G kH [iv x] [] λr T=>r=.v (.bool false)/\T=[]:=by refine aC Aw ?_;simp only[go_sem,bne_self_eq_false]
def Ay(x:Int):aA PQ G oT [.v (.int .u64 x)] [] λr T=>r=.v (.bool false)/\T=[]:=by refine aC EQ ?_;simp only[go_sem,bne_self_eq_false]
def wG(x y:Int):Int:=if x<y then -1 else if y<x then 1 else 0
def kB(x y:Int):aA PQ G jW [iv x,iv y] [] λr T=>r=iv (wG x y)/\T=[]:=by refine aC FM ?_;simp only[go_sem];apply cX (EF x);simp only[go_sem];apply cX (EF y);simp only[go_sem];refine aL (λh=>?_) (λh=>?_)<;>simp only[go_sem];simp_all[wG];refine aL (λh2=>?_) (λh2=>?_)<;>simp only[go_sem]<;>simp_all[wG];omega
def FR(x y:Int):aA PQ G qV [.v (.int .u64 x),.v (.int .u64 y)] [] λr T=>r=iv (wG x y)/\T=[]:=by refine aC Cl ?_;simp only[go_sem];apply cX (Ay x);simp only[go_sem];apply cX (Ay y);simp only[go_sem];refine aL (λh=>?_) (λh=>?_)<;>simp only[go_sem];simp_all[wG];refine aL (λh2=>?_) (λh2=>?_)<;>simp only[go_sem]<;>simp_all[wG];omega
def I1(x:Int):O_:=[iv x]
def aOC(x:Int):I1 x=[iv x]:=rfl
abbrev ints(l:List Int):AV:=.ls 1 (l.map I1)
def pX(n m:Int):Int:=(if n<0 then -(n+1) else n)%m
def nF:B_->Int|[]=>0|x::r=>if x=0 then nF r else x
def Iv{l:B_}{i:Nat}(h:∀j,j<i->l.getD j 0=0)(c:i<l.length)(b:l[i]≠0):nF l=l[i]:=by
 induction l generalizing i with
 |nil=>simp at c| cons a l ih=>
  cases i with
  |zero=>simp only[List.getElem_cons_zero]at b⊢;simp[nF,b]|succ i=>
   have h0:a=0:=by simpa using h 0 o_
   grind[nF]
def Iw{l:B_}(h:∀j,j<l.length->l.getD j 0=0):nF l=0:=by
 induction l with
 |nil=>rfl|cons a l ih=>
  have h0:a=0:=by simpa using h 0 s_
  simp only[nF,h0,if_true];exact ih λj b=>by simpa using h (j+1) T_
theorem aHT{x y:Int}:wG x y=0↔x=y:=by grind[wG]
theorem aCX{x y:Int}:wG x y<0↔x<y:=by grind[wG]
def aHU(x y:Id):decide (nF [wG x.a y.a,wG x.b y.b,wG x.c y.c]<0)=x.lt y:=by rw[CT];grind[nF,Id.lt,aHT,aCX]
def AC(l:B_)(c:l.length<=maxLen):aA PQ G zX [ints l] [] λr T=>r=iv (nF l)/\T=[]:=by refine aC LU ?_;unfold maxLen at c;simp only[go_sem,aP];refine aQ l.length (λi=>⟨0,[(3,iv 0),(6,ints l),(7,iv l.length),(8,iv i)],[]⟩) (λi=>∀j,j<i->l.getD j 0=0) ?_ s_ ?_ ?_;rfl;intro i b a;simp only[go_sem,aT b,aO I1 l i b,aOC];refine aL (λh=>?_) (λh=>?_)<;>simp only[go_sem,fQ i o_];rw[Iv a b w_];grind;intro a;simp only[go_sem,aS (bP _),Iw a]
def Cm(x y:Id):aA PQ G wC [.ag x.A,.ag y.A] [] λr T=>r=.v (.bool (x.lt y))/\T=[]:=by refine aC SK ?_;simp only[go_sem,Id.A];apply cX (kB x.a y.a);simp only[go_sem];apply cX (kB x.b y.b);simp only[go_sem];apply cX (FR x.c y.c);simp only[go_sem];apply iJ (aB _) rfl rfl (AC [wG x.a y.a,wG x.b y.b,wG x.c y.c] (by simp[maxLen]));simp only[go_sem];rw[aHU]
def Dl(n m:Int)(h1:-9223372036854775808<=n)(h2:n<=2^63-1)(h3:1<=m)(c:m<=2^63-1):
 aA PQ G uV [iv n,iv m] [] λr T=>r=iv (pX n m)/\T=[]:=by
 apply aC LV;have a:¬m=0:=o_;simp only[go_sem];refine aL (λh=>?_) (λh=>?_)<;>simp only[go_sem,a];have b:n<0:=w_;rw[aJ (n:=n+1) o_ o_,aJ o_ o_];grind[pX,Int.zero_sub];grind[pX]
def uJ(l:D_)(x:Id)(d:l.length<=maxLen):aA PQ G oK [ids l,.ag x.A] [] λr T=>r=.v (.bool (decide (x∈l)))/\T=[]:=by
 apply aC N1;unfold maxLen at d;simp only[go_sem,Id.A_def];refine aQ l.length (λi=>⟨0,[(0,ids l),(3,.ptr 0 0),(5,iv i)],[some (.box x.A)]⟩) (λi=>x∉l.take i) ?_ s_ ?_ ?_;rfl;intro i b a;simp only[go_sem,aP,aT b,aO Id.A l i b,Id.A_def];refine aL (λh=>?_) (λh=>?_)<;>simp only[go_sem,fQ i o_];grind;refine⟨rfl,?_⟩;have:l[i]≠x:=w_;intro c;rw[lB b]at c;grind;intro a;rw[dE]at a;simp only[go_sem,aP,aS (bP _),a]
def Ha(x:Id)(out:D_):Nat->Nat|0=>0|n+1=>match out[n]? with|some y=>if x.lt y then Ha x out n else n+1|none=>n+1
def Ps(out:D_)(x:Id):D_:=out.take (Ha x out out.length)++[x]++out.drop (Ha x out out.length)
def jI(l:D_):D_:=l.foldl Ps []
def Yz(x:Id)(out:D_):∀n,Ha x out n<=n|0=>cN _| n+1=>by simp only[Ha];split;split;have:=Yz x out n;omega;omega;omega
def aCY(out:D_)(x:Id):(Ps out x).length=out.length+1:=by grind[Ps,List.length_append,List.length_take,List.length_drop,List.length_cons,List.length_nil]
def aAt(l:D_):∀out,(l.foldl Ps out).length=out.length+l.length:=by
 induction l with
 |nil=>simp|cons x l ih=>intro out;simp only[CW,ih,aCY,sE];omega
def Qn(l:D_):(jI l).length=l.length:=by simp[jI,aAt]
def Wh(l:D_)(i:Nat)(h:i<l.length):jI (l.take (i+1))=Ps (jI (l.take i)) l[i]:=by rw[lB h,jI,Hy];rfl
def AD (l:D_) (j:l.length<=1000000000):aA PQ G rO [ids l] [] λr T=>r=.own 0/\T=[some (.arr 3 ((jI l).map Id.A))]:=by
 apply aC LT;simp only[go_sem];refine aQ l.length (λi=>⟨0,[(0,ids l),(3,.own 0),(4,iv i)],[some (.arr 3 ((jI (l.take i)).map Id.A))]⟩) (λ_=>True) ?_ trivial ?_ ?_;rfl;intro i b _;simp only[go_sem,aP,aT b];have g:=Qn (l.take i);rw[eC]at g;have c:=Yz l[i] (jI (l.take i)) (jI (l.take i)).length;refine jG (λs=>s=⟨0,[(0,ids l),(3,.own 0),(4,iv i),(5,iv (Ha l[i] (jI (l.take i)) (jI (l.take i)).length:Nat))],[some (.arr 3 ((jI (l.take i)).map Id.A))]⟩) ?_ ?_;refine aFb (jI (l.take i)).length (λk=>⟨0,[(0,ids l),(3,.own 0),(4,iv i),(5,iv k)],[some (.arr 3 ((jI (l.take i)).map Id.A))]⟩) (λk=>Ha l[i] (jI (l.take i)) (jI (l.take i)).length=Ha l[i] (jI (l.take i)) k) ?_ rfl ?_ ?_;simp only[go_sem];intro k d e;have a:=aO Id.A (jI (l.take i)) k d;simp only[go_sem,aP,aO Id.A l i b,F3 (o_:k<2^63-1),d,a,Id.A_def];apply cX (OD l[i] (jI (l.take i))[k]);simp only[go_sem];refine aL (λh=>?_) (λh=>?_)<;>simp only[go_sem,F3 (o_:k<2^63-1)];grind[Ha];grind[Ha];intro e;simp only[go_sem,e,Ha];rintro s rfl;generalize f:Ha l[i] (jI (l.take i)) (jI (l.take i)).length=p at c
 simp only[go_sem,aP,eC,vY,dZ,Kj c,c,QO,pQ,pR,aO Id.A l i b,Id.A_def,(o_:p*24<=140737488355328),(g_:p<=maxLen),(o_:(p+1)*24<=140737488355328),(g_:p+1<=maxLen),
  (o_:p+((jI (l.take i)).length-p)=(jI (l.take i)).length),fQ i o_,
  (o_:(p+1+((jI (l.take i)).length-p))*24<=140737488355328),(g_:p+1+((jI (l.take i)).length-p)<=maxLen),cN,eB]
 rw[Wh l i b,Ps,f];simp only[bZ,QN,aC0,fG,Id.A_def,eB,jC,dM];intro _;simp only[go_sem,aP,aS (bP _),dE]
def Id.K(x:Id):C_:=[.int .i64 x.a,.int .i64 x.b,.int .u64 x.c]
def sQ(l:D_):D_:=l.mergeSort (λx y=>!(y.lt x))
def Wi(x y:Id):Int:=if x.lt y then -1 else if y.lt x then 1 else 0
def EG{α:Type}{p:α->Bool}{l:List α}{i:Nat}(a:i<l.length)(h:p l[i]=false):l.all p=false:=m_
def Bu{α:Type}{p:α->Bool}{l:List α}(h:∀j(a:j<l.length),j<l.length->p l[j]=true):l.all p=true:=by rw[oD];intro x b;obtain⟨j,a,rfl⟩:=CU b;exact h j a a
def vH{α:Type}{p:α->Bool}{l:List α}{i:Nat}(c:i<l.length)(d:∀j(a:j<l.length),j<i->p l[j]=true)(h:p l[i]=true):∀j(a:j<l.length),j<i+1->p l[j]=true:=λj a b=>m_
def aAu(o:OpM):aA PQ G wO [.ag o.A] [] λr T=>r=.v (.bool (fP o))/\T=[]:=by
 apply aC Jr;simp only[go_sem]
 repeat' (first
  |((with_reducible refine aL (λh=>?_) (λh=>?_))<;>(try simp only[vP,lI,sF]at h)<;>simp only[go_sem,aP,h,undef])
  |(with_reducible refine dO (f:=dP) ?_;refine aU (aB _) rfl (FF _ _ _) rfl ?_;simp only[go_sem,aP,undef])|(with_reducible refine dO (f:=jT) ?_;refine aU (aB _) rfl (FG _) rfl ?_;simp only[go_sem,aP,undef])|(with_reducible refine dO (f:=kQ) ?_;refine aU (aB _) rfl (Dh _) rfl ?_;simp only[go_sem,aP,undef]))
 all_goals simp_all[fP]
def Y0(l:List BoxM)(e:l.length<2^63-1):aA PQ G xW [F5 l] [] λr T=>r=.v (.bool (l.all wA))/\T=[]:=by
 apply aC Nk;simp only[go_sem];refine aQ l.length (λi=>⟨0,[(0,F5 l),(3,iv i)],[]⟩) (λi=>∀j(d:j<l.length),j<i->wA l[j]=true) ?_ ar ?_ ?_;simp only[go_sem]
 ·intro i a c;have b:(l.map BoxM.A)[i]?=some [uv l[i].To,uv l[i].Eph,uv l[i].Body,uv l[i].Tag]:=aO _ l i a;simp only[go_sem,aP,aT a,b]
  repeat' (first
   |((with_reducible refine aL (λh=>?_) (λh=>?_))<;>(try simp only[vP,lI,sF]at h)<;>simp only[go_sem,aP,a,b,fQ i o_,h,undef])
   |(with_reducible refine dO (f:=kQ) ?_;refine aU (aB _) rfl (Dh _) rfl ?_;simp only[go_sem,aP,a,b,fQ i o_,undef])|(with_reducible refine dO (f:=xV) ?_;refine aU (aB _) rfl (Nt _) rfl ?_;simp only[go_sem,aP,a,b,fQ i o_,undef]))
  all_goals first
   |exact vH a c (by clear c b;generalize l[i]=x at *;simp_all[wA])|rw[EG a (by clear c b;generalize l[i]=x at *;simp_all[wA])]
 intro c;simp only[go_sem,aP,aS (bP _),Bu c]
def aFn(o:OpM)(q:o.ok):aA PQ G Bn [.ag o.A] [] λr T=>r=.v (.bool (uA o))/\T=[]:=by
 apply aC Ni;have F:=q.guards.1;have E:=q.refs.1;have D:=q.past.1;have C:=q.path.1;have B:=q.hist.1;have z:=q.boxes.1;simp only[go_sem];refine aQ o.Guards.length (λi=>⟨0,[(1,.ptr 0 0),(3,iv i)],[some (.box o.A)]⟩) (λi=>∀j(m:j<o.Guards.length),j<i->yS o.Guards[j]=true) ?_ au ?_ ?_;simp only[go_sem]
 ·intro i d g;have k:(o.Guards.map λn=>[iv n])[i]?=some [iv o.Guards[i]]:=aO _ o.Guards i d;have l:o.Guards.length<(2^63-1):=o_;simp only[go_sem,aP,aT d,k]
  repeat' (first
   |((with_reducible refine aL (λh=>?_) (λh=>?_))<;>(try simp only[vP,lI,sF]at h)<;>simp only[go_sem,aP,d,k,fQ i o_,h,undef])
   |(with_reducible refine dO (f:=dP) ?_;refine aU (aB _) rfl (FF _ _ _) rfl ?_;simp only[go_sem,aP,d,k,fQ i o_,undef]))
  all_goals first
   |exact vH d g (by clear g k;generalize o.Guards[i]=x at *;simp_all[yS])|(have e:=EG (p:=yS) d (by clear g k;generalize o.Guards[i]=x at *;simp_all[yS]);simp[uA,e])
 intro g;simp only[go_sem,aP,aS (bP _)];have h3:=Bu g;clear g;refine aQ o.Refs.length (λi=>⟨0,[(1,.ptr 0 0),(4,iv i)],[some (.box o.A)]⟩) (λi=>∀j(m:j<o.Refs.length),j<i->SF o.Refs[j]=true) ?_ au ?_ ?_;simp only[go_sem]
 ·intro i d g;have k:(ul o.Refs)[i]?=some [uv o.Refs[i]]:=aO _ o.Refs i d;have l:o.Refs.length<(2^63-1):=o_;simp only[go_sem,aP,aT d,k]
  repeat' (first
   |((with_reducible refine aL (λh=>?_) (λh=>?_))<;>(try simp only[vP,lI,sF]at h)<;>simp only[go_sem,aP,d,k,fQ i o_,h,undef])
   |(with_reducible refine dO (f:=xV) ?_;refine aU (aB _) rfl (Nt _) rfl ?_;simp only[go_sem,aP,d,k,fQ i o_,undef]))
  all_goals first
   |exact vH d g (by clear g k;generalize o.Refs[i]=x at *;simp_all[SF])|(have e:=EG (p:=SF) d (by clear g k;generalize o.Refs[i]=x at *;simp_all[SF]);simp[uA,e])
 intro g;simp only[go_sem,aP,aS (bP _)];have y:=Bu g;clear g;refine aQ o.Past.length (λi=>⟨0,[(1,.ptr 0 0),(5,iv i)],[some (.box o.A)]⟩) (λi=>∀j(m:j<o.Past.length),j<i->jP o.Past[j]=true) ?_ au ?_ ?_;simp only[go_sem]
 ·intro i d g;have k:(o.Past.map Id.A)[i]?=some o.Past[i].A:=aO _ o.Past i d;have l:o.Past.length<(2^63-1):=o_;simp only[go_sem,aP,aT d,k]
  repeat' (first
   |((with_reducible refine aL (λh=>?_) (λh=>?_))<;>(try simp only[vP,lI,sF]at h)<;>simp only[go_sem,aP,d,k,fQ i o_,h,undef])
   |(with_reducible refine dO (f:=jT) ?_;refine aU (aB _) rfl (FG _) rfl ?_;simp only[go_sem,aP,d,k,fQ i o_,undef]))
  all_goals first
   |exact vH d g (by clear g k;generalize o.Past[i]=x at *;simp_all[jP])|(have e:=EG (p:=jP) d (by clear g k;generalize o.Past[i]=x at *;simp_all[jP]);simp[uA,e])
 intro g;simp only[go_sem,aP,aS (bP _)];have w:=Bu g;clear g;refine aQ o.Path.length (λi=>⟨0,[(1,.ptr 0 0),(6,iv i)],[some (.box o.A)]⟩) (λi=>∀j(m:j<o.Path.length),j<i->FI o.Path[j]=true) ?_ au ?_ ?_;simp only[go_sem]
 ·intro i d g;have k:(o.Path.map NodeM.A)[i]?=some [uv o.Path[i].Pub,F5 o.Path[i].Boxes]:=aO _ o.Path i d;have l:o.Path.length<(2^63-1):=o_;have s:o.Path[i].Boxes.length<(2^63-1):=by have:=(q.path.2 _ (eQ d)).2.1;omega
  simp only[go_sem,aP,aT d,k]
  repeat' (first
   |((with_reducible refine aL (λh=>?_) (λh=>?_))<;>(try simp only[vP,lI,sF]at h)<;>simp only[go_sem,aP,d,k,fQ i o_,h,undef])
   |(with_reducible refine dO (f:=kQ) ?_;refine aU (aB _) rfl (Dh _) rfl ?_;simp only[go_sem,aP,d,k,fQ i o_,undef])|(with_reducible refine dO (f:=xW) ?_;refine aU (aB _) rfl (Y0 _ s) rfl ?_;simp only[go_sem,aP,d,k,fQ i o_,undef]))
  all_goals first
   |exact vH d g (by clear g k;generalize o.Path[i]=x at *;simp_all[FI])|(have e:=EG (p:=FI) d (by clear g k;generalize o.Path[i]=x at *;simp_all[FI]);simp[uA,e])
 intro g;simp only[go_sem,aP,aS (bP _)];have u:=Bu g;clear g;refine aQ o.Hist.length (λi=>⟨0,[(1,.ptr 0 0),(7,iv i)],[some (.box o.A)]⟩) (λi=>∀j(m:j<o.Hist.length),j<i->FJ o.Hist[j]=true) ?_ au ?_ ?_;simp only[go_sem]
 ·intro i d g;have k:(o.Hist.map SealM.A)[i]?=some [.v (.int .i64 o.Hist[i].Of.a),.v (.int .i64 o.Hist[i].Of.b),.v (.int .u64 o.Hist[i].Of.c),.ls 1 (bl o.Hist[i].Body)]:=aO _ o.Hist i d;have l:o.Hist.length<(2^63-1):=o_;simp only[go_sem,aP,aT d,k]
  repeat' (first
   |((with_reducible refine aL (λh=>?_) (λh=>?_))<;>(try simp only[vP,lI,sF]at h)<;>simp only[go_sem,aP,d,k,fQ i o_,h,undef])
   |(with_reducible refine dO (f:=jT) ?_;refine aU (aB _) rfl (FG o.Hist[i].Of) rfl ?_;simp only[go_sem,aP,d,k,fQ i o_,undef]))
  all_goals first
   |exact vH d g (by clear g k;generalize o.Hist[i]=x at *;simp_all[FJ])|(have e:=EG (p:=FJ) d (by clear g k;generalize o.Hist[i]=x at *;simp_all[FJ]);simp[uA,e])
 intro g;simp only[go_sem,aP,aS (bP _)];have t:=Bu g;clear g;apply cX (Y0 o.Boxes o_);simp only[go_sem,uA,h3,y,w,u,t,mF]
def MH(n:NodeM):Bool:=decide ((n.Boxes.length:Int)<=12)
def MI(x:SealM):Bool:=decide ((x.Body.length:Int)<=208)
def aD0(n:NodeM):aA PQ G Bp [.ag n.A] [] λr T=>r=.v (.bool (MH n))/\T=[]:=by refine aC Nq ?_;simp only[go_sem,NodeM.A,aP,MH]
def aD1(x:SealM):aA PQ G Bq [.ag x.A] [] λr T=>r=.v (.bool (MI x))/\T=[]:=by refine aC Nr ?_;simp only[go_sem,SealM.A,aP,MI]
def aAy(o:OpM)(a:o.ok):aA PQ G Jq [.ag o.A] [] λr T=>r=.v (.bool (ED o))/\T=[]:=by
 apply aC SE;have c:=a.path.1;have b:=a.hist.1;have e:(o.Path.all λn=>decide ((n.Boxes.length:Int)<=12))=o.Path.all MH:=rfl;have d:(o.Hist.all λn=>decide ((n.Body.length:Int)<=208))=o.Hist.all MI:=rfl;simp only[go_sem]
 repeat' (first
  |((with_reducible refine aL (λh=>?_) (λh=>?_))<;>(try simp only[vP,lI,sF]at h)<;>simp only[go_sem,aP,gt_iff_lt,h,undef])
  |(with_reducible refine dO (f:=bM) ?_;refine aU (aB _) rfl (tR _ _ _) rfl ?_;simp only[go_sem,aP,gt_iff_lt,undef])|(with_reducible refine dO (f:=jX) ?_;refine aU (aB _) rfl (Nz Bp MH o.Path o_ λx _=>aD0 x) rfl ?_;simp only[go_sem,aP,gt_iff_lt,undef])|(with_reducible refine dO (f:=iU) ?_;refine aU (aB _) rfl (N0 Bq MI o.Hist o_ λx _=>aD1 x) rfl ?_;simp only[go_sem,aP,gt_iff_lt,undef]))
 all_goals simp only[ED,gt_iff_lt, *,lI,sF,Ed,EI,EB,EH,if_true,if_false,jJ]
def Wl(n:NodeM)(a:n.ok):aA PQ G wP [.ag n.A] [] λr T=>r=.v (.bool (FI n))/\T=[]:=by refine aC Js ?_;have b:=a.2.1;simp only[go_sem,NodeM.A,FI];apply cX (Bt n.Pub);cases h1:HK n.Pub;simp only[go_sem,lR];simp only[go_sem];apply cX (Ql wF wA n.Boxes o_ λx _=>Nu x);simp only[go_sem,mF]
def Wm(x:SealM):aA PQ G wQ [.ag x.A] [] λr T=>r=.v (.bool (FJ x))/\T=[]:=by refine aC Jt ?_;simp only[go_sem,SealM.A,FJ];apply cX (Dg x.Of);simp only[go_sem]
def Wo(n:Int):aA PQ G wR [iv n] [] λr T=>r=.v (.bool (yS n))/\T=[]:=by refine aC Ju ?_;simp only[go_sem,yS];apply cX (tR n 1 12);simp only[go_sem]
def UX (o:OpM) (ho:o.ok) (k:Nat) (O:k<65536):aA PQ G E7 [.ag o.A,iv k] [] λr T=>r=.v (.bool (CK o k))/\T=[]:=by
 apply aC Ns;rw[L9,bC];refine cB (λs=>s=⟨0,[(2,.ptr 0 0),(1,iv k)],[some (.box o.A)]⟩) ?_ ?_;simp only[go_sem];rintro s rfl;rw[bC];refine cB (λs=>s=⟨0,[(2,.ptr 0 0),(1,iv k)],[some (.box o.A)]⟩/\(oI o.By 1 12&&oI o.Seq 1 2147483647&&oI o.At 0 2147483647)=true) ?_ ?_
 ·simp only[go_sem]
  repeat' (first
   |((with_reducible refine aL (λh=>?_) (λh=>?_))<;>(try simp only[vP,lI,sF]at h)<;>simp only[go_sem,h,undef])
   |(with_reducible refine dO (f:=bM) ?_;refine aU (aB _) rfl (tR _ _ _) rfl ?_;simp only[go_sem,undef]))
  all_goals simp only[CK, *,aBY,lR,Ea]
 rintro s ⟨rfl,bg⟩;have B:CK o k=(Pm k (FH o)&&(o.Guards.all yS&&(o.Refs.all SF&&(o.Past.all jP&&(o.Path.all FI&&(o.Boxes.all wA&&o.Hist.all FJ)))))):=by simp_all[CK,mF]
 rw[bC];refine cB (λs=>s=⟨0,[(7,iv o.Guards.length),(6,iv 1),(5,iv 1),(2,.ptr 0 0),(1,iv k)],[some (.box o.A)]⟩) ?_ ?_;simp only[go_sem,aP];rintro s rfl;rw[bC];refine cB (λs=>s=⟨0,[(8,.v (.bool (oI o.Member 1 8))),(7,iv o.Guards.length),(6,iv 1),(5,iv 1),(2,.ptr 0 0),(1,iv k)],[some (.box o.A)]⟩) ?_ ?_;simp only[go_sem];apply cX (tR o.Member 1 8);simp only[go_sem];rintro s rfl;obtain⟨H,bq⟩:∃H:Int,H=if o.Kind=3 then 0 else 1:=⟨_,rfl⟩
 obtain⟨E,bn⟩:∃E:Int,E=if o.Kind=1 then 0 else 1:=⟨_,rfl⟩
 obtain⟨F,bo⟩:∃F:Int,F=if o.Kind=1 then 20 else(o.Guards.length:Int):=⟨_,rfl⟩
 obtain⟨I,bp⟩:∃I:Bool,I=if o.Kind=3 then(oI o.Member 1 8&&(o.Device==0))||((o.Member==0)&&(o.Device !=0)) else oI o.Member 1 8:=⟨_,rfl⟩
 have hE:FH o=[(1,oI o.Device H 12),(2,oI o.Old 1 12),(4,I),(8,oI o.Role 1 3),(64,oI o.N 0 2147483647),(4096,oI o.Wait 0 2147483647),(2048,oI o.Need E F),(32,jP o.Epoch),(512,jP o.Of),(16384,HK o.Pub)]:=by rw[bq,bn,bo,bp];rfl
 apply aAw;rw[bC];refine cB (λs=>s.r=0/\s.T=[some (.box o.A)]/\sA s.s=[(1,iv k),(2,.ptr 0 0),(5,iv H),(6,iv E),(7,iv F),(8,.v (.bool I))]) ?_ ?_
 ·simp only[go_sem];clear hE;generalize oI o.Member 1 8=im at *
  repeat' (first
   |((with_reducible refine aL (λh=>?_) (λh=>?_))<;>(try simp only[vP,lI,sF]at h)<;>simp only[go_sem,h,undef]))
  all_goals simp_all
 rintro⟨r1,M,T1⟩ ⟨h1,h2,h3⟩;simp only at h1 h2 h3;subst h1 h2;have Y:M.Perm [(1,iv k),(2,.ptr 0 0),(5,iv H),(6,iv E),(7,iv F),(8,.v (.bool I))]:=by rw[<-h3];exact(UV M).symm
 have V:(M.map (·.1)).Perm [1,2,5,6,7,8]:=Y.map _;have hg:∀j x,(j,x)∈[(1,iv k),(2,AV.ptr 0 0),(5,iv H),(6,iv E),(7,iv F),(8,.v (.bool I))]->bA M j=x:=λj x hm=>Cn (V.nodup_iff.2 d_) (Y.mem_iff.2 hm);have w:∀j,j∉[1,2,5,6,7,8]->LE M j=M:=λj hj=>Ix λh=>hj (V.mem_iff.1 h);have g1:=hg 1 (iv k) s_;have g2:=hg 2 (.ptr 0 0) s_;have g5:=hg 5 (iv H) s_;have g6:=hg 6 (iv E) s_;have g7:=hg 7 (iv F) s_;have g8:=hg 8 (.v (.bool I)) s_;simp only[go_sem,g2,g5,g6,g7,g8,w 59 d_,w 60 d_,w 61 d_,w 63 d_,w 64 d_,w 66 d_,w 67 d_,w 68 d_,w 70 d_,w 71 d_,w 73 d_,w 74 d_,w 76 d_,w 77 d_,w 78 d_,w 79 d_,w 81 d_,w 82 d_,w 84 d_,w 85 d_,w 87 d_,w 88 d_];obtain⟨S,d⟩:∃S:List (Nat×AV),S=[(88,uv o.Pub),(87,.ptr 0 23),(85,.ag o.Of.A),(84,.ptr 0 16),(82,.ag o.Epoch.A),(81,.ptr 0 10),(79,iv F),(78,iv E),(77,iv o.Need),(76,.ptr 0 20),(74,iv o.Wait),(73,.ptr 0 21),(71,iv o.N),(70,.ptr 0 13),(68,iv o.Role),(67,.ptr 0 8),(66,.v (.bool I)),(64,iv o.Old),(63,.ptr 0 6),(61,iv H),(60,iv o.Device),(59,.ptr 0 5)]:=⟨_,rfl⟩
 have aa:((S++M).map (·.1)).Perm ([88,87,85,84,82,81,79,78,77,76,74,73,71,70,68,67,66,64,63,61,60,59]++[1,2,5,6,7,8]):=h_;have a:∀j,j∈([88,87,85,84,82,81,79,78,77,76,74,73,71,70,68,67,66,64,63,61,60,59]++[1,2,5,6,7,8]:V_)->j∈(S++M).map (·.1):=λj hj=>aa.mem_iff.2 hj;refine aFp λp Z=>?_;have av:∀vs:Nat->Bool,vs=(λj=>if j=62 then oI o.Device H 12 else if j=65 then oI o.Old 1 12 else if j=69 then oI o.Role 1 3 else if j=72 then oI o.N 0 2147483647 else if j=75 then oI o.Wait 0 2147483647 else if j=80 then oI o.Need E F else if j=83 then jP o.Epoch else if j=86 then jP o.Of else if j=89 then HK o.Pub else I)->([⟨5,1,62,1⟩,⟨9,2,65,2⟩,⟨11,4,66,0⟩,⟨15,8,69,3⟩,⟨19,64,72,4⟩,⟨23,4096,75,5⟩,⟨29,2048,80,6⟩,⟨33,32,83,7⟩,⟨37,512,86,8⟩,⟨41,16384,89,9⟩]:List IE).map (λe=>(e.k,vs e.s))=FH o:=λvs hv=>by subst hv;rw[hE];rfl
 obtain⟨vs,W⟩:∃vs:Nat->Bool,vs=(λj=>if j=62 then oI o.Device H 12 else if j=65 then oI o.Old 1 12 else if j=69 then oI o.Role 1 3 else if j=72 then oI o.N 0 2147483647 else if j=75 then oI o.Wait 0 2147483647 else if j=80 then oI o.Need E F else if j=83 then jP o.Epoch else if j=86 then jP o.Of else if j=89 then HK o.Pub else I):=⟨_,rfl⟩
 refine aHV (P:=PQ) (G:=G) (p:=p) (Q:=[39,38,35,34,31,30,27,26,25,24,21,20,17,16,13,12,10,7,6,3,2,1]) (m:=58) (z:=42) (y:=43) (dz:=90) (dy:=91) (r0:=0) (cs:=[⟨4,62,bM,[.tmp 60,.tmp 61,.const (.int .i64 12)]⟩,⟨8,65,bM,[.tmp 64,.const (.int .i64 1),.const (.int .i64 12)]⟩,⟨14,69,bM,[.tmp 68,.const (.int .i64 1),.const (.int .i64 3)]⟩,⟨18,72,bM,[.tmp 71,.const (.int .i64 0),.const (.int .i64 2147483647)]⟩,⟨22,75,bM,[.tmp 74,.const (.int .i64 0),.const (.int .i64 2147483647)]⟩,⟨28,80,bM,[.tmp 77,.tmp 78,.tmp 79]⟩,⟨32,83,fC,[.tmp 82]⟩,⟨36,86,fC,[.tmp 85]⟩,⟨40,89,jS,[.tmp 88]⟩]) (es:=[⟨5,1,62,1⟩,⟨9,2,65,2⟩,⟨11,4,66,0⟩,⟨15,8,69,3⟩,⟨19,64,72,4⟩,⟨23,4096,75,5⟩,⟨29,2048,80,6⟩,⟨33,32,83,7⟩,⟨37,512,86,8⟩,⟨41,16384,89,9⟩]) (s0:=S++M) (T0:=[some (.box o.A)])
  (vs:=vs) ?_ ?_ ?_ ?_ ?_ ?_ ?_ d_ ?_ ?_ ?_ d_ ?_ 23 false false 0 [] _ _ (pR _) Mm (λe h=>by simp at h) ?_ ?_ (.inr ⟨rfl,rfl⟩) d_
 rw[Z];constructor<;>decide +kernel;rw[Z];rfl;rw[Z];simp;rw[Z];simp;rw[Z];rfl;rw[Z];rfl;exact((aa.append_right _).nodup_iff).2 d_;intro c hc s T K' g O;have bf:bA s 59=.ptr 0 5:=(g 59 (a 59 d_)).trans e_;have an:bA s 60=iv o.Device:=(g 60 (a 60 d_)).trans e_;have am:bA s 61=iv H:=(g 61 (a 61 d_)).trans e_;have be:bA s 63=.ptr 0 6:=(g 63 (a 63 d_)).trans e_;have al:bA s 64=iv o.Old:=(g 64 (a 64 d_)).trans e_;have bd:bA s 66=.v (.bool I):=(g 66 (a 66 d_)).trans e_;have bc:bA s 67=.ptr 0 8:=(g 67 (a 67 d_)).trans e_;have ak:bA s 68=iv o.Role:=(g 68 (a 68 d_)).trans e_;have bb:bA s 70=.ptr 0 13:=(g 70 (a 70 d_)).trans e_;have aj:bA s 71=iv o.N:=(g 71 (a 71 d_)).trans e_;have ba:bA s 73=.ptr 0 21:=(g 73 (a 73 d_)).trans e_;have ai:bA s 74=iv o.Wait:=(g 74 (a 74 d_)).trans e_;have az:bA s 76=.ptr 0 20:=(g 76 (a 76 d_)).trans e_;have ah:bA s 77=iv o.Need:=(g 77 (a 77 d_)).trans e_;have af:bA s 78=iv E:=(g 78 (a 78 d_)).trans e_;have ae:bA s 79=iv F:=(g 79 (a 79 d_)).trans e_;have ay:bA s 81=.ptr 0 10:=(g 81 (a 81 d_)).trans e_;have ad:bA s 82=.ag o.Epoch.A:=(g 82 (a 82 d_)).trans e_;have ax:bA s 84=.ptr 0 16:=(g 84 (a 84 d_)).trans e_;have ac:bA s 85=.ag o.Of.A:=(g 85 (a 85 d_)).trans e_;have aw:bA s 87=.ptr 0 23:=(g 87 (a 87 d_)).trans e_;have ab:bA s 88=uv o.Pub:=(g 88 (a 88 d_)).trans e_;have e1:bA s 1=iv (k:Int):=(g 1 (a 1 d_)).trans (by rw[d];exact g1);have e2:bA s 2=.ptr 0 0:=(g 2 (a 2 d_)).trans (by rw[d];exact g2);have e5:bA s 5=iv H:=(g 5 (a 5 d_)).trans (by rw[d];exact g5);have e6:bA s 6=iv E:=(g 6 (a 6 d_)).trans (by rw[d];exact g6);have e7:bA s 7=iv F:=(g 7 (a 7 d_)).trans (by rw[d];exact g7);have e8:bA s 8=.v (.bool I):=(g 8 (a 8 d_)).trans (by rw[d];exact g8);simp only[cS,pP,or_false]at hc;subst W;rcases hc with rfl|rfl|rfl|rfl|rfl|rfl|rfl|rfl|rfl<;>simp only[fG,uP,dW,an,am,al,ak,aj,ai,ah,af,ae,ad,ac,ab];exact aU (aB _) rfl (tR o.Device H 12) rfl O;exact aU (aB _) rfl (tR o.Old 1 12) rfl O;exact aU (aB _) rfl (tR o.Role 1 3) rfl O;exact aU (aB _) rfl (tR o.N 0 2147483647) rfl O;exact aU (aB _) rfl (tR o.Wait 0 2147483647) rfl O;exact aU (aB _) rfl (tR o.Need E F) rfl O;exact aU (aB _) rfl (Dg o.Epoch) rfl O;exact aU (aB _) rfl (Dg o.Of) rfl O;exact aU (aB _) rfl (Bt o.Pub) rfl O;intro e he;simp only[cS,pP,or_false]at he;subst W;rcases he with rfl|rfl|rfl|rfl|rfl|rfl|rfl|rfl|rfl|rfl;exact .inr ⟨_,rfl,d_,rfl⟩;exact .inr ⟨_,rfl,d_,rfl⟩;exact .inl ⟨a 66 d_,e_⟩;exact .inr ⟨_,rfl,d_,rfl⟩;exact .inr ⟨_,rfl,d_,rfl⟩;exact .inr ⟨_,rfl,d_,rfl⟩;exact .inr ⟨_,rfl,d_,rfl⟩;exact .inr ⟨_,rfl,d_,rfl⟩;exact .inr ⟨_,rfl,d_,rfl⟩;exact .inr ⟨_,rfl,d_,rfl⟩;intro s T g hT q ao o' aq;have eT:T[0]?=some (some (.box o.A)):=bH (hT 0 Nat.zero_lt_one);have bf:bA s 59=.ptr 0 5:=(g 59 (a 59 d_)).trans e_;have an:bA s 60=iv o.Device:=(g 60 (a 60 d_)).trans e_;have am:bA s 61=iv H:=(g 61 (a 61 d_)).trans e_;have be:bA s 63=.ptr 0 6:=(g 63 (a 63 d_)).trans e_;have al:bA s 64=iv o.Old:=(g 64 (a 64 d_)).trans e_;have bd:bA s 66=.v (.bool I):=(g 66 (a 66 d_)).trans e_;have bc:bA s 67=.ptr 0 8:=(g 67 (a 67 d_)).trans e_;have ak:bA s 68=iv o.Role:=(g 68 (a 68 d_)).trans e_;have bb:bA s 70=.ptr 0 13:=(g 70 (a 70 d_)).trans e_;have aj:bA s 71=iv o.N:=(g 71 (a 71 d_)).trans e_;have ba:bA s 73=.ptr 0 21:=(g 73 (a 73 d_)).trans e_;have ai:bA s 74=iv o.Wait:=(g 74 (a 74 d_)).trans e_;have az:bA s 76=.ptr 0 20:=(g 76 (a 76 d_)).trans e_;have ah:bA s 77=iv o.Need:=(g 77 (a 77 d_)).trans e_;have af:bA s 78=iv E:=(g 78 (a 78 d_)).trans e_;have ae:bA s 79=iv F:=(g 79 (a 79 d_)).trans e_;have ay:bA s 81=.ptr 0 10:=(g 81 (a 81 d_)).trans e_;have ad:bA s 82=.ag o.Epoch.A:=(g 82 (a 82 d_)).trans e_;have ax:bA s 84=.ptr 0 16:=(g 84 (a 84 d_)).trans e_;have ac:bA s 85=.ag o.Of.A:=(g 85 (a 85 d_)).trans e_;have aw:bA s 87=.ptr 0 23:=(g 87 (a 87 d_)).trans e_;have ab:bA s 88=uv o.Pub:=(g 88 (a 88 d_)).trans e_;have e1:bA s 1=iv (k:Int):=(g 1 (a 1 d_)).trans (by rw[d];exact g1);have e2:bA s 2=.ptr 0 0:=(g 2 (a 2 d_)).trans (by rw[d];exact g2);have e5:bA s 5=iv H:=(g 5 (a 5 d_)).trans (by rw[d];exact g5);have e6:bA s 6=iv E:=(g 6 (a 6 d_)).trans (by rw[d];exact g6);have e7:bA s 7=iv F:=(g 7 (a 7 d_)).trans (by rw[d];exact g7);have e8:bA s 8=.v (.bool I):=(g 8 (a 8 d_)).trans (by rw[d];exact g8);rw[Z]at aq;simp only[cS,pP,or_false]at ao;rcases ao with rfl|rfl|rfl|rfl|rfl|rfl|rfl|rfl|rfl|rfl|rfl|rfl|rfl|rfl|rfl|rfl|rfl|rfl|rfl|rfl|rfl|rfl<;>(obtain rfl:=Option.some.inj aq;simp only[go_sem,eT,bf,an,am,be,al,bd,bc,ak,bb,aj,ba,ai,az,ah,af,ae,ay,ad,ax,ac,aw,ab,e2,e5,e6,e7,e8])
 ·intro X hX;rw[av vs W]at hX;have R:X.Perm (FH o):=hX;have K:Pm k X=Pm k (FH o):=by unfold Pm;rw[CT,oD,oD];exact⟨λh x J=>h x (R.mem_iff.2 J),λh x J=>h x (R.mem_iff.1 J)⟩
  have bu:∀e∈X,∃j:Nat,e.1=(j:Int)/\j<65536:=λe he=>by have:=R.mem_iff.1 he;simp only[FH,cS,pP,or_false]at this;rcases this with rfl|rfl|rfl|rfl|rfl|rfl|rfl|rfl|rfl|rfl;exact⟨1,rfl,d_⟩;exact⟨2,rfl,d_⟩;exact⟨4,rfl,d_⟩;exact⟨8,rfl,d_⟩;exact⟨64,rfl,d_⟩;exact⟨4096,rfl,d_⟩;exact⟨2048,rfl,d_⟩;exact⟨32,rfl,d_⟩;exact⟨512,rfl,d_⟩;exact⟨16384,rfl,d_⟩
  have U:X.length=10:=R.length_eq;rw[<-K]at B;clear hX R hE av K;have au:=US (r:=0) (T:=[some (.box o.A)]++[some (MP X),some (.mit (some 1) X.length [] X.length)]) (s:=(91,.ptr 2 0)::(90,.mp 1)::Qp 58 [⟨4,62,bM,[.tmp 60,.tmp 61,.const (.int .i64 12)]⟩,⟨8,65,bM,[.tmp 64,.const (.int .i64 1),.const (.int .i64 12)]⟩,⟨14,69,bM,[.tmp 68,.const (.int .i64 1),.const (.int .i64 3)]⟩,⟨18,72,bM,[.tmp 71,.const (.int .i64 0),.const (.int .i64 2147483647)]⟩,⟨22,75,bM,[.tmp 74,.const (.int .i64 0),.const (.int .i64 2147483647)]⟩,⟨28,80,bM,[.tmp 77,.tmp 78,.tmp 79]⟩,⟨32,83,fC,[.tmp 82]⟩,⟨36,86,fC,[.tmp 85]⟩,⟨40,89,jS,[.tmp 88]⟩] (S++M) 1 vs true 9) (t:=(91,.ptr 2 0)::(90,.mp 1)::Qp 58 [⟨4,62,bM,[.tmp 60,.tmp 61,.const (.int .i64 12)]⟩,⟨8,65,bM,[.tmp 64,.const (.int .i64 1),.const (.int .i64 12)]⟩,⟨14,69,bM,[.tmp 68,.const (.int .i64 1),.const (.int .i64 3)]⟩,⟨18,72,bM,[.tmp 71,.const (.int .i64 0),.const (.int .i64 2147483647)]⟩,⟨22,75,bM,[.tmp 74,.const (.int .i64 0),.const (.int .i64 2147483647)]⟩,⟨28,80,bM,[.tmp 77,.tmp 78,.tmp 79]⟩,⟨32,83,fC,[.tmp 82]⟩,⟨36,86,fC,[.tmp 85]⟩,⟨40,89,jS,[.tmp 88]⟩] (S++[(1,iv k),(2,.ptr 0 0),(5,iv H),(6,iv E),(7,iv F),(8,.v (.bool I))]) 1 vs true 9)
   ?_ ((((Y.append_left S).append_right _).cons _).cons _)
  ·rw [show([some (AObj.box o.A)]:aK).length=1 from rfl,show([⟨4,62,bM,[.tmp 60,.tmp 61,.const (.int .i64 12)]⟩,⟨8,65,bM,[.tmp 64,.const (.int .i64 1),.const (.int .i64 12)]⟩,⟨14,69,bM,[.tmp 68,.const (.int .i64 1),.const (.int .i64 3)]⟩,⟨18,72,bM,[.tmp 71,.const (.int .i64 0),.const (.int .i64 2147483647)]⟩,⟨22,75,bM,[.tmp 74,.const (.int .i64 0),.const (.int .i64 2147483647)]⟩,⟨28,80,bM,[.tmp 77,.tmp 78,.tmp 79]⟩,⟨32,83,fC,[.tmp 82]⟩,⟨36,86,fC,[.tmp 85]⟩,⟨40,89,jS,[.tmp 88]⟩]:List CE).length=9 from rfl,au,d];simp only[go_sem,Qp];clear au;refine cO (λn st=>∃aAD:V_,n=10-aAD.length/\aAD.Nodup/\(∀b∈aAD,b<X.length)/\(∀b∈aAD,∀h:b<X.length,((k &&& X[b].1.toNat==0)||X[b].2)=true)/\st=⟨0,[(1,iv k),(2,.ptr 0 0),(91,.ptr 1 0)],[some (.box o.A),some (.mit (some 2) X.length aAD X.length),some (MP X)]⟩) 10 ⟨[],rfl,Mm,λb L=>by simp at L,λb L=>by simp at L,?_⟩ ?_;simp only[go_sem,MP];rintro n st ⟨aAD,rfl,hn,g,ap,rfl⟩;have bv:aAD.length<=10:=by have h1:aAD.length<=(List.range X.length).length:=xY hn λb L=>uM.2 (g b L);simpa[U]using h1
   simp only[go_sem];refine aGW (i:=1) (j:=2) rfl rfl (cN _) (cN _) (λK=>?_) λb L bk=>?_
   ·have hX:Pm k X=true:=by unfold Pm;rw[oD];intro x J;obtain⟨j,hj,rfl⟩:=CU J;exact ap j (K j hj) hj
    rw[hX,mF]at B;have q1:=ho.guards.1;have q2:=ho.refs.1;have q3:=ho.past.1;have q4:=ho.path.1;have q5:=ho.boxes.1;have q6:=ho.hist.1;simp only[go_sem]
    repeat' (first
     |((with_reducible refine aL (λh=>?_) (λh=>?_))<;>(try simp only[vP,lI,sF]at h)<;>simp only[go_sem,h,undef])
     |(with_reducible refine dO (f:=AA) ?_;refine aU (aB _) rfl (aAj wR yS o.Guards o_ λx _=>Wo x) rfl ?_;simp only[go_sem,undef])|(with_reducible refine dO (f:=tN) ?_;refine aU (aB _) rfl (aAm Da SF o.Refs o_ λx _=>MC (x:Int)) rfl ?_;simp only[go_sem,undef])|(with_reducible refine dO (f:=oR) ?_;refine aU (aB _) rfl (aCM fC jP o.Past o_ λx _=>Dg x) rfl ?_;simp only[go_sem,undef])|(with_reducible refine dO (f:=jX) ?_;refine aU (aB _) rfl (Nz wP FI o.Path o_ λx J=>Wl x (ho.path.2 x J)) rfl ?_;simp only[go_sem,undef])|(with_reducible refine dO (f:=nO) ?_;refine aU (aB _) rfl (Ql wF wA o.Boxes o_ λx _=>Nu x) rfl ?_;simp only[go_sem,undef])|(with_reducible refine dO (f:=iU) ?_;refine aU (aB _) rfl (N0 wQ FJ o.Hist o_ λx _=>Wm x) rfl ?_;simp only[go_sem,undef]))
    all_goals rw[B]
    all_goals simp[*]
   ·obtain⟨j,h1,h2⟩:=bu X[b] (eQ L);have h3:(X.map λe=>[Value.int .i64 e.1])[b]?=some [.int .i64 (j:Int)]:=by simp[L,h1]
    have h4:(X.map λe=>AV.v (.bool e.2))[b]?=some (.v (.bool X[b].2)):=by simp[L]
    have bt:iY false [Value.int .i64 (j:Int)]=.int .i64 (j:Int):=fI rfl rfl;have bj:=aAe k j O h2;have C:((k &&& X[b].1.toNat==0)||X[b].2)=true->∃m,m<10-aAD.length/\∃l:V_,m=10-l.length/\l.Nodup/\(∀b∈l,b<X.length)/\(∀b∈l,∀h:b<X.length,((k &&& X[b].1.toNat==0)||X[b].2)=true)/\(⟨0,[(1,iv k),(2,.ptr 0 0),(91,.ptr 1 0)],[some (.box o.A),some (.mit (some 2) X.length (aAD++[b]) X.length),some (MP X)]⟩:St)=⟨0,[(1,iv k),(2,.ptr 0 0),(91,.ptr 1 0)],[some (.box o.A),some (.mit (some 2) X.length l X.length),some (MP X)]⟩:=λhv=>by have ar:(aAD++[b]).Nodup:=vQ.2 ⟨hn,s_,λx J y hy e=>bk (by rw[cA]at hy;rw[<-hy,<-e];exact J)⟩;have br:(aAD++[b]).length<=(List.range X.length).length:=xY ar λx J=>uM.2 ((cG.1 J).elim (g x) λh=>by rw[cA.1 h];exact L);simp[U]at br;refine⟨10-(aAD++[b]).length,c_,aAD++[b],rfl,ar,λx J=>(cG.1 J).elim (g x) λh=>by rw[cA.1 h];exact L,λx J bh=>?_,rfl⟩;rcases cG.1 J with h|h;exact ap x h bh;obtain rfl:=cA.1 h;exact hv
    have D:((k &&& X[b].1.toNat==0)||X[b].2)=false->CK o k=false:=λhv=>by
     rw[B];have:Pm k X=false:=by unfold Pm;rw[List.all_eq_false];exact⟨X[b],eQ L,by rw[hv];simp⟩
     rw[this,lR]
    rw[h1]at C D;simp only[nI]at C D;have bm:(((k &&& j:Nat):Int)!=0)=!(k &&& j==0):=by rw[CT];simp
    generalize X[b].2=t at h4 C D;simp only[go_sem,MP,Ke,CJ L,h3,h4,↓bt,↓bj,bm,h1];generalize(k &&& j==0)=u at C D;cases u<;>cases t<;>simp only[go_sem,MP]
    all_goals first
     |exact C rfl|rw[D rfl]
  have bi:(((91,AV.ptr 2 0)::(90,AV.mp 1)::Qp 58 [⟨4,62,bM,[.tmp 60,.tmp 61,.const (.int .i64 12)]⟩,⟨8,65,bM,[.tmp 64,.const (.int .i64 1),.const (.int .i64 12)]⟩,⟨14,69,bM,[.tmp 68,.const (.int .i64 1),.const (.int .i64 3)]⟩,⟨18,72,bM,[.tmp 71,.const (.int .i64 0),.const (.int .i64 2147483647)]⟩,⟨22,75,bM,[.tmp 74,.const (.int .i64 0),.const (.int .i64 2147483647)]⟩,⟨28,80,bM,[.tmp 77,.tmp 78,.tmp 79]⟩,⟨32,83,fC,[.tmp 82]⟩,⟨36,86,fC,[.tmp 85]⟩,⟨40,89,jS,[.tmp 88]⟩] (S++M) 1 vs true 9).map (·.1)).Perm (91::90::(([88,87,85,84,82,81,79,78,77,76,74,73,71,70,68,67,66,64,63,61,60,59]++[1,2,5,6,7,8])++[62,65,69,72,75,80,83,86,89,58])):=by simp only[fG];refine List.Perm.cons _ (List.Perm.cons _ ?_);rw[Qp,bZ];exact aa.append_right _
  exact bi.nodup_iff.2 d_
 simp only[Qp,jJ,if_false,uQ,uP,jO,d];exact List.Perm.refl _;intro j;simp
def Co{α:Type}{a:α->α->Bool}:∀{l:List α},nT a l=true↔∀j(h:j+1<l.length),a l[j] l[j+1]=true|[]=>by simp[nT]|[x]=>by simp[nT]|x::y::l=>by simp only[nT,zJ,Co (l:=y::l)];constructor;grind;intro h;exact⟨h 0 s_,λj b=>h (j+1) T_⟩
def Y1{α:Type}{a:α->α->Bool}{l:List α}{i:Nat}(b:i+1<l.length)(h:a l[i] l[i+1]=false):nT a l=false:=by
 cases e:nT a l with
 |false=>rfl|true=>have:=Co.1 e i b;rw[h]at this;simp at this
def aHW(o:OpM)(m:o.ok):aA PQ G DZ [.ag o.A] [] λr T=>r=.v (.bool (ED o))/\T=[]:=by
 apply aC Pg;have s:=m.path.1;have q:=m.hist.1;simp only[go_sem];refine aQ o.Path.length (λi=>⟨0,[(1,.ptr 0 0),(3,iv i)],[some (.box o.A)]⟩) (λi=>∀j(l:j<o.Path.length),j<i->(λn:NodeM=>decide ((n.Boxes.length:Int)<=12)) o.Path[j]=true) ?_ (by intro j l h;omega) ?_ ?_;simp only[go_sem]
 ·intro i g d;have k:(o.Path.map NodeM.A)[i]?=some [uv o.Path[i].Pub,F5 o.Path[i].Boxes]:=aO _ o.Path i g;simp only[go_sem,aP,aT g,k]
  repeat' (first
   |((with_reducible refine aL (λh=>?_) (λh=>?_))<;>(try simp only[vP,lI,sF]at h)<;>simp only[go_sem,aP,g,k,fQ i o_,h,undef]))
  all_goals first
   |(refine vH (p:=λn:NodeM=>decide ((n.Boxes.length:Int)<=12)) g d ?_;clear d k;generalize o.Path[i]=x at *;simp at *;omega)|(have e:=EG (p:=λn:NodeM=>decide ((n.Boxes.length:Int)<=12)) g (by clear d k;generalize o.Path[i]=x at *;simp at *;omega);simp only[ED,e,sF,Ed,EI])
 intro d;have h3:=Bu (p:=λn:NodeM=>decide ((n.Boxes.length:Int)<=12)) d;clear d;simp only[go_sem,aP,aS (bP _)];refine aQ o.Hist.length (λi=>⟨0,[(1,.ptr 0 0),(4,iv i)],[some (.box o.A)]⟩) (λi=>∀j(l:j<o.Hist.length),j<i->(λx:SealM=>decide ((x.Body.length:Int)<=208)) o.Hist[j]=true) ?_ (by intro j l h;omega) ?_ ?_;simp only[go_sem]
 ·intro i g d;have k:(o.Hist.map SealM.A)[i]?=some [.v (.int .i64 o.Hist[i].Of.a),.v (.int .i64 o.Hist[i].Of.b),.v (.int .u64 o.Hist[i].Of.c),.ls 1 (bl o.Hist[i].Body)]:=aO _ o.Hist i g;simp only[go_sem,aP,aT g,k]
  repeat' (first
   |((with_reducible refine aL (λh=>?_) (λh=>?_))<;>(try simp only[vP,lI,sF]at h)<;>simp only[go_sem,aP,g,k,fQ i o_,h,undef]))
  all_goals first
   |(refine vH (p:=λx:SealM=>decide ((x.Body.length:Int)<=208)) g d ?_;clear d k;generalize o.Hist[i]=x at *;simp at *;omega)|(have e:=EG (p:=λx:SealM=>decide ((x.Body.length:Int)<=208)) g (by clear d k;generalize o.Hist[i]=x at *;simp at *;omega);simp only[ED,e,sF,Ed,EI])
 intro d;have t:=Bu (p:=λx:SealM=>decide ((x.Body.length:Int)<=208)) d;clear d;simp only[go_sem,aP,aS (bP _)]
 repeat' (first
  |((with_reducible refine aL (λh=>?_) (λh=>?_))<;>(try simp only[vP,lI,sF]at h)<;>simp only[go_sem,aP,h,undef])
  |(with_reducible refine dO (f:=dP) ?_;refine aU (aB _) rfl (FF _ _ _) rfl ?_;simp only[go_sem,aP,undef]))
 all_goals simp only[ED, *,lI,Ed,EI,EB,EH,if_true,if_false,jJ]
def aFq(o:OpM)(g:o.ok):aA PQ G E3 [.ag o.A] [] λr T=>r=.v (.int .i64 (jB o))/\T=[]:=by
 apply aC Ng;have x:=g.past.1;have w:=g.guards.1;have u:∀{a b:Int},a=b->AV.v (.int .i64 a)=.v (.int .i64 b):=λh=>by rw[h]
 simp only[go_sem]
 repeat' (first
  |((with_reducible refine aL (λh=>?_) (λh=>?_))<;>(try simp only[vP,lI,sF]at h)<;>simp only[go_sem,aP,gt_iff_lt,h,undef])
  |(with_reducible refine dO (f:=DY) ?_;refine aU (aB _) rfl (aHL o) rfl ?_;simp only[go_sem,aP,gt_iff_lt,undef])
  |(with_reducible refine dO (f:=wO) ?_;refine aU (aB _) rfl (aAu o) rfl ?_;simp only[go_sem,aP,gt_iff_lt,undef])
  |(with_reducible refine dO (f:=Bn) ?_;refine aU (aB _) rfl (aFn o g) rfl ?_;simp only[go_sem,aP,gt_iff_lt,undef])
  |(with_reducible refine dO (f:=DZ) ?_;refine aU (aB _) rfl (aHW o g) rfl ?_;simp only[go_sem,aP,gt_iff_lt,undef]))
 all_goals try (simp only[decide_eq_true_eq,decide_eq_false_iff_not]at *;simp[jB, *];done)
 rename_i h1 h2 h3 B z;have y:=h;clear h;simp only[decide_eq_false_iff_not]at h1 h2;have c:jB o=if nT Id.lt o.Past=false then 6 else if nT (λa b:Int=>decide (a<b)) o.Guards=false then 6 else if decide (o.Past.length=0)≠decide (o.Kind=1) then 10 else 0:=by grind[jB]
 refine aQ (o.Past.length-1) (λi=>⟨0,[(1,.ptr 0 0),(3,iv ((i+1:Nat):Int))],[some (.box o.A)]⟩) (λi=>∀j(d:j+1<o.Past.length),j<i->o.Past[j].lt o.Past[j+1]=true) ?_ ar ?_ ?_;simp only[go_sem];intro i t e;have p:(o.Past.map Id.A)[i]?=some o.Past[i].A:=aO _ o.Past i o_;have m:(o.Past.map Id.A)[i+1]?=some o.Past[i+1].A:=aO _ o.Past (i+1) o_;simp only[go_sem,aP,aT (o_:i+1<o.Past.length),p,m,F3 (o_:i<2^63-1)];apply cX (OD o.Past[i] o.Past[i+1]);simp only[go_sem];refine aL (λh=>?_) (λh=>?_)<;>simp only[go_sem,pC (o_:i+1<2^63-1)];rw[c,if_pos (Y1 (o_:i+1<o.Past.length) w_)];grind;intro e;have l:nT Id.lt o.Past=true:=Co.2 λj d=>e j d o_;rw[if_neg (by simp[l])]at c;simp only[go_sem,aP,aS (o_:¬(o.Past.length-1+1<o.Past.length))];clear e;refine aQ (o.Guards.length-1) (λi=>⟨0,[(1,.ptr 0 0),(4,iv ((i+1:Nat):Int))],[some (.box o.A)]⟩) (λi=>∀j(d:j+1<o.Guards.length),j<i->decide (o.Guards[j]<o.Guards[j+1])=true) ?_ ar ?_ ?_;simp only[go_sem];intro i t e;have p:(o.Guards.map λn=>[iv n])[i]?=some [iv o.Guards[i]]:=aO _ o.Guards i o_;have m:(o.Guards.map λn=>[iv n])[i+1]?=some [iv o.Guards[i+1]]:=aO _ o.Guards (i+1) o_;simp only[go_sem,aP,aT (o_:i+1<o.Guards.length),p,m,F3 (o_:i<2^63-1)];refine aL (λh=>?_) (λh=>?_)<;>simp only[go_sem,pC (o_:i+1<2^63-1)];rw[c,if_pos (Y1 (o_:i+1<o.Guards.length) (by simp at h⊢;omega))];grind;intro e;have k:nT (λa b:Int=>decide (a<b)) o.Guards=true:=Co.2 λj d=>e j d o_;rw[if_neg (by simp[k])]at c;simp only[go_sem,aP,aS (o_:¬(o.Guards.length-1+1<o.Guards.length))];rw[c];have q:((o.Past.length:Int)==0)=decide (o.Past.length=0):=m_;have s:(o.Kind==1)=decide (o.Kind=1):=rfl;rw[q,s];generalize decide (o.Past.length=0)=a;generalize decide (o.Kind=1)=b;cases a<;>cases b<;>simp only[go_sem]<;>rfl
def GK(G:L_):Prop:=G Ii=some (qY.map λn:Nat=>iv (n:Int))
def SY(a b:Nat)(e:a<65536)(d:b<65536):bV .andNot (.int .i64 (a:Int)) (.int .i64 (b:Int))=some (.int .i64 ((nE a b:Nat):Int)):=by
 have c:nE a b<65536:=by unfold nE;rw[YI];apply QJ aBW;rw[BitVec.toNat_ofNat];omega
 have h1:(BitVec.ofInt IntKind.i64.bits (a:Int) &&& ~~~(BitVec.ofInt IntKind.i64.bits (b:Int))).toNat=nE a b:=by show(BitVec.ofInt 64 (a:Int) &&& ~~~(BitVec.ofInt 64 (b:Int))).toNat=nE a b;unfold nE;rw[BitVec.ofInt_natCast,BitVec.ofInt_natCast]
 simp only[bV,if_true,h1];rw[aJ o_ o_]
def rr{α:Type}(a:α->α->Bool)(d:α)(l:List α)(i:Nat):Bool:=(List.range i).all λj=>a (l.getD j d) (l.getD (j+1) d)
def aD2{α:Type}{a:α->α->Bool}{d:α}{l:List α}{i:Nat}(b:i+1<l.length):rr a d l (i+1)=(rr a d l i&&a l[i] l[i+1]):=by unfold rr;rw[QH,YK];simp[rH,jN b,jN (o_:i<l.length)]
def aD3{α:Type}{b:α->α->Bool}{d:α}{l:List α}:rr b d l (l.length-1)=nT b l:=by rw[CT,Co];unfold rr;rw[oD];constructor;intro h j a;have:=h j (uM.2 o_);simpa[rH,jN a,jN (o_:j<l.length)]using this;intro h j a;have a:=uM.1 a;have:=h j o_;simpa[rH,jN (o_:j+1<l.length),jN (o_:j<l.length)]using this
def Wp(B:GK G)(o:OpM)(k:o.ok):aA PQ G HR [.ag o.A] [] λr T=>r=iv (vF o)/\T=[]:=by
 apply aC Ph;obtain⟨c,s⟩:∃c,c=qY.map λn:Nat=>iv (n:Int):=⟨_,rfl⟩
 have t:G Ii=some c:=by rw[s];exact B
 have q:(0:Int)<=o.Kind->o.Kind<14->(c.drop o.Kind.toNat)[0]?=some (iv (vV o.Kind:Nat)):=λh1 h2=>by
  subst s;obtain⟨n,z⟩:∃n:Nat,o.Kind=(n:Int):=⟨o.Kind.toNat,o_⟩
  rw[z,vV,nI];have:n<14:=o_;clear h1 h2 z;have p:∀n,n<14->((qY.map λn:Nat=>iv (n:Int)).drop n)[0]?=some (iv ((qY.getD n 0:Nat):Int)):=λn h=>by rw[Hw,mG,gE,rH];have:n<qY.length:=h;simp[this]
  exact p n this
 clear s B;simp only[go_sem];refine aL (λh=>?_) (λh=>?_)<;>simp only[vP,lI,sF,decide_eq_false_iff_not,decide_eq_true_eq]at h;rotate_left;simp only[go_sem,decide_eq_true h];rw[vF,if_pos (.inl h)];have E:=h;simp only[go_sem,gt_iff_lt,decide_eq_false E];refine aL (λh=>?_) (λh=>?_)<;>simp only[vP,lI,sF,decide_eq_false_iff_not,decide_eq_true_eq]at h;rotate_left;simp only[go_sem,decide_eq_true h,undef];rw[vF,if_pos (.inr h)];have D:=h;have e:=q o_ o_;have m:0<=o.Kind:=o_;have l:o.Kind<14:=o_;have d:vF o=if nE (sC (jQ o)) (vV o.Kind)≠0 then 1 else if CK o (vV o.Kind)=false then 8 else if ED o then 2 else if aCJ o=false then 6 else if decide (o.Past.length=0)≠decide (o.Kind=1) then 10 else 0:=by rw[vF,if_neg o_]
 have C:=SY (sC (jQ o)) (vV o.Kind) (Nx o) (SG o.Kind);simp only[go_sem,decide_eq_false D,t,e,m,l,Bb];apply cX (aAx o);have y:(((nE (sC (jQ o)) (vV o.Kind):Nat):Int)!=0)=decide (nE (sC (jQ o)) (vV o.Kind)≠0):=by generalize nE (sC (jQ o)) (vV o.Kind)=x;rw[CT];simp
 simp only[go_sem,t,e,m,l,Bb,↓C,y];refine aL (λh=>?_) (λh=>?_)<;>simp only[decide_eq_false_iff_not,decide_eq_true_eq]at h;simp only[go_sem];rw[d,if_pos h];rw[if_neg h]at d;clear C y h;have K:=k.past.1;have q2:=k.guards.1;have w1:IntKind.i64.wrap ((o.Past.length:Int)-1)=(o.Past.length:Int)-1:=aJ o_ o_;have w2:IntKind.i64.wrap ((o.Guards.length:Int)-1)=(o.Guards.length:Int)-1:=aJ o_ o_;simp only[go_sem,aP,w1];refine aQ (o.Past.length-1) (λi=>⟨0,[(1,.ptr 0 0),(3,.v (.bool (rr Id.lt default o.Past i))),(27,iv ((o.Past.length:Int)-1)),(28,iv i)],[some (.box o.A)]⟩) (λ_=>True) ?_ trivial ?_ ?_;simp only[go_sem];rfl;intro i I _;have j:decide ((i:Int)<(o.Past.length:Int)-1)=true:=decide_eq_true o_;have w:(o.Past.map Id.A)[i]?=some o.Past[i].A:=aO _ o.Past i o_;have u:(o.Past.map Id.A)[i+1]?=some o.Past[i+1].A:=aO _ o.Past (i+1) o_;have f:=fQ i o_;rw[aD2 (o_:i+1<o.Past.length)];generalize rr Id.lt default o.Past i=b;simp only[go_sem,j];cases b;simp only[go_sem,undef,f,lR];simp only[go_sem,f,w,u];apply cX (Cm o.Past[i] o.Past[i+1]);simp only[go_sem,f,mF];intro _;have j:decide (((o.Past.length-1:Nat):Int)<(o.Past.length:Int)-1)=false:=decide_eq_false o_;rw[aD3];simp only[go_sem,aP,j,w2];refine aQ (o.Guards.length-1) (λi=>⟨0,[(1,.ptr 0 0),(3,.v (.bool (nT Id.lt o.Past&&rr (λa b:Int=>decide (a<b)) 0 o.Guards i))),(50,iv ((o.Guards.length:Int)-1)),(51,iv i)],[some (.box o.A)]⟩) (λ_=>True) ?_ trivial ?_ ?_;simp only[go_sem,rr,Mk,aGL];intro i I _;have j:decide ((i:Int)<(o.Guards.length:Int)-1)=true:=decide_eq_true o_;have w:(o.Guards.map λn=>[iv n])[i]?=some [iv o.Guards[i]]:=aO _ o.Guards i o_;have u:(o.Guards.map λn=>[iv n])[i+1]?=some [iv o.Guards[i+1]]:=aO _ o.Guards (i+1) o_;have f:=fQ i o_;rw[aD2 (o_:i+1<o.Guards.length),<-aGD];generalize(nT Id.lt o.Past&&rr (λa b:Int=>decide (a<b)) 0 o.Guards i)=b;simp only[go_sem,j];cases b;simp only[go_sem,undef,f,lR];simp only[go_sem,f,w,u,mF];intro _;have J:decide (((o.Guards.length-1:Nat):Int)<(o.Guards.length:Int)-1)=false:=decide_eq_false o_;rw[aD3];have g:(nT Id.lt o.Past&&nT (λa b:Int=>decide (a<b)) o.Guards)=aCJ o:=rfl;simp only[go_sem,J,g,t,e,m,l,Bb];apply cX (UX o k (vV o.Kind) (SG _));cases h1:CK o (vV o.Kind);simp only[go_sem];rw[d,if_pos h1];rw[if_neg s7]at d;simp only[go_sem];apply cX (aAy o k);cases h2:ED o;rotate_left;simp only[go_sem];rw[d,if_pos h2];rw[if_neg (by simp[h2])]at d;simp only[go_sem];cases h3:aCJ o;simp only[go_sem];rw[d,if_pos h3];rw[if_neg (by simp[h3])]at d;rw[d];have F:((o.Past.length:Int)==0)=decide (o.Past.length=0):=by rw[CT];simp
 have H:(o.Kind==1)=decide (o.Kind=1):=rfl;simp only[go_sem,aP,F,H];generalize decide (o.Past.length=0)=a;generalize decide (o.Kind=1)=b;cases a<;>cases b<;>simp only[go_sem]<;>rfl
def aFK(l:D_)(x:Id)(d:l.length<=1000000):aA PQ G gB [ids l,.ag x.A] [] λr T=>(∃n:Int,r=iv n/\decide (n>=0)=decide (x∈l))/\T=[]:=by
 apply aC rB;simp only[go_sem,aP,Id.A_def];refine aQ l.length (λi=>⟨0,[(0,ids l),(3,.ptr 0 0),(7,iv l.length),(8,iv i)],[some (.box x.A)]⟩) (λi=>x∉l.take i) ?_ s_ ?_ ?_;rfl;intro i a b;simp only[go_sem,aT a,aO Id.A l i a,Id.A_def];refine aL (λh=>?_) (λh=>?_)<;>simp only[go_sem,fQ i o_];simp_all;refine⟨rfl,?_⟩;have h1:x≠l[i]:=w_;intro c;rw[lB a]at c;grind;intro b;rw[dE]at b;simp only[go_sem,aS (bP _)];simp_all
def Dx(l:D_)(x:Id)(b:l.length<=1000000):aA PQ G bJ [ids l,.ag x.A] [] λr T=>r=.v (.bool (decide (x∈l)))/\T=[]:=by refine aC pI ?_;simp only[go_sem,Id.A_def];apply Jo (aFK l x b);rintro r c ⟨⟨n,rfl,a⟩,rfl⟩;simp only[go_sem,a]
def Id.A_zero:[AV.v (.int .i64 0),AV.v (.int .i64 0),AV.v (.int .u64 0)]=Id.A ⟨0,0,0⟩:=rfl
def MO(a:D_)(b:a.length<=1000000):aA PQ G bF [ids a] [] λr T=>r=.own 0/\T=[some (.arr 3 (a.map Id.A))]:=by
 apply aC rA
 cases a with
 |nil=>simp only[go_sem,ids,(d_:0<=maxLen)]|cons x a=>
  have d:(a.length+1)*24<=140737488355328:=by simp at b;omega
  have c:a.length+1<=maxLen:=by simp at b;unfold maxLen;omega
  simp only[go_sem,ids,aP,d,c]
theorem W9(l:D_):(sQ l).length=l.length:=(H4 l _).length_eq
def rE(es:N_)(h:es.length<=1000000):aA PQ G cT [.ls 5 es] [] λr T=>r=.own 0/\T=[some (.arr 5 es)]:=by
 apply aC sK
 cases es with
 |nil=>simp only[go_sem,(d_:0<=maxLen)]|cons x a=>
  have c:(a.length+1)*40<=140737488355328:=sk;have b:a.length+1<=maxLen:=I_;simp only[go_sem,c,b]
def BB(es:N_)(h:es.length<=1000000):aA PQ G cT [.ls 5 es] [] λr T=>r=.ls 5 es/\T=[]:=by refine(rE es h).fin [0] ?_;rintro r a ⟨rfl,rfl⟩;simp only[go_sem,gQ]
def Hf(es:N_)(h:es.length<=1000000):aA PQ G fO [.ls 1 es] [] λr T=>r=.own 0/\T=[some (.arr 1 es)]:=by
 apply aC yT
 cases es with
 |nil=>simp only[go_sem,(d_:0<=maxLen)]|cons x a=>
  have c:(a.length+1)*1<=140737488355328:=sk;have b:a.length+1<=maxLen:=I_;simp only[go_sem,c,b]
def BC(es:N_)(h:es.length<=1000000):aA PQ G fO [.ls 1 es] [] λr T=>r=.ls 1 es/\T=[]:=by refine(Hf es h).fin [0] ?_;rintro r a ⟨rfl,rfl⟩;simp only[go_sem,gQ]
def J8(es:N_)(h:es.length<=1000000):aA PQ G eU [.ls 1 es] [] λr T=>r=.own 0/\T=[some (.arr 1 es)]:=by
 apply aC Au
 cases es with
 |nil=>simp only[go_sem,(d_:0<=maxLen)]|cons x a=>
  have c:(a.length+1)*8<=140737488355328:=sk;have b:a.length+1<=maxLen:=I_;simp only[go_sem,c,b]
def Ct(es:N_)(h:es.length<=1000000):aA PQ G eU [.ls 1 es] [] λr T=>r=.ls 1 es/\T=[]:=by refine(J8 es h).fin [0] ?_;rintro r a ⟨rfl,rfl⟩;simp only[go_sem,gQ]
def CO(es:N_)(h:es.length<=1000000):aA PQ G dC [.ls 4 es] [] λr T=>r=.own 0/\T=[some (.arr 4 es)]:=by
 apply aC uB
 cases es with
 |nil=>simp only[go_sem,(d_:0<=maxLen)]|cons x a=>
  have c:(a.length+1)*32<=140737488355328:=sk;have b:a.length+1<=maxLen:=I_;simp only[go_sem,c,b]
def tJ(es:N_)(h:es.length<=1000000):aA PQ G dC [.ls 4 es] [] λr T=>r=.ls 4 es/\T=[]:=by refine(CO es h).fin [0] ?_;rintro r a ⟨rfl,rfl⟩;simp only[go_sem,gQ]
def Dy(es:N_)(h:es.length<=1000000):aA PQ G fU [.ls 1 es] [] λr T=>r=.own 0/\T=[some (.arr 1 es)]:=by
 apply aC vG
 cases es with
 |nil=>simp only[go_sem,(d_:0<=maxLen)]|cons x a=>
  have c:(a.length+1)*8<=140737488355328:=sk;have b:a.length+1<=maxLen:=I_;simp only[go_sem,c,b]
def Dz(es:N_)(h:es.length<=1000000):aA PQ G fU [.ls 1 es] [] λr T=>r=.ls 1 es/\T=[]:=by refine(Dy es h).fin [0] ?_;rintro r a ⟨rfl,rfl⟩;simp only[go_sem,gQ]
def BD(es:N_)(h:es.length<=1000000):aA PQ G gZ [.ls 2 es] [] λr T=>r=.own 0/\T=[some (.arr 2 es)]:=by
 apply aC sL
 cases es with
 |nil=>simp only[go_sem,(d_:0<=maxLen)]|cons x a=>
  have c:(a.length+1)*32<=140737488355328:=sk;have b:a.length+1<=maxLen:=I_;simp only[go_sem,c,b]
def wJ(es:N_)(h:es.length<=1000000):aA PQ G fJ [.ls 4 es] [] λr T=>r=.own 0/\T=[some (.arr 4 es)]:=by
 apply aC pU
 cases es with
 |nil=>simp only[go_sem,(d_:0<=maxLen)]|cons x a=>
  have c:(a.length+1)*48<=140737488355328:=sk;have b:a.length+1<=maxLen:=I_;simp only[go_sem,c,b]
def aDu(a:D_)(b:a.length<=1000000):aA PQ G bF [ids a] [] λr T=>r=ids a/\T=[]:=by refine(MO a b).fin [0] ?_;rintro r c ⟨rfl,rfl⟩;simp only[go_sem,gQ]
def CP (o:OpM):aK:=[some (.box [iv o.By,iv o.Seq,iv o.Kind,iv o.At,ids o.Past,iv o.Device,iv o.Old,iv o.Member,iv o.Role,.own 2,
 iv o.Epoch.a,iv o.Epoch.b,.v (.int .u64 o.Epoch.c),iv o.N,.ls 1 (bl o.Body),.ls 1 (ul o.Refs),iv o.Of.a,iv o.Of.b,.v (.int .u64 o.Of.c),rG o.Guards,
 iv o.Need,iv o.Wait,F5 o.Boxes,uv o.Pub,.own 3,uv o.SR,uv o.SS]),some (.box [AV.v (Value.int IntKind.i64 0),AV.v (Value.int IntKind.i64 0),AV.v (Value.int IntKind.i64 0),
        AV.v (Value.int IntKind.i64 0),AV.v (Value.slice none 0 0),AV.v (Value.int IntKind.i64 0),
        AV.v (Value.int IntKind.i64 0),AV.v (Value.int IntKind.i64 0),AV.v (Value.int IntKind.i64 0),
        AV.v (Value.slice none 0 0),AV.v (Value.int IntKind.i64 0),AV.v (Value.int IntKind.i64 0),
        AV.v (Value.int IntKind.u64 0),AV.v (Value.int IntKind.i64 0),AV.v (Value.slice none 0 0),
        AV.v (Value.slice none 0 0),AV.v (Value.int IntKind.i64 0),AV.v (Value.int IntKind.i64 0),
        AV.v (Value.int IntKind.u64 0),AV.v (Value.slice none 0 0),AV.v (Value.int IntKind.i64 0),
        AV.v (Value.int IntKind.i64 0),AV.v (Value.slice none 0 0),AV.v (Value.int IntKind.u64 0),
        AV.v (Value.slice none 0 0),AV.v (Value.int IntKind.u64 0),AV.v (Value.int IntKind.u64 0)]),some (.arr 2 (o.Path.map NodeM.A)),some (.arr 4 (o.Hist.map SealM.A))]
def BE{α a:Type}(f:α->a)(l:List α)(i:Nat)(h:i<l.length):(l.map f).set i (f l[i])=l.map f:=by rw[<-Ba,List.set_getElem_self]
def aDv(o:OpM)(e:o.ok):aA PQ G pO [.ag o.A] [] λr T=>r=.ag [iv o.By,iv o.Seq,iv o.Kind,iv o.At,ids o.Past,iv o.Device,iv o.Old,iv o.Member,iv o.Role,.own 0,
 iv o.Epoch.a,iv o.Epoch.b,.v (.int .u64 o.Epoch.c),iv o.N,.ls 1 (bl o.Body),.ls 1 (ul o.Refs),iv o.Of.a,iv o.Of.b,.v (.int .u64 o.Of.c),rG o.Guards,
 iv o.Need,iv o.Wait,F5 o.Boxes,uv o.Pub,.own 1,uv o.SR,uv o.SS]/\T=[some (.arr 2 (o.Path.map NodeM.A)),some (.arr 4 (o.Hist.map SealM.A))]:=by
 apply aC Jw;have t:=e.past.1;have s:=e.path.1;have q:=e.refs.1;have p:=e.guards.1;have m:=e.boxes.1;have l:=e.hist.1;have k:=e.body.1;simp only[go_sem,OpM.A_def];apply cX (aDu o.Past o_);simp only[go_sem];apply cX (BC (bl o.Body) M_);simp only[go_sem];apply cX (Dz (ul o.Refs) M_);simp only[go_sem];apply cX (Ct (o.Guards.map λn=>[iv n]) M_);simp only[go_sem];apply cX (tJ (o.Boxes.map BoxM.A) M_);simp only[go_sem];apply kM (BD (o.Path.map NodeM.A) M_);simp only[go_sem];apply kM (wJ (o.Hist.map SealM.A) M_);simp only[go_sem,aP];refine aQ o.Path.length (λi=>⟨0,[(1,.ptr 0 0),(2,.ptr 1 0),(35,iv o.Path.length),(36,iv i)],CP o⟩) (λ_=>True) ?_ trivial ?_ ?_;simp only[go_sem,CP];intro i d _;have g:=fQ i o_;have f:(o.Path.map NodeM.A)[i]?=some [uv o.Path[i].Pub,F5 o.Path[i].Boxes]:=aO _ o.Path i d;have h:(o.Path.map NodeM.A).set i [uv o.Path[i].Pub,F5 o.Path[i].Boxes]=o.Path.map NodeM.A:=BE NodeM.A o.Path i d;have j:=(e.path.2 _ (eQ d)).2.1;generalize o.Path[i]=x at *
 simp only[go_sem,CP,aP,aT d,d,f];apply cX (tJ (x.Boxes.map BoxM.A) M_);simp only[go_sem,CP,aP,d,f,h,g];intro _;simp only[go_sem,CP,aP,aS (bP _)];refine aQ o.Hist.length (λi=>⟨0,[(1,.ptr 0 0),(2,.ptr 1 0),(54,iv o.Hist.length),(55,iv i)],CP o⟩) (λ_=>True) ?_ trivial ?_ ?_;simp only[go_sem,CP];intro i d _;have g:=fQ i o_;have f:(o.Hist.map SealM.A)[i]?=some [.v (.int .i64 o.Hist[i].Of.a),.v (.int .i64 o.Hist[i].Of.b),.v (.int .u64 o.Hist[i].Of.c),.ls 1 (bl o.Hist[i].Body)]:=aO _ o.Hist i d;have h:(o.Hist.map SealM.A).set i [.v (.int .i64 o.Hist[i].Of.a),.v (.int .i64 o.Hist[i].Of.b),.v (.int .u64 o.Hist[i].Of.c),.ls 1 (bl o.Hist[i].Body)]=o.Hist.map SealM.A:=BE SealM.A o.Hist i d;have j:=(e.hist.2 _ (eQ d)).2.1;generalize o.Hist[i]=x at *
 simp only[go_sem,CP,aP,aT d,d,f];apply cX (BC (bl x.Body) M_);simp only[go_sem,CP,aP,d,f,h,g];intro _;simp only[go_sem,CP,aS (bP _)]
def ZH(o:OpM)(a:o.ok):aA PQ G pO [.ag o.A] [] λr T=>r=.ag o.A/\T=[]:=by refine(aDv o a).fin [0,1] ?_;rintro r b ⟨rfl,rfl⟩;simp only[go_sem,gQ,OpM.A_def]
end Hud
namespace Hud
open Go Go.Proofs Go.Sort Go.Shelf Go.RowKit Go.Lib
abbrev zId:List Value:=[.int .i64 0,.int .i64 0,.int .u64 0]
def Ze:(Tryz.prog.info? 41).map (λi=>(i.zero,i.size,i.bytes))=some (some (.agg #[.int .i64 0,.int .i64 0,.int .u64 0]),3,24):=k_
def aEH:Tryz.prog.underlying 25=some (.slice 41):=k_
def aIL(w:World)(ty:TypeId)(b o c:Nat)(k:∀j,j<3->(w.cell? ⟨b,o+j,none⟩).isSome=true)(i:∀j,j<3->w.frozen? ⟨b,o+j,none⟩=false):
 (Builtin.clear_ #[25] ty #[.slice (some ⟨b,o,none⟩) 1 c]).run Tryz.prog w=.ok (.tuple #[]) (w.setCells b o zId):=by
 obtain⟨i0,h,g,f,e⟩:=info_parts Ze;have nG:=run_storeCells_cells (P:=Tryz.prog) b o zId 0 w (by simpa using k) (by simpa using i) (by intro v a;simp only[zId,cS,pP,or_false]at a;rcases a with rfl|rfl|rfl<;>rfl);simp only[mG]at nG;have d:(Builtin.zeroCells #[Value.int .i64 0,.int .i64 0,.int .u64 0] 1).toList=zId:=by simp[Builtin.zeroCells,zId];rfl
 simp_all[Builtin.clear_,Value.cells]
set_option maxRecDepth 1000000 in
def aEI (F:Array Value) (kI b n i:Nat) (w:World) (Y:F.size=n*3) (l:∀v∈F.toList,v.oneCell'=true) (p:Holds id w kI 0 F) (C:n<=b) (W:b<=2^63-1) (X:i<n):
 Calls Tryz.prog 156 #[.slice (some ⟨kI,0,none⟩) n b,.int .i64 i,.int .i64 (i+1:Nat)] w λe E=>e=.returned (.slice (some ⟨kI,0,none⟩) (n-1) b)/\E=(w.drew.setCells kI (i*3) (F.toList.drop ((i+1)*3))).setCells kI ((n-1)*3) zId:=by
 obtain⟨i0,y,K,x,J⟩:=info_parts Ze;obtain⟨a,c⟩:∃a,a=F.toList.drop ((i+1)*3):=⟨_,rfl⟩
 have m:a.length=(n-(i+1))*3:=p_;obtain⟨A,Z,k⟩:∃A:Addr,(if b=i+1 then some (⟨kI,0,none⟩:Addr) else some ⟨kI,(i+1)*3,none⟩)=some A/\Hid (∀t u,a[t]?=some u->w.drew.cell? (A.add t)=some u):=by
  by_cases h:b=i+1;refine⟨⟨kI,0,none⟩,by simp[h],λt u d=>?_⟩;simp_all;refine⟨⟨kI,(i+1)*3,none⟩,by simp[h],λt u d=>?_⟩;have B:t<a.length:=(sV.1 d).1;rw[c,Hw,Array.getElem?_toList]at d;have g:(i+1)*3+t<F.size:=o_;rw[Addr.add_lit];have z:=(p ((i+1)*3+t) g).1;simp_all
 have I:Hid (a.length=(n-(i+1))*3):=m;have H:Hid (∀u∈a,u.oneCell'=true):=λu d=>l u (by rw[c]at d;exact QG d);have G:Hid (∀t,t<a.length->(w.drew.cell? ⟨kI,0+i*3+t,none⟩).isSome=true/\w.drew.frozen? ⟨kI,0+i*3+t,none⟩=false):=by
  intro t B;have g:i*3+t<F.size:=o_;have z:=p (i*3+t) g;simp_all
 obtain⟨f,o⟩:∃f,f=w.drew.setCells kI (i*3) a:=⟨_,rfl⟩
 have T:∀r,(Builtin.clear_ #[25] r #[.slice (some ⟨kI,(i+(n-(i+1)))*3,none⟩) (n-(i+(n-(i+1)))) (b-(i+(n-(i+1))))]).run Tryz.prog f=.ok (.tuple #[]) (f.setCells kI ((n-1)*3) zId):=λr=>by
  rw[(o_:i+(n-(i+1))=n-1),(o_:n-(n-1)=1)];have g:∀j,j<3->(n-1)*3+j<F.size:=λj q=>o_;have z:=λj q=>p ((n-1)*3+j) (g j q);simp only[pQ]at z;refine aIL f r kI _ _ (λj q=>?_) λj q=>?_;rw[o];have V:∀t,t<a.length->(w.drew.cell? ⟨kI,i*3+t,none⟩).isSome=true:=λt B=>by have h8:=(p (i*3+t) o_).1;simp_all
  by_cases R:(n-1)*3+j<i*3+a.length;omega;rw[World.cell?_setCells_out kI a (i*3) w.drew _ (λ_ _=>.inr (by show i*3+a.length<=(n-1)*3+j;omega))];simp_all;simp_all[World.frozen?_setCells]
 have D:Hid (f=w.drew.setCells kI (0+i*3) a):=h_;have U:Hid (a=F.toList.drop ((i+1)*3)):=c;have S:i<=b:=o_;have Q:i+1<=b:=o_;have P:i+1<=n:=o_;have O:¬i=i+1:=o_;have N:(0:Int)<=(i:Int)+1:=o_;have M:(i:Int)+1<=(n:Int):=o_;have L:((i:Int)+1).toNat=i+1:=o_;have s:Tryz.prog.follows Departure.mixedOrders=true:=k_;clear p o c;go_enter Tryz.func156,Tryz.ntmps156;go_wp2_with fail;go_region_law_o (refine step_append_room rfl (.tmp 22) (.tmp 25) 25 rfl 41 i0 3 aEH y x kI 0 i b (by simp[Act.eval,Act.put]) A (n-(i+1)) (b-(i+1)) a (by simp[Act.eval,Act.put]) I.out k.out H.out o_ G.out ?_;rw[<-D.out]);go_wp2;go_ret;have h1:=D.out;rw[pQ,U.out]at h1;simp_all;omega
section
variable{h:GH}{φ:Nat->Value}{w:World}{T:aK}
def TC:∀(M:D_),∀v∈M.flatMap Id.K,v.oneCell'=true:=by intro M v b;obtain⟨x,_,a⟩:=H7.1 b;simp only[Id.K,cS,pP,or_false]at a;rcases a with rfl|rfl|rfl<;>rfl
def aGm(M:D_):(M.flatMap Id.K).length=M.length*3:=MF (enc:=Id.K) (k:=3) (λ_=>rfl) M
def Vd(M:D_):(M.map Id.A).flatten=(M.flatMap Id.K).map .v:=HZ Id.K M
def aEJ(L:D_):∀d∈L.map Id.A,d.length=3/\∀c∈d,aX c=true:=by intro d b;obtain⟨x,_,rfl⟩:=dF.1 b;refine⟨rfl,λc a=>?_⟩;simp only[Id.A,cS,pP,or_false]at a;rcases a with rfl|rfl|rfl<;>rfl
def Zf(hI:Inv h φ w T){k g c o:Nat}{L M:D_}{a:Array Value}{E:TypeId}(B:T[k]?=some (some (.arr 3 (L.map Id.A))))(m:φ k=.slice (some ⟨g,0,none⟩) L.length (c+1))(l:w.heap[g]?=some (.cells a E (0,0)))(H:L.length<=c+1)(G:c+1<=maxLen)(y:a.size=(c+1)*3)(D:h g=none)
 (z:cK h (L.map Id.A).flatten (a.toList.take (L.length*3))) (I:o+M.length<=L.length):
 (Inv h φ (w.setCells g (o*3) (M.flatMap Id.K)) (T.set k (some (.arr 3 ((L.take o++M++L.drop (o+M.length)).map Id.A))))/\Evo h φ T w h φ (T.set k (some (.arr 3 ((L.take o++M++L.drop (o+M.length)).map Id.A)))) (w.setCells g (o*3) (M.flatMap Id.K))) /\
  ∃f,(w.setCells g (o*3) (M.flatMap Id.K)).heap[g]?=some (.cells f E (0,0))/\f.size=(c+1)*3/\cK h ((L.take o++M++L.drop (o+M.length)).map Id.A).flatten (f.toList.take ((L.take o++M++L.drop (o+M.length)).length*3)):=by
 have s:=aGm M;have t:o*3+(M.flatMap Id.K).length<=a.size:=by rw[s,y];omega
 have x:=run_storeCells_at Tryz.prog g (o*3) E (M.flatMap Id.K) 0 a w l J_ (TC M);have u:=run_storeCells_cells (P:=Tryz.prog) g (o*3) (M.flatMap Id.K) 0 w (λj C=>by rw[(Iu l).1,Ri o_];rfl) (λj C=>(Iu (o:=o*3+0+j) l).2) (TC M);simp only[mG]at x u;have e:w.setCells g (o*3) (M.flatMap Id.K)=w.setRow g (a.toList.take (o*3)++M.flatMap Id.K++a.toList.drop (o*3+(M.flatMap Id.K).length)).toArray:=by have:=u.symm.trans x;injection this
 rw[e];have b:(L.take o++M++L.drop (o+M.length)).length=L.length:=km;have r:a.toList.length=(c+1)*3:=by rw[GV,y]
 have q:∀d∈L.map Id.A,d.length=3:=λd F=>(aEJ L d F).1;have i:((L.take o++M++L.drop (o+M.length)).map Id.A).flatten=(L.map Id.A).flatten.take (o*3)++(M.flatMap Id.K).map .v++(L.map Id.A).flatten.drop (o*3+M.length*3):=by rw[bZ,bZ,Kf,Kf,Vd M,QN,aC0,Fz q,Fy q,aGg]
 have p:cK h ((L.take o++M++L.drop (o+M.length)).map Id.A).flatten ((a.toList.take (o*3)++M.flatMap Id.K++a.toList.drop (o*3+(M.flatMap Id.K).length)).take (L.length*3)):=by rw[i,s,Mz a.toList (M.flatMap Id.K) (o*3) (M.length*3) (L.length*3) o_ o_ s];exact((z.take _).app (Ru h _)).app (z.drop _)
 have n:(a.toList.take (o*3)++M.flatMap Id.K++a.toList.drop (o*3+(M.flatMap Id.K).length)).toArray.size=(c+1)*3:=by rw[Gn];simp only[dZ,eC,vY,r];omega
 refine⟨Lt hI B l (by rw[m];rfl) ⟨aEJ _,.inr ⟨g,c,_,E,by rw[aP,b];exact m,setRow_heap w g a _ E _ l,by rw[aP,b];exact H,G,n,D,by rw[aP,b];exact p⟩⟩,_,setRow_heap w g a _ E _ l,n,by rw[b];exact p⟩
def aIM(L:D_)(n i:Nat):D_ :=
 let M:=(L.take n).drop (i+1)
 let a:=L.take i++M++L.drop (i+M.length)
 a.take (n-1)++[⟨0,0,0⟩]++a.drop (n-1+([⟨0,0,0⟩]:D_).length)
def aBp{G:L_}{k n i:Nat}{L:D_}{sl:AV}(F:T[k]?=some (some (.arr 3 (L.map Id.A))))(hn:n<=L.length)(ae:sl=.vw k 3 0 n\/(sl=.own k/\n=L.length))(hi:i<n):
 aA PQ G fR [sl,iv i,iv (i+1:Nat)] T λr T'=>r=.vw k 3 0 (n-1)/\T'=T.set k (some (.arr 3 ((aIM L n i).map Id.A))):=by
 intro h z w m hG hI S;refine .inl ⟨Go.Proofs.enters_of Tryz.func156 k_ rfl _ _,?_⟩;simp only[cC]at S;obtain⟨u0,ac,ad,af,u1,ab,rfl,y,u2,aa,rfl,x,rfl⟩:=S;simp only[Rp]at y x;subst y x;obtain rfl:m=#[u0,.int .i64 i,.int .i64 (i+1:Nat)]:=m_;have q:k<T.length:=(sV.1 F).1;obtain⟨hc,f⟩:=hI.obj k _ F;rw[aP]at f;rcases f with⟨A0,D,P⟩|⟨g,c,a,E,D,C,B,V,e4,U,J⟩
 simp_all;have hu:∃d,u0=.slice (some ⟨g,0,none⟩) n d/\n<=d/\d<=maxLen:=by grind[Rp,Value.slice.injEq]
 obtain⟨d,rfl,u,p⟩:=hu;have Q:n*3<=a.toList.length:=p_;have j:a.toList.take (L.length*3)=L.flatMap Id.K:=by rw[Vd]at J;exact SV J
 have s:a.toList.take (n*3)=(L.take n).flatMap Id.K:=by
  have h1:(a.toList.take (L.length*3)).take (n*3)=a.toList.take (n*3):=m_;rw[<-h1,j];have:=MF (enc:=Id.K) (k:=3) (λ_=>rfl) (L.take n)
  conv=>lhs;rw[<-LC n L]
  grind
 have R:(a.toList.take (n*3)).toArray.size=n*3:=m_;refine(aEI (a.toList.take (n*3)).toArray g d n i w R (λv O=>by rw[s]at O;exact TC _ v (by simpa using O)) ?_ u (by unfold maxLen at p;omega) hi).mono ?_;intro t ht;rw[R]at ht;obtain⟨c1,c2⟩:=Iu (o:=0+t) C;grind;rintro e w' ⟨rfl,rfl⟩;have hd:(a.toList.take (n*3)).toArray.toList.drop ((i+1)*3)=((L.take n).drop (i+1)).flatMap Id.K:=by
  show(a.toList.take (n*3)).drop ((i+1)*3)=_;rw[s]
  conv=>lhs;rw[<-LC (i+1) (L.take n)]
  have:=MF (enc:=Id.K) (k:=3) (λ_=>rfl) ((L.take n).take (i+1));rw[List.flatMap_append,aGG (by rw[this,eC,eC];omega),LB (by rw[this,eC,eC];omega),dM]
 rw[hd];have I:Inv h z w.drew T:=⟨hI.gh,hI.obj,hI.dis⟩
 have H:((L.take n).drop (i+1)).length=n-(i+1):=by rw[vY,eC];omega
 obtain⟨⟨i1,Z⟩,W,w1,X,p1⟩:=Zf I (M:=(L.take n).drop (i+1)) (o:=i) F D C B V e4 U J (by rw[H];omega);have l:(L.take i++(L.take n).drop (i+1)++L.drop (i+((L.take n).drop (i+1)).length)).length=L.length:=km;obtain⟨⟨N,v2⟩,_⟩:=Zf i1 (M:=[⟨0,0,0⟩]) (o:=n-1) (by rw[List.getElem?_set_self q]) (by rw[l];exact D) w1 (by rw[l];exact B) V X U p1 (by rw[l];simp;omega);rw[List.set_set]at N v2;have Y:Evo h z T w h z T w.drew:=⟨rfl,rfl,rfl,cN _,λ_ _ _=>rfl,CA.refl _,λb cs e=>.inl e,λ_ _=>rfl,λi o b C B=>.inr ⟨i,o,C,B⟩,cN _,Kl _⟩
 refine⟨_,rfl,.vw k 3 0 (n-1),_,h,z,⟨rfl,rfl⟩,(Y.trans Z).trans v2,N,?_⟩;simp only[Rp,cL];refine⟨q,some ⟨g,0,none⟩,d,rfl,o_,p,.inr ⟨g,_,_,D,by rw[Nat.zero_mul],o_⟩⟩
def RX{G:L_}{k n i:Nat}{L:D_}{sl:AV}(g:T[k]?=some (some (.arr 3 (L.map Id.A))))(f:n<=L.length)(b:sl=.vw k 3 0 n\/(sl=.own k/\n=L.length))(h:i<n):
 aA PQ G fR [sl,iv i,iv (i+1:Nat)] T λr e=>∃d:D_,d.length=L.length/\d.take (n-1)=(L.take n).eraseIdx i/\r=.vw k 3 0 (n-1)/\e=T.set k (some (.arr 3 (d.map Id.A))):=by
 refine(aBp g f b h).mono λr e ⟨h1,h2⟩=>⟨_,?_,?_,h1,h2⟩
 simp only[aIM,dZ,eC,vY,sE,gQ];omega;have a:((L.take n).drop (i+1)).length=n-(i+1):=by rw[vY,eC];omega
 have c:(L.take i++(L.take n).drop (i+1)++L.drop (i+((L.take n).drop (i+1)).length)).length=L.length:=km;unfold aIM;dsimp only;rw[eB,Rf (by rw[eC,c];omega),Mj,Nat.min_self,List.eraseIdx_eq_take_drop_succ,Mj,Kj o_,Rf (by rw[dZ,eC,a];omega),sG (by rw[dZ,eC,a];omega)]
end
end Hud
