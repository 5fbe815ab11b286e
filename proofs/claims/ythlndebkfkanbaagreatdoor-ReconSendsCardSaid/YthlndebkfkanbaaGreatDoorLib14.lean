import Derived.Test.YthlndebkfkanbaaGreatDoorLib13
set_option linter.all false
namespace Hud
open Go
section
section
variable {G:Nat→Option (List AV)}
set_option maxHeartbeats 2000000
def Ft (x y:Id):aC PQ G xJ [.ag x.A,.ag y.A] [] λr T=>r=.v (.bool (x.lt y))∧T=[]:=by
 refine aF NF (by decide) ?_;simp only [go_sem,Id.A];refine aM (λh=>?_) (λh=>?_)<;>simp only [go_sem]
 ·simp_all [Id.lt]
 ·refine aM (λh2=>?_) (λh2=>?_)<;>simp only [go_sem]<;>simp_all [Id.lt]
def CO (x:Int):aC PQ G mW [.v (.int .i64 x)] [] λr T=>r=.v (.bool false)∧T=[]:=by
 refine aF xY (by decide) ?_;unfold vQ;simp only [go_sem,bne_self_eq_false]
def yB (x:Int):aC PQ G fM [.v (.int .u64 x)] [] λr T=>r=.v (.bool false)∧T=[]:=by
 refine aF tS (by decide) ?_;unfold qY;simp only [go_sem,bne_self_eq_false]
def vT (x y:Int):Int:=if x<y then -1 else if y<x then 1 else 0
def kX (x y:Int):aC PQ G iT [.v (.int .i64 x),.v (.int .i64 y)] [] λr T=>r=.v (.int .i64 (vT x y))∧T=[]:=by
 refine aF vC (by decide) ?_;unfold sU;simp only [go_sem];refine aB (aA _) rfl (CO x) rfl ?_;simp only [go_sem];refine aB (aA _) rfl (CO y) rfl ?_;simp only [go_sem];refine aM (λh=>?_) (λh=>?_)<;>simp only [go_sem]
 ·simp_all [vT]
 ·refine aM (λh2=>?_) (λh2=>?_)<;>simp only [go_sem]<;>simp_all [vT];omega
def Dj (x y:Int):aC PQ G oK [.v (.int .u64 x),.v (.int .u64 y)] [] λr T=>r=.v (.int .i64 (vT x y))∧T=[]:=by
 refine aF BB (by decide) ?_;simp only [go_sem];refine aB (aA _) rfl (yB x) rfl ?_;simp only [go_sem];refine aB (aA _) rfl (yB y) rfl ?_;simp only [go_sem];refine aM (λh=>?_) (λh=>?_)<;>simp only [go_sem]
 ·simp_all [vT]
 ·refine aM (λh2=>?_) (λh2=>?_)<;>simp only [go_sem]<;>simp_all [vT];omega
end
def I1 (x:Int):List AV:=[.v (.int .i64 x)]
def aEK (x:Int):I1 x=[.v (.int .i64 x)]:=rfl
abbrev ints (l:List Int):AV:=.ls 1 (l.map I1)
def nM (n m:Int):Int:=(if n<0 then -(n+1) else n)%m
def mQ:List Int→Int
 | []=>0
 | x::r=>if x=0 then mQ r else x
def PX {l:List Int} {i:Nat} (h:∀ j,j<i→l.getD j 0=0) (hi:i<l.length) (hx:l[i]≠0):mQ l=l[i]:=by
 induction l generalizing i with
 | nil=>simp at hi
 | cons a l ih =>
  cases i with
  | zero=>simp only [List.getElem_cons_zero] at hx ⊢;simp [mQ,hx]
  | succ i =>
   have h0:a=0:=by simpa using h 0 (by omega)
   simp only [mQ,h0,if_true,List.getElem_cons_succ];exact ih (λj hj=>by simpa using h (j+1) (by omega)) (by simpa using hi) (by simpa using hx)
def PY {l:List Int} (h:∀ j,j<l.length→l.getD j 0=0):mQ l=0:=by
 induction l with
 | nil=>rfl
 | cons a l ih =>
  have h0:a=0:=by simpa using h 0 (by simp)
  simp only [mQ,h0,if_true];exact ih λj hj=>by simpa using h (j+1) (by simpa using hj)
def aEL {x y:Int}:vT x y=0↔x=y:=by
 unfold vT;constructor<;>intro h<;>(repeat' split at *)<;>omega
def Tt {x y:Int}:vT x y<0↔x<y:=by
 unfold vT;constructor<;>intro h<;>(repeat' split at *)<;>omega
def aEM (x y:Id):decide (mQ [vT x.a y.a,vT x.b y.b,vT x.c y.c]<0)=x.lt y:=by
 rw [oU];simp only [mQ,Id.lt,aEL];by_cases h1:x.a=y.a
 ·by_cases h2:x.b=y.b
  ·by_cases h3:x.c=y.c
   ·simp [h1,h2,h3]
   ·simp only [h1,h2,h3,if_true,if_false,decide_eq_true_eq,Tt]
  ·simp only [h1,h2,if_true,if_false,decide_eq_true_eq,Tt]
 ·simp only [h1,if_false,decide_eq_true_eq,Tt]
section
variable {G:Nat→Option (List AV)}
set_option maxHeartbeats 2000000
def wM (l:List Int) (hl:l.length≤maxLen):aC PQ G wJ [ints l] [] λr T=>r=.v (.int .i64 (mQ l))∧T=[]:=by
 refine aF JP (by decide) ?_;unfold maxLen at hl;simp only [go_sem,aL];refine aO l.length (λi=>⟨0,[(3,.v (.int .i64 0)),(6,ints l),(7,.v (.int .i64 l.length)),(8,.v (.int .i64 i))],[]⟩) (λi=>∀ j,j<i→l.getD j 0=0) ?_ (by simp) ?_ ?_
 ·(simp only [go_sem])<;>rfl
 ·intro i hi hj;simp only [go_sem,aT hi,aP I1 l i hi,aEK,aG (show i<9223372036854775807 by omega)];refine aM (λh=>?_) (λh=>?_)<;>simp only [go_sem,aG (show i<9223372036854775807 by omega)]
  ·rw [PX hj hi (by simpa using h)]
  ·intro j hj';rcases bY j i with h1 | h1
   ·exact hj j h1
   ·obtain rfl:j=i:=by omega
    simpa [fG,hi] using h
 ·intro hj;simp only [go_sem,aX (cZ _),PY hj]
def H9 (x y:Id):aC PQ G rJ [.ag x.A,.ag y.A] [] λr T=>r=.v (.bool (x.lt y))∧T=[]:=by
 refine aF Gw (by decide) ?_;unfold H3;simp only [go_sem,Id.A];refine aB (aA _) rfl (kX x.a y.a) rfl ?_;simp only [go_sem];refine aB (aA _) rfl (kX x.b y.b) rfl ?_;simp only [go_sem];refine aB (aA _) rfl (Dj x.c y.c) rfl ?_;simp only [go_sem];refine lN (aA _) rfl rfl (wM [vT x.a y.a,vT x.b y.b,vT x.c y.c] (by simp [maxLen])) ?_;simp only [go_sem];rw [aEM]
def B7 (n m:Int) (h1:-9223372036854775808≤n) (h2:n≤9223372036854775807) (h3:1≤m) (h4:m≤9223372036854775807) :
  aC PQ G sE [.v (.int .i64 n),.v (.int .i64 m)] [] λr T=>r=.v (.int .i64 (nM n m))∧T=[]:=by
 refine aF JQ (by decide) ?_;have hm:¬m=0:=by omega
 simp only [go_sem,hm];refine aM (λh=>?_) (λh=>?_)<;>simp only [go_sem,hm]
 ·have hn:n<0:=by simpa using h
  rw [aJ (n:=n+1) (by omega) (by omega),aJ (by omega) (by omega)];simp only [nM,hn,if_true];rw [Int.zero_sub,Us (by omega)]
 ·have hn:¬n<0:=by simpa using h
  simp only [nM,hn,if_false];rw [Us (by omega)]
def NI (x y:List Id) (hl:x.length≤maxLen):aC PQ G AN [ids x,ids y] [] λr T=>r=.v (.bool (decide (x=y)))∧T=[]:=by
 refine aF H2 (by decide) ?_;unfold maxLen at hl;simp only [go_sem,aL];refine aM (λh=>?_) (λh=>?_)<;>simp only [go_sem]
 ·have:x≠y:=λe=>aEt h (by rw [e]);simp [this]
 have hxy:=aEu h;refine aO x.length (λi=>⟨0,[(0,ids x),(1,ids y),(5,.v (.int .i64 i))],[]⟩) (λi=>x.take i=y.take i) ?_ (by simp) ?_ ?_
 ·(simp only [go_sem])<;>rfl
 ·intro i hi hj;have hy:i<y.length:=by omega
  simp only [go_sem,aL,aT hi,aP Id.A x i hi,aP Id.A y i hy,Id.A_def,aG (show i<9223372036854775807 by omega)];refine aM (λh=>?_) (λh=>?_)<;>simp only [go_sem,aG (show i<9223372036854775807 by omega)]
  ·have:x≠y:=by rintro rfl;simp at h
   simp [this]
  ·have:x[i]=y[i]:=by simpa using h
   rw [oT hi,oT hy,hj,this]
 ·intro hj;have:x=y:=by
   rw [kH] at hj;rw [hj,hxy,kH]
  simp only [go_sem,aL,aX (cZ _),this]
def zT (l:List Id) (x:Id) (hl:l.length≤maxLen):aC PQ G rG [ids l,.ag x.A] [] λr T=>r=.v (.bool (decide (x∈l)))∧T=[]:=by
 refine aF Lo (by decide) ?_;unfold maxLen at hl;simp only [go_sem,aL,Id.A_def];refine aO l.length (λi=>⟨0,[(0,ids l),(3,.ptr 0 0),(5,.v (.int .i64 i))],[some (.box x.A)]⟩) (λi=>x∉l.take i) ?_ (by simp) ?_ ?_
 ·simp only [go_sem];rfl
 ·intro i hi hj;simp only [go_sem,aL,aT hi,aP Id.A l i hi,Id.A_def,aG (show i<9223372036854775807 by omega)];refine aM (λh=>?_) (λh=>?_)<;>simp only [go_sem,aG (show i<9223372036854775807 by omega)]
  ·have:l[i]=x:=by simpa using h
   have:x∈l:=by rw [←this];exact jY hi
   simp [this]
  ·refine ⟨rfl,?_⟩;have:l[i]≠x:=by simpa using h
   intro hx;rw [oT hi] at hx;rcases eO.1 hx with hx | hx
   ·exact hj hx
   ·exact this (gZ.1 hx).symm
 ·intro hj;rw [kH] at hj;simp only [go_sem,aL,aX (cZ _),hj]
end
def Fu (x:Id) (out:List Id):Nat→Nat
 | 0=>0
 | n+1=>match out[n]? with | some y=>if x.lt y then Fu x out n else n+1 | none=>n+1
def NJ (out:List Id) (x:Id):List Id:=out.take (Fu x out out.length)++[x]++out.drop (Fu x out out.length)
def iG (l:List Id):List Id:=l.foldl NJ []
def PZ (x:Id) (out:List Id):∀ n,Fu x out n≤n
 | 0=>fW _
 | n+1=>by
  simp only [Fu];split
  ·split
   ·have:=PZ x out n;omega
   ·omega
  ·omega
def aA1 (out:List Id) (x:Id):(NJ out x).length=out.length+1:=by
 have:=PZ x out out.length;simp only [NJ,dU,hZ,tT,kS,kI];omega
def Xa (l:List Id):∀ out,(l.foldl NJ out).length=out.length+l.length:=by
 induction l with
 | nil=>simp
 | cons x l ih=>intro out;simp only [HO,ih,aA1,kS];omega
def N3 (l:List Id):(iG l).length=l.length:=by simp [iG,Xa]
def Tu (l:List Id) (i:Nat) (h:i<l.length):iG (l.take (i+1))=NJ (iG (l.take i)) l[i]:=by
 rw [oT h,iG,VB];rfl
section
variable {G:Nat→Option (List AV)}
set_option maxHeartbeats 2000000
def wN (l:List Id) (hl:l.length≤1000000000):aC PQ G oZ [ids l] [] λr T=>r=.own 0∧T=[some (.arr 3 ((iG l).map Id.A))]:=by
 refine aF JO (by decide) ?_;simp only [go_sem,aL];refine aO l.length (λi=>⟨0,[(0,ids l),(3,.own 0),(4,.v (.int .i64 i))],[some (.arr 3 ((iG (l.take i)).map Id.A))]⟩) (λ_=>True) ?_ trivial ?_ ?_
 ·(simp only [go_sem])<;>rfl
 ·intro i hi _;simp only [go_sem,aL,aT hi];have hn:=N3 (l.take i);rw [hZ] at hn;have hp:=PZ l[i] (iG (l.take i)) (iG (l.take i)).length;refine eF (λs=>s=⟨0,[(0,ids l),(3,.own 0),(4,.v (.int .i64 i)),(5,.v (.int .i64 (Fu l[i] (iG (l.take i)) (iG (l.take i)).length:Nat)))],[some (.arr 3 ((iG (l.take i)).map Id.A))]⟩) ?_ ?_
  ·refine aC8 (iG (l.take i)).length (λk=>⟨0,[(0,ids l),(3,.own 0),(4,.v (.int .i64 i)),(5,.v (.int .i64 k))],[some (.arr 3 ((iG (l.take i)).map Id.A))]⟩) (λk=>Fu l[i] (iG (l.take i)) (iG (l.take i)).length=Fu l[i] (iG (l.take i)) k) ?_ rfl ?_ ?_
   ·simp only [go_sem,aL]
   ·intro k hk hj;have hnth:=aP Id.A (iG (l.take i)) k hk;simp only [go_sem,aL,aP Id.A l i hi,Aw (show k<9223372036854775807 by omega),hk,hnth,Id.A_def];refine aB (aA _) rfl (Ft l[i] (iG (l.take i))[k]) rfl ?_;simp only [go_sem];refine aM (λh=>?_) (λh=>?_)<;>simp only [go_sem,Aw (show k<9223372036854775807 by omega)]
    ·rw [hj];simp only [Fu,fV hk];simp at h;simp [h]
    ·rw [hj];simp only [Fu,fV hk];simp at h;simp [h]
   ·intro hj;simp only [go_sem,hj,Fu]
  ·rintro s rfl;generalize hq:Fu l[i] (iG (l.take i)) (iG (l.take i)).length=p at hp
   simp only [go_sem,aL,hZ,tT,dU,KN hp,hp,E4,rW,xC,aP Id.A l i hi,Id.A_def,show p*24≤140737488355328 by omega,show p≤maxLen by unfold maxLen;omega,show (p+1)*24≤140737488355328 by omega,show p+1≤maxLen by unfold maxLen;omega,
    show p+((iG (l.take i)).length-p)=(iG (l.take i)).length by omega,aG (show i<9223372036854775807 by omega),
    show (p+1+((iG (l.take i)).length-p))*24≤140737488355328 by omega,show p+1+((iG (l.take i)).length-p)≤maxLen by unfold maxLen;omega,fW,VN,eE]
   rw [Tu l i hi,NJ,hq];simp only [gQ,Qr,VK,cN,eQ,Id.A_def,eE,Ag,FQ]
 ·intro _;simp only [go_sem,aL,aX (cZ _),kH]
end
def Id.K (x:Id):List Value:=[.int .i64 x.a,.int .i64 x.b,.int .u64 x.c]
section
variable {G:Nat→Option (List AV)}
end
end
section
def yC {α:Type} {p:α→Bool} {l:List α} {i:Nat} (hi:i<l.length) (h:p l[i]=false):l.all p=false:=by
 rw [List.all_eq_false];exact ⟨_,jY hi,by simp [h]⟩
def yD {α:Type} {p:α→Bool} {l:List α} (h:∀ j (hj:j<l.length),j<l.length→p l[j]=true):l.all p=true:=by
 rw [kY];intro x hx;obtain ⟨j,hj,rfl⟩:=AH hx;exact h j hj hj
def nU {α:Type} {p:α→Bool} {l:List α} {i:Nat} (hi:i<l.length) (hJ:∀ j (hj:j<l.length),j<i→p l[j]=true) (h:p l[i]=true):∀ j (hj:j<l.length),j<i+1→p l[j]=true:=λj hj hji=>by
 rcases bY j i with h1 | h1
 ·exact hJ j hj h1
 ·obtain rfl:j=i:=by omega
  exact h
section
variable {G:Nat→Option (List AV)}
set_option maxHeartbeats 4000000
def Xb (o:OpM):aC PQ G uJ [.ag o.A] [] λr T=>r=.v (.bool (oL o))∧T=[]:=by
 refine aF Hr (by decide) ?_;simp only [go_sem]
 repeat' (first
  | ((with_reducible refine aM (λh=>?_) (λh=>?_))<;>(try simp only [rU,nH,nW] at h)<;>simp only [go_sem,aL,h,undef])
  | (with_reducible refine dB (f:=dC) ?_;refine aB (aA _) rfl (DI _ _ _) rfl ?_;simp only [go_sem,aL,undef])
  | (with_reducible refine dB (f:=iM) ?_;refine aB (aA _) rfl (DJ _) rfl ?_;simp only [go_sem,aL,undef])
  | (with_reducible refine dB (f:=jK) ?_;refine aB (aA _) rfl (B2 _) rfl ?_;simp only [go_sem,aL,undef]))
 all_goals simp_all [oL]
def V0 (l:List BoxM) (hl:l.length<9223372036854775807):aC PQ G uZ [C0 l] [] λr T=>r=.v (.bool (l.all sD))∧T=[]:=by
 refine aF LU (by decide) ?_;simp only [go_sem];refine aO l.length (λi=>⟨0,[(0,C0 l),(3,iv i)],[]⟩) (λi=>∀ j (hj:j<l.length),j<i→sD l[j]=true) ?_ (by intro j hj h;omega) ?_ ?_
 ·simp only [go_sem]
 ·intro i hi hJ;have g0:(l.map BoxM.A)[i]?=some [uv l[i].To,uv l[i].Eph,uv l[i].Body,uv l[i].Tag]:=aP _ l i hi;simp only [go_sem,aL,aT hi,hi,g0]
  repeat' (first
   | ((with_reducible refine aM (λh=>?_) (λh=>?_))<;>(try simp only [rU,nH,nW] at h)<;>simp only [go_sem,aL,hi,g0,aG (show i<9223372036854775807 by omega),h,undef])
   | (with_reducible refine dB (f:=jK) ?_;refine aB (aA _) rfl (B2 _) rfl ?_;simp only [go_sem,aL,hi,g0,aG (show i<9223372036854775807 by omega),undef])
   | (with_reducible refine dB (f:=uY) ?_;refine aB (aA _) rfl (Ld _) rfl ?_;simp only [go_sem,aL,hi,g0,aG (show i<9223372036854775807 by omega),undef]))
  all_goals first
   | exact nU hi hJ (by clear hJ g0;generalize l[i]=x at *;simp_all [sD])
   | rw [yC hi (by clear hJ g0;generalize l[i]=x at *;simp_all [sD])]
 ·intro hJ;simp only [go_sem,aL,aX (cZ _),yD hJ]
def aCp (o:OpM) (ho:o.ok):aC PQ G zG [.ag o.A] [] λr T=>r=.v (.bool (xT o))∧T=[]:=by
 refine aF LS (by decide) ?_;have l1:=ho.guards.1;have l2:=ho.refs.1;have l3:=ho.past.1;have l4:=ho.path.1;have l5:=ho.hist.1;have l6:=ho.boxes.1;simp only [go_sem];refine aO o.Guards.length (λi=>⟨0,[(1,.ptr 0 0),(3,iv i)],[some (.box o.A)]⟩) (λi=>∀ j (hj:j<o.Guards.length),j<i→xR o.Guards[j]=true) ?_ (by intro j hj h;omega) ?_ ?_
 ·simp only [go_sem]
 ·intro i hi hJ;have g0:(o.Guards.map λn=>[iv n])[i]?=some [iv o.Guards[i]]:=aP _ o.Guards i hi;have hlen:o.Guards.length<9223372036854775807:=by omega
  simp only [go_sem,aL,aT hi,hi,g0]
  repeat' (first
   | ((with_reducible refine aM (λh=>?_) (λh=>?_))<;>(try simp only [rU,nH,nW] at h)<;>simp only [go_sem,aL,hi,g0,aG (show i<9223372036854775807 by omega),h,undef])
   | (with_reducible refine dB (f:=dC) ?_;refine aB (aA _) rfl (DI _ _ _) rfl ?_;simp only [go_sem,aL,hi,g0,aG (show i<9223372036854775807 by omega),undef]))
  all_goals first
   | exact nU hi hJ (by clear hJ g0;generalize o.Guards[i]=x at *;simp_all [xR])
   | (have e:=yC (p:=xR) hi (by clear hJ g0;generalize o.Guards[i]=x at *;simp_all [xR]);simp [xT,e])
 intro hJ;simp only [go_sem,aL,aX (cZ _)];have h3:=yD hJ;clear hJ;refine aO o.Refs.length (λi=>⟨0,[(1,.ptr 0 0),(4,iv i)],[some (.box o.A)]⟩) (λi=>∀ j (hj:j<o.Refs.length),j<i→PG o.Refs[j]=true) ?_ (by intro j hj h;omega) ?_ ?_
 ·simp only [go_sem]
 ·intro i hi hJ;have g0:(ul o.Refs)[i]?=some [uv o.Refs[i]]:=aP _ o.Refs i hi;have hlen:o.Refs.length<9223372036854775807:=by omega
  simp only [go_sem,aL,aT hi,hi,g0]
  repeat' (first
   | ((with_reducible refine aM (λh=>?_) (λh=>?_))<;>(try simp only [rU,nH,nW] at h)<;>simp only [go_sem,aL,hi,g0,aG (show i<9223372036854775807 by omega),h,undef])
   | (with_reducible refine dB (f:=uY) ?_;refine aB (aA _) rfl (Ld _) rfl ?_;simp only [go_sem,aL,hi,g0,aG (show i<9223372036854775807 by omega),undef]))
  all_goals first
   | exact nU hi hJ (by clear hJ g0;generalize o.Refs[i]=x at *;simp_all [PG])
   | (have e:=yC (p:=PG) hi (by clear hJ g0;generalize o.Refs[i]=x at *;simp_all [PG]);simp [xT,e])
 intro hJ;simp only [go_sem,aL,aX (cZ _)];have h4:=yD hJ;clear hJ;refine aO o.Past.length (λi=>⟨0,[(1,.ptr 0 0),(5,iv i)],[some (.box o.A)]⟩) (λi=>∀ j (hj:j<o.Past.length),j<i→iJ o.Past[j]=true) ?_ (by intro j hj h;omega) ?_ ?_
 ·simp only [go_sem]
 ·intro i hi hJ;have g0:(o.Past.map Id.A)[i]?=some o.Past[i].A:=aP _ o.Past i hi;have hlen:o.Past.length<9223372036854775807:=by omega
  simp only [go_sem,aL,aT hi,hi,g0]
  repeat' (first
   | ((with_reducible refine aM (λh=>?_) (λh=>?_))<;>(try simp only [rU,nH,nW] at h)<;>simp only [go_sem,aL,hi,g0,aG (show i<9223372036854775807 by omega),h,undef])
   | (with_reducible refine dB (f:=iM) ?_;refine aB (aA _) rfl (DJ _) rfl ?_;simp only [go_sem,aL,hi,g0,aG (show i<9223372036854775807 by omega),undef]))
  all_goals first
   | exact nU hi hJ (by clear hJ g0;generalize o.Past[i]=x at *;simp_all [iJ])
   | (have e:=yC (p:=iJ) hi (by clear hJ g0;generalize o.Past[i]=x at *;simp_all [iJ]);simp [xT,e])
 intro hJ;simp only [go_sem,aL,aX (cZ _)];have h5:=yD hJ;clear hJ;refine aO o.Path.length (λi=>⟨0,[(1,.ptr 0 0),(6,iv i)],[some (.box o.A)]⟩) (λi=>∀ j (hj:j<o.Path.length),j<i→DM o.Path[j]=true) ?_ (by intro j hj h;omega) ?_ ?_
 ·simp only [go_sem]
 ·intro i hi hJ;have g0:(o.Path.map NodeM.A)[i]?=some [uv o.Path[i].Pub,C0 o.Path[i].Boxes]:=aP _ o.Path i hi;have hlen:o.Path.length<9223372036854775807:=by omega
  have lb:o.Path[i].Boxes.length<9223372036854775807:=by have:=(ho.path.2 _ (jY hi)).2.1;omega
  simp only [go_sem,aL,aT hi,hi,g0]
  repeat' (first
   | ((with_reducible refine aM (λh=>?_) (λh=>?_))<;>(try simp only [rU,nH,nW] at h)<;>simp only [go_sem,aL,hi,g0,aG (show i<9223372036854775807 by omega),h,undef])
   | (with_reducible refine dB (f:=jK) ?_;refine aB (aA _) rfl (B2 _) rfl ?_;simp only [go_sem,aL,hi,g0,aG (show i<9223372036854775807 by omega),undef])
   | (with_reducible refine dB (f:=uZ) ?_;refine aB (aA _) rfl (V0 _ lb) rfl ?_;simp only [go_sem,aL,hi,g0,aG (show i<9223372036854775807 by omega),undef]))
  all_goals first
   | exact nU hi hJ (by clear hJ g0;generalize o.Path[i]=x at *;simp_all [DM])
   | (have e:=yC (p:=DM) hi (by clear hJ g0;generalize o.Path[i]=x at *;simp_all [DM]);simp [xT,e])
 intro hJ;simp only [go_sem,aL,aX (cZ _)];have h6:=yD hJ;clear hJ;refine aO o.Hist.length (λi=>⟨0,[(1,.ptr 0 0),(7,iv i)],[some (.box o.A)]⟩) (λi=>∀ j (hj:j<o.Hist.length),j<i→DN o.Hist[j]=true) ?_ (by intro j hj h;omega) ?_ ?_
 ·simp only [go_sem]
 ·intro i hi hJ;have g0:(o.Hist.map SealM.A)[i]?=some [.v (.int .i64 o.Hist[i].Of.a),.v (.int .i64 o.Hist[i].Of.b),.v (.int .u64 o.Hist[i].Of.c),.ls 1 (bl o.Hist[i].Body)]:=aP _ o.Hist i hi;have hlen:o.Hist.length<9223372036854775807:=by omega
  simp only [go_sem,aL,aT hi,hi,g0]
  repeat' (first
   | ((with_reducible refine aM (λh=>?_) (λh=>?_))<;>(try simp only [rU,nH,nW] at h)<;>simp only [go_sem,aL,hi,g0,aG (show i<9223372036854775807 by omega),h,undef])
   | (with_reducible refine dB (f:=iM) ?_;refine aB (aA _) rfl (DJ o.Hist[i].Of) rfl ?_;simp only [go_sem,aL,hi,g0,aG (show i<9223372036854775807 by omega),undef]))
  all_goals first
   | exact nU hi hJ (by clear hJ g0;generalize o.Hist[i]=x at *;simp_all [DN])
   | (have e:=yC (p:=DN) hi (by clear hJ g0;generalize o.Hist[i]=x at *;simp_all [DN]);simp [xT,e])
 intro hJ;simp only [go_sem,aL,aX (cZ _)];have h7:=yD hJ;clear hJ;refine aB (aA _) rfl (V0 o.Boxes (by omega)) rfl ?_;simp only [go_sem,xT,h3,h4,h5,h6,h7,jG]
end
end
section
structure CE where
 i:Nat
 d:Nat
 f:Nat
 xs:List Operand
structure IE where
 i:Nat
 k:Int
 s:Nat
 n:Nat
 deriving DecidableEq
def G0 {s:List (Nat×AV)} {j:Nat} (h:j∉s.map (·.1)):GL s j=s:=by
 induction s with
 | nil=>rfl
 | cons p s ih =>
  obtain ⟨i,x⟩:=p;simp only [cN,gK,not_or] at h;simp only [GL];rw [if_neg (λe=>h.1 e.symm),ih h.2]
def BG {s:List (Nat×AV)} {j:Nat} {x:AV} (hn:(s.map (·.1)).Nodup) (h:(j,x)∈s):aU s j=x:=by
 induction s with
 | nil=>simp at h
 | cons p s ih =>
  obtain ⟨i,y⟩:=p;simp only [cN,KM] at hn;simp only [aU];rcases gK.1 h with e | h
  ·injection e with e1 e2;rw [if_pos e1.symm,e2]
  ·rw [if_neg λe=>hn.1 (by rw [e];exact dE.2 ⟨_,h,rfl⟩),ih hn.2 h]
def Rn {s:List (Nat×AV)} {j:Nat} (h:j∈s.map (·.1)):(j,aU s j)∈s:=by
 induction s with
 | nil=>simp at h
 | cons p s ih =>
  obtain ⟨i,y⟩:=p;simp only [aU];split
  ·rename_i e;subst e;exact FO
  ·rename_i e;simp only [cN,gK] at h;exact FL _ (ih (h.resolve_left λe2=>e e2.symm))
def Xc {s t:List (Nat×AV)} (hn:(t.map (·.1)).Nodup) (h:s.Perm t) {j:Nat} (hj:j∈t.map (·.1)):aU s j=aU t j :=
 BG ((h.map _).nodup_iff.2 hn) (h.mem_iff.2 (Rn hj))
def Tv {s t:List (Nat×AV)} (hn:(s.map (·.1)).Nodup) (h:s.Perm t):pP s=pP t:=by
 induction h with
 | nil=>rfl
 | cons p h ih=>simp only [cN,KM] at hn;simp only [pP];rw [ih hn.2]
 | swap p q l =>
  simp only [cN,KM,gK,not_or] at hn;simp only [pP];generalize pP l=l';have hne:q.1≠p.1:=hn.1.1
  induction l' with
  | nil =>
   simp only [HU];rcases bY p.1 q.1 with h1 | h1
   ·rw [if_neg (by omega),if_pos h1]
   ·rw [if_pos (by omega),if_neg (by omega)]
  | cons x l' ih =>
   simp only [HU];by_cases h1:p.1<x.1<;>by_cases h2:q.1<x.1<;>simp only [h1,h2,if_true,if_false,HU]
   ·rcases bY p.1 q.1 with h3 | h3
    ·rw [if_neg (by omega),if_pos h3]
    ·rw [if_pos (by omega),if_neg (by omega)]
   ·rw [if_neg (by omega)]
   ·rw [if_neg (by omega)]
   ·rw [ih]
 | trans h1 h2 ih1 ih2=>rw [ih1 hn,ih2 ((h1.map _).nodup_iff.1 hn)]
def N4:∀ s:List (Nat×AV),kK [] s=s
 | []=>rfl
 | p::s=>by simp [kK,N4 s]
def Ro {r:Nat} {s t:List (Nat×AV)} {T:aQ} (hn:(s.map (·.1)).Nodup) (h:s.Perm t):yR [] ⟨r,s,T⟩=yR [] ⟨r,t,T⟩:=by
 simp only [yR,N4,Tv hn h]
def Pb {G:Nat→Option (List AV)} {st:St}:∀ {l:List HOper},(∀ o∈l,mT G st [o])→mT G st l
 | [],_=>trivial
 | o::l,h=>⟨(h o FO).1,Pb λx hx=>h x (FL _ hx)⟩
def lW {p:Plan} {E:List Nat} {k:Nat}:k∈p.ready E↔k<p.hops.length∧k∉E∧∀ q∈p.p k,q∈E:=by
 simp only [Plan.ready,Ai,rV,eM,Cg,kY,GB,decide_eq_true_eq,decide_eq_false_iff_not]
def Rq {p:Plan} {E:List Nat} {o:HOper} (h:o∈p.pend E):∃ q,q∈E∧p.quiet q=true∧(∀ k∈E,p.quiet k=false→q∉p.p k)∧p.hops[q]?=some o:=by
 simp only [Plan.pend,U9,Ai,eM,Cg,List.any_eq_false,GB,decide_eq_true_eq,not_and] at h;obtain ⟨q,⟨h1,h2,h3⟩,h4⟩:=h;exact ⟨q,h1,h2,λk hk hq hm=>h3 k hk hq (by simpa using hm),h4⟩
structure PlOk (p:Plan) (Q:List Nat) (z y:Nat) (ci:List Nat) (es:List IE):Prop where
 all:∀ k,k<p.hops.length→k∈Q∨k=0∨k∈ci∨k∈es.map (·.i)∨k=z∨k=y
 lt:∀ k∈0::z::y::(ci++es.map (·.i)),k<p.hops.length
 cp:∀ j,j<ci.length→(j=0∨ci.getD (j-1) 0∈p.p (ci.getD j 0))∧∀ q∈p.p (ci.getD j 0),q∈Q++ci.take j
 ep:∀ e∈es,e.n≤ci.length∧0∈p.p e.i∧(e.n=0∨ci.getD (e.n-1) 0∈p.p e.i)∧∀ q∈p.p e.i,q∈0::(Q++ci.take e.n)
 mp:∀ q∈p.p 0,q∈Q
 zp:(∀ q∈0::(ci++es.map (·.i)),q∈p.p z)∧∀ q∈p.p z,q∈0::(Q++(ci++es.map (·.i)))
 yp:z∈p.p y∧∀ q∈p.p y,q∈z::0::(Q++(ci++es.map (·.i)))
 nd:(Q++0::z::y::(ci++es.map (·.i))).Nodup
 qn:∀ k∈0::y::(ci++es.map (·.i)),p.quiet k=false
 qz:p.quiet z=true
def aCq {T:aQ} {ev:Operand→AV}:bK T ev (.mkm false)=some (.mp T.length,T++[some (MP [])]):=cH rfl rfl
def Rr {T0:aQ} {a b:Option AObj}:(T0++[a]).set T0.length b=T0++[b]:=by
 rw [Yj _ _ (fW _)];simp
section
variable {P:Program} {G:Nat→Option (List AV)} {p:Plan} {Q:List Nat} {m z y dz dy r0:Nat} {cs:List CE} {es:List IE} {s0:List (Nat×AV)} {T0:aQ} {vs:Nat→Bool} {K:St→Prop}
abbrev N5 (m:Nat) (cs:List CE) (s0:List (Nat×AV)) (n0:Nat) (vs:Nat→Bool) (mm:Bool) (i:Nat):List (Nat×AV) :=
 s0++((cs.take i).map (λc=>(c.d,.v (.bool (vs c.d))))++if mm then [(m,.mp n0)] else [])
abbrev plT (T0:aQ) (vs:Nat→Bool) (mm:Bool) (D:List IE):aQ:=T0++if mm then [some (MP (D.map λe=>(e.k,vs e.s)))] else []
def Tw {l:List CE} {j:Nat} (hj:j<l.length):(l.map (·.i)).getD j 0=l[j].i:=by simp [hj]
def aEN (hok:PlOk p Q z y (cs.map (·.i)) es) (h0:p.hops[0]?=some ⟨some m,.mkm false,none⟩)
  (hc:∀ c∈cs,p.hops[c.i]?=some ⟨some c.d,.call (.func c.f) c.xs,none⟩)
  (he:∀ e∈es,p.hops[e.i]?=some ⟨none,.mup false [.int .i64] (.tmp m) (.const (.int .i64 e.k)) (.tmp e.s),none⟩)
  (hz:p.hops[z]?=some ⟨some dz,.mov (.tmp m),none⟩) (hy:p.hops[y]?=some ⟨some dy,.rgm (.tmp dz),none⟩)
  (hkeys:(s0.map (·.1)++(cs.map (·.d)++[m,dz,dy])).Nodup) (hek:(es.map (·.k)).Nodup)
  (hcall:∀ c∈cs,∀ (s:List (Nat×AV)) (T:aQ) (K':AV→aQ→Prop),(∀ x∈s0.map (·.1),aU s x=aU s0 x)→K' (.v (.bool (vs c.d))) T→GO P G c.f (c.xs.map (bX G s)) T K')
  (hval:∀ e∈es,(e.s∈s0.map (·.1)∧aU s0 e.s=.v (.bool (vs e.s)))∨(∃ c,cs[e.n-1]?=some c∧0<e.n∧c.d=e.s))
  (hq:∀ (s:List (Nat×AV)) (T:aQ),(∀ x∈s0.map (·.1),aU s x=aU s0 x)→(∀ j,j<T0.length→cR T j=cR T0 j)→∀ q∈Q,∀ o,p.hops[q]?=some o→mT G ⟨r0,s,T⟩ [o])
  (hcs:0<cs.length)
  (hK:∀ X,X.Perm (es.map λe=>(e.k,vs e.s))→K (yR [] ⟨r0,(dy,.ptr (T0.length+1) 0)::(dz,.mp T0.length)::N5 m cs s0 T0.length vs true cs.length,T0++[some (MP X),some (.mit (some T0.length) X.length [] X.length)]⟩)) :
  ∀ (n:Nat) (gc mm:Bool) (i:Nat) (D:List IE) (E:List Nat) (s:List (Nat×AV)),i≤cs.length→D.Nodup→(∀ e∈D,e∈es∧e.n≤i∧mm=true)→s.Perm (N5 m cs s0 T0.length vs mm i) →
   (∀ k,k∈E↔k∈Q∨(mm=true∧k=0)∨k∈(cs.map (·.i)).take i∨k∈D.map (·.i))→(gc=true∨(mm=false∧i=0))→cs.length+es.length+4≤n+i+D.length+mm.toNat →
   tR P G p n gc E ⟨r0,s,plT T0 vs mm D⟩ K:=by
 have hnd:=HN.1 hok.nd;have hQ:=λk (hk:k∈Q) k2 (hk2:k2∈0::z::y::(cs.map (·.i)++es.map (·.i)))=>hnd.2.2 k hk k2 hk2;have hN:=hnd.2.1;simp only [KM,gK,not_or] at hN;obtain ⟨⟨h0z,h0y,h0m⟩,⟨hzy,hzm⟩,hym,hN⟩:=hN;have hcN:=(HN.1 hN).1;have heN:=(HN.1 hN).2.1;have hce:=(HN.1 hN).2.2;have hkn:=HN.1 hkeys;have keysOf:∀ (mm:Bool) (i:Nat),((N5 m cs s0 T0.length vs mm i).map (·.1)).Nodup:=λmm i=>by
  have hsub:((N5 m cs s0 T0.length vs mm i).map (·.1)).Sublist (s0.map (·.1)++(cs.map (·.d)++[m,dz,dy])):=by
   simp only [gQ,Ee];refine List.Sublist.append (List.Sublist.refl _) (List.Sublist.append ?_ ?_)
   ·show ((cs.take i).map _).Sublist _;exact (List.take_sublist i cs).map _
   ·cases mm
    ·exact List.nil_sublist _
    ·exact List.Sublist.cons_cons _ (List.nil_sublist _)
  exact hsub.nodup hkeys
 intro n
 induction n with
 | zero =>
  intro gc mm i D E s hi hD hDe _ _ _ hn;exfalso;have h1:D.length≤es.length:=by
   have:(D.map (·.i)).length≤(es.map (·.i)).length:=vA (by
    refine (Sx.2 ?_);rw [NZ];refine Uw (λ{a b} ha hb hab e=>hab ?_) (Sx.1 hD);have:=hDe a ha;have hb2:=hDe b hb;obtain ⟨ia,hia,rfl⟩:=AH this.1;obtain ⟨ib,hib,rfl⟩:=AH hb2.1;have:=(IV (h₀:=by simpa using hia) (h₁:=by simpa using hib) heN).1 (by simpa using e)
    subst this;rfl) (λx hx=>by obtain ⟨e,he1,rfl⟩:=dE.1 hx;exact dE.2 ⟨e,(hDe e he1).1,rfl⟩)
   simpa using this
  have h2:mm.toNat≤1:=by cases mm<;>decide
  omega
 | succ n ih =>
  intro gc mm i D E s hi hD hDe hs hE hgc hn;have hgetI:∀ j (hj:j<cs.length),(cs.map (·.i)).getD j 0=cs[j].i:=λj hj=>Tw hj;have hcmem:∀ j (hj:j<cs.length),cs[j].i∈cs.map (·.i):=λj hj=>dE.2 ⟨_,jY hj,rfl⟩;have hctake:∀ j (hj:j<cs.length),cs[j].i∈(cs.map (·.i)).take i↔j<i:=λj hj=>by
   rw [Qb];constructor
   ·rintro ⟨k,hk,e⟩;simp only [aL] at hk;have:=(IV (h₀:=by simp;omega) (h₁:=by simpa using hj) hcN).1 (show (cs.map (·.i))[k]'(by simp;omega)=(cs.map (·.i))[j]'(by simpa using hj) by rw [e];simp);omega
   ·intro h;exact ⟨j,by simp;omega,by simp⟩
  have einj:∀ a∈es,∀ b∈es,a.i=b.i→a=b:=λa ha b hb e=>by
   obtain ⟨ia,hia,rfl⟩:=AH ha;obtain ⟨ib,hib,rfl⟩:=AH hb;have:=(IV (h₀:=by simpa using hia) (h₁:=by simpa using hib) heN).1 (by simpa using e);subst this;rfl
  have hzE:z∉E:=λh=>by
   rcases (hE z).1 h with h | ⟨_,h⟩ | h | h
   ·exact hQ z h z (by simp) rfl
   ·exact h0z h.symm
   ·exact hzm (eO.2 (.inl (CS h)))
   ·obtain ⟨e,h1,h2⟩:=dE.1 h;exact hzm (eO.2 (.inr (dE.2 ⟨e,(hDe e h1).1,h2⟩)))
  have hyR:y∉p.ready E:=λh=>hzE ((lW.1 h).2.2 z hok.yp.1);have h0E:0∈E↔mm=true:=by
   rw [hE];constructor
   ·rintro (h | ⟨h,_⟩ | h | h)
    ·exact (hQ 0 h 0 (by simp) rfl).elim
    ·exact h
    ·exact (h0m (eO.2 (.inl (CS h)))).elim
    ·obtain ⟨e,h1,h2⟩:=dE.1 h;exact (h0m (eO.2 (.inr (dE.2 ⟨e,(hDe e h1).1,h2⟩)))).elim
   ·intro h;exact .inr (.inl ⟨h,rfl⟩)
  have hcE:∀ j (hj:j<cs.length),cs[j].i∈E↔j<i:=λj hj=>by
   rw [hE,hctake j hj];constructor
   ·rintro (h | ⟨_,h⟩ | h | h)
    ·exact (hQ _ h cs[j].i (by simp [hcmem j hj]) rfl).elim
    ·exact (h0m (eO.2 (.inl (h ▸ hcmem j hj)))).elim
    ·exact h
    ·obtain ⟨e,h1,h2⟩:=dE.1 h;exact (hce _ (hcmem j hj) _ (dE.2 ⟨e,(hDe e h1).1,rfl⟩) h2.symm).elim
   ·intro h;exact .inr (.inr (.inl h))
  have heE:∀ e∈es,e.i∈E↔e∈D:=λe he1=>by
   have hm:e.i∈es.map (·.i):=dE.2 ⟨e,he1,rfl⟩;rw [hE];constructor
   ·rintro (h | ⟨_,h⟩ | h | h)
    ·exact (hQ _ h e.i (by simp only [gK,eO];exact .inr (.inr (.inr (.inr hm)))) rfl).elim
    ·exact (h0m (eO.2 (.inr (h ▸ hm)))).elim
    ·exact (hce _ (CS h) _ hm rfl).elim
    ·obtain ⟨e',h1,h2⟩:=dE.1 h;rw [←einj e' (hDe e' h1).1 e he1 h2];exact h1
   ·intro h;exact .inr (.inr (.inr (dE.2 ⟨e,h,rfl⟩)))
  have hgS:∀ (s':List (Nat×AV)) (mm':Bool) (i':Nat),s'.Perm (N5 m cs s0 T0.length vs mm' i')→∀ x∈s0.map (·.1),aU s' x=aU s0 x:=λs' mm' i' hp x hx=>by
   have hk:=keysOf mm' i';rw [Xc hk hp (by simp only [gQ,eO];exact .inl hx)];refine BG hk ?_;exact eO.2 (.inl (Rn hx))
  have hqn:∀ q,p.quiet q=true→q∈E→q∈Q:=λq h1 h2=>by
   rcases (hE q).1 h2 with h | ⟨_,h⟩ | h | h
   ·exact h
   ·rw [h,hok.qn 0 (by simp)] at h1;simp at h1
   ·rw [hok.qn q (by simp only [gK,eO];exact .inr (.inr (.inl (CS h))))] at h1;simp at h1
   ·obtain ⟨e,h3,h4⟩:=dE.1 h;rw [hok.qn q (by simp only [gK,eO];exact .inr (.inr (.inr (dE.2 ⟨e,(hDe e h3).1,h4⟩))))] at h1;simp at h1
  have chk:∀ (k:Nat) (s':List (Nat×AV)) (T':aQ),p.quiet k=false→(∀ x∈s0.map (·.1),aU s' x=aU s0 x)→(∀ j,j<T0.length→cR T' j=cR T0 j)→mT G ⟨r0,s',T'⟩ (p.pend (k::E)):=λk s' T' hk h1 h2=>Pb λo ho=>by
   obtain ⟨q,hq1,hq2,_,hq4⟩:=Rq ho;refine hq s' T' h1 h2 q ?_ o hq4;rcases gK.1 hq1 with e | h
   ·rw [e,hk] at hq2;simp at hq2
   ·exact hqn q hq2 h
  have getT_app:∀ (T0 R:aQ) j,j<T0.length→cR (T0++R) j=cR T0 j:=λT0 R j hj=>by unfold cR;rw [Eb hj]
  have hDl:D.length≤es.length:=by
   have:(D.map (·.i)).length≤(es.map (·.i)).length:=vA (by
    refine (Sx.2 ?_);rw [NZ]
    exact Uw (λ{a b} ha hb hab e=>hab (einj a (hDe a ha).1 b (hDe b hb).1 e)) (Sx.1 hD)) (λx hx=>by obtain ⟨e,he1,rfl⟩:=dE.1 hx;exact dE.2 ⟨e,(hDe e he1).1,rfl⟩)
   simpa using this
  have hmN:mm.toNat≤1:=by cases mm<;>decide
  have hks:=keysOf mm i;have hsn:(s.map (·.1)).Nodup:=(hs.map _).nodup_iff.2 hks;have hnew:∀ x∈cs.map (·.d)++[m,dz,dy],x∉s0.map (·.1):=λx hx h=>hkn.2.2 x h x hx rfl;have hdN:=HN.1 hkn.2.1;by_cases hdone:mm=true∧i=cs.length∧∀ e∈es,e∈D
  ·obtain ⟨rfl,rfl,hall⟩:=hdone;have hgt:gc=true:=by
    rcases hgc with h | ⟨h,_⟩
    ·exact h
    ·simp at h
   subst hgt
   have hzR:z∈p.ready E:=lW.2 ⟨hok.lt z (by simp),hzE,λq hq1=>by
    have:=hok.zp.2 q hq1;simp only [gK,eO] at this;rcases this with rfl | h | h | h
    ·exact h0E.2 rfl
    ·exact (hE q).2 (.inl h)
    ·obtain ⟨j,hj,rfl⟩:=AH h;simp only [aL] at hj;simp only [IW];exact (hcE j hj).2 hj
    ·obtain ⟨e,h1,rfl⟩:=dE.1 h
     exact (heE e h1).2 (hall e h1)⟩
   have hRz:∀ k∈p.ready E,k=z:=λk hk=>by
    have h1:=lW.1 hk;rcases hok.all k h1.1 with h | h | h | h | h | h
    ·exact (h1.2.1 ((hE k).2 (.inl h))).elim
    ·exact (h1.2.1 (h ▸ h0E.2 rfl)).elim
    ·obtain ⟨j,hj,rfl⟩:=AH h;simp only [aL] at hj;simp only [IW] at h1;exact (h1.2.1 ((hcE j hj).2 hj)).elim
    ·obtain ⟨e,h3,rfl⟩:=dE.1 h;exact (h1.2.1 ((heE e h3).2 (hall e h3))).elim
    ·exact h
    ·exact (hyR (h ▸ hk)).elim
   have hfz:(p.ready E).find? p.quiet=some z:=by
    cases h:(p.ready E).find? p.quiet with
    | none=>have:=Mu.1 h z hzR;rw [hok.qz] at this;simp at this
    | some k=>rw [hRz k (NU h)]
   have hDlen:D.length=es.length:=Nat.le_antisymm hDl (by
    have:(es.map (·.i)).length≤(D.map (·.i)).length:=vA heN (λx hx=>by obtain ⟨e,he1,rfl⟩:=dE.1 hx;exact dE.2 ⟨e,hall e he1,rfl⟩)
    simpa using this)
   obtain ⟨n,rfl⟩:∃ n',n=n'+2:=⟨n-2,by simp only [Bool.toNat_true] at hn;omega⟩
   have hgm:aU s m=.mp T0.length:=BG hsn (hs.mem_iff.2 (by simp));rw [tR,hfz];have hopz:bK (plT T0 vs true D) (bX G s) (.mov (.tmp m))=some (.mp T0.length,plT T0 vs true D):=by simp only [bK,bX,hgm]
   simp only [hz,eC,hopz,dT];have hEz:∀ k∈p.ready (z::E),k=y:=λk hk=>by
    have h1:=lW.1 hk;simp only [gK,not_or] at h1;rcases hok.all k h1.1 with h | h | h | h | h | h
    ·exact (h1.2.1.2 ((hE k).2 (.inl h))).elim
    ·exact (h1.2.1.2 (h ▸ h0E.2 rfl)).elim
    ·obtain ⟨j,hj,rfl⟩:=AH h;simp only [aL] at hj;simp only [IW] at h1;exact (h1.2.1.2 ((hcE j hj).2 hj)).elim
    ·obtain ⟨e,h3,rfl⟩:=dE.1 h;exact (h1.2.1.2 ((heE e h3).2 (hall e h3))).elim
    ·exact (h1.2.1.1 h).elim
    ·exact h
   have hyE:y∉E:=λh=>by
    rcases (hE y).1 h with h | ⟨_,h⟩ | h | h
    ·exact hQ y h y (by simp) rfl
    ·exact h0y h.symm
    ·exact hym (eO.2 (.inl (CS h)))
    ·obtain ⟨e,h1,h2⟩:=dE.1 h;exact hym (eO.2 (.inr (dE.2 ⟨e,(hDe e h1).1,h2⟩)))
   have hyz:y∈p.ready (z::E):=lW.2 ⟨hok.lt y (by simp),by simp only [gK,not_or];exact ⟨λh=>hzy h.symm,hyE⟩,λq hq1=>by
    have:=hok.yp.2 q hq1;simp only [gK,eO] at this ⊢;rcases this with rfl | rfl | h | h | h
    ·exact .inl rfl
    ·exact .inr (h0E.2 rfl)
    ·exact .inr ((hE q).2 (.inl h))
    ·obtain ⟨j,hj,rfl⟩:=AH h;simp only [aL] at hj;simp only [IW];exact .inr ((hcE j hj).2 hj)
    ·obtain ⟨e,h1,rfl⟩:=dE.1 h
     exact .inr ((heE e h1).2 (hall e h1))⟩
   have hfy:(p.ready (z::E)).find? p.quiet=none:=Mu.2 λk hk=>by rw [hEz k hk,hok.qn y (by simp)];simp
   have hdzs:dz∉s.map (·.1):=λh=>by
    have:=(hs.map (·.1)).mem_iff.1 h;simp only [N5,gQ,eO,Ee] at this;rcases this with h | h | h
    ·exact hnew dz (by simp) h
    ·obtain ⟨c,h1,h2⟩:=dE.1 h;exact hdN.2.2 c.d (dE.2 ⟨c,CS h1,rfl⟩) dz (by simp) h2
    ·simp at h;have:=hdN.2.1;simp [h] at this
   have hdys:dy∉s.map (·.1):=λh=>by
    have:=(hs.map (·.1)).mem_iff.1 h;simp only [N5,gQ,eO,Ee] at this;rcases this with h | h | h
    ·exact hnew dy (by simp) h
    ·obtain ⟨c,h1,h2⟩:=dE.1 h;exact hdN.2.2 c.d (dE.2 ⟨c,CS h1,rfl⟩) dy (by simp) h2
    ·simp at h;have:=hdN.2.1;simp [h] at this
   have hzyd:dz≠dy:=by
    have:=hdN.2.1;simp at this;exact this.2
   have hs1:Cm s dz (.mp T0.length)=(dz,.mp T0.length)::s:=by simp only [Cm,G0 hdzs]
   rw [hs1,tR,hfy];have hXl:(D.map λe=>(e.k,vs e.s)).Perm (es.map λe=>(e.k,vs e.s)):=by
    refine List.Perm.map _ ?_
    exact (aDp hD (by
     refine Sx.2 (Uw (λ{a b} ha hb hab e=>hab (congrArg IE.i e)) (NZ.1 (Sx.1 heN)))
     )).2 λe=>⟨λh=>(hDe e h).1,hall e⟩
   generalize hX:(D.map λe=>(e.k,vs e.s))=X at *
   have hTX:plT T0 vs true D=T0++[some (MP X)]:=by simp only [plT,hX,if_true]
   rw [hTX];have hgX:cR (T0++[some (MP X)]) T0.length=some (MP X):=by simp [cR]
   have hopy:bK (T0++[some (MP X)]) (bX G ((dz,.mp T0.length)::s)) (.rgm (.tmp dz))=some (.ptr (T0.length+1) 0,T0++[some (MP X),some (.mit (some T0.length) X.length [] X.length)]):=by
    have h1:bX G ((dz,.mp T0.length)::s) (.tmp dz)=.mp T0.length:=by simp only [bX,aU,if_true]
    simp only [bK,h1,hgX];simp only [MP,dU,kS,kI,eE,Ag,FQ,rW]
   have last:∀ gc',tR P G p (n+1) (true||gc') (y::z::E) ⟨r0,(dy,.ptr (T0.length+1) 0)::(dz,.mp T0.length)::s,T0++[some (MP X),some (.mit (some T0.length) X.length [] X.length)]⟩ K:=λgc'=>by
    have hr0:p.ready (y::z::E)=[]:=by
     refine Uq.2 λk hk=>?_;have h1:=lW.1 hk;simp only [gK,not_or] at h1;rcases hok.all k h1.1 with h | h | h | h | h | h
     ·exact (h1.2.1.2.2 ((hE k).2 (.inl h))).elim
     ·exact (h1.2.1.2.2 (h ▸ h0E.2 rfl)).elim
     ·obtain ⟨j,hj,rfl⟩:=AH h;simp only [aL] at hj;simp only [IW] at h1;exact (h1.2.1.2.2 ((hcE j hj).2 hj)).elim
     ·obtain ⟨e,h3,rfl⟩:=dE.1 h;exact (h1.2.1.2.2 ((heE e h3).2 (hall e h3))).elim
     ·exact (h1.2.1.2.1 h).elim
     ·exact (h1.2.1.1 h).elim
    rw [tR,hr0];simp only [List.find?_nil,E5,if_true];have hpm:=((hs.cons (dz,AV.mp T0.length)).cons (dy,AV.ptr (T0.length+1) 0))
    have hn2:(((dy,AV.ptr (T0.length+1) 0)::(dz,AV.mp T0.length)::s).map (·.1)).Nodup:=by
     simp only [cN,KM,gK,not_or];exact ⟨⟨λh=>hzyd h.symm,hdys⟩,hdzs,hsn⟩
    rw [Ro hn2 hpm];exact hK X hXl
   cases hR:p.ready (z::E) with
   | nil=>rw [hR] at hyz;simp at hyz
   | cons c cs' =>
    simp only;intro k hk;have hky:=hEz k (by rw [hR];exact hk);subst hky;refine ⟨_,hy,?_⟩;simp only [eC,tI,hopy,dT,fY,jZ,if_false];have hs2:Cm ((dz,AV.mp T0.length)::s) dy (.ptr (T0.length+1) 0)=(dy,.ptr (T0.length+1) 0)::(dz,.mp T0.length)::s:=by
     simp only [Cm];rw [G0];simp only [cN,gK,not_or];exact ⟨λh=>hzyd h.symm,hdys⟩
    rw [hs2];refine ⟨Pb λo ho=>?_,last _⟩;obtain ⟨q,hq1,hq2,hq3,hq4⟩:=Rq ho;refine hq _ _ (λx hx=>?_) (λj hj=>getT_app _ _ j hj) q ?_ o hq4
    ·have e1:dy≠x:=λe=>hnew dy (by simp) (e ▸ hx);have e2:dz≠x:=λe=>hnew dz (by simp) (e ▸ hx);simp only [aU,e1,e2,if_false];exact hgS s true cs.length hs x hx
    ·rcases gK.1 hq1 with e | h
     ·rw [e,hok.qn k (by simp)] at hq2;simp at hq2
     ·rcases gK.1 h with e | h
      ·exact (hq3 k (by simp) (hok.qn k (by simp)) (e ▸ hok.yp.1)).elim
      ·exact hqn q hq2 h
  ·have hfn:(p.ready E).find? p.quiet=none:=Mu.2 λk hk=>by
    have h1:=lW.1 hk;rcases hok.all k h1.1 with h | h | h | h | h | h
    ·exact (h1.2.1 ((hE k).2 (.inl h))).elim
    ·rw [h,hok.qn 0 (by simp)];simp
    ·rw [hok.qn k (by simp only [gK,eO];exact .inr (.inr (.inl h)))];simp
    ·rw [hok.qn k (by simp only [gK,eO];exact .inr (.inr (.inr h)))];simp
    ·exfalso;subst h;have h2:=λq hq1=>h1.2.2 q (hok.zp.1 q hq1);refine hdone ⟨h0E.1 (h2 0 (by simp)),?_,λe he1=>(heE e he1).1 (h2 e.i (by simp only [gK,eO];exact .inr (.inr (dE.2 ⟨e,he1,rfl⟩))))⟩;have h3:cs.length-1<i:=(hcE (cs.length-1) (by omega)).1 (h2 _ (by simp only [gK,eO];exact .inr (.inl (hcmem _ _))));omega
    ·exact (hyR (h ▸ hk)).elim
   have hr0:mm=false→0∈p.ready E:=λh=>lW.2 ⟨hok.lt 0 (by simp),λh2=>by rw [h0E,h] at h2;simp at h2,λq hq1=>(hE q).2 (.inl (hok.mp q hq1))⟩
   have hrc:∀ hi2:i<cs.length,cs[i].i∈p.ready E:=λhi2=>lW.2 ⟨hok.lt _ (by simp only [gK,eO];exact .inr (.inr (.inr (.inl (hcmem i hi2))))),λh2=>by have:=(hcE i hi2).1 h2;omega,λq hq1=>by
    have:=(hok.cp i (by simpa using hi2)).2 q (by rw [hgetI i hi2];exact hq1);rcases eO.1 this with h | h
    ·exact (hE q).2 (.inl h)
    ·exact (hE q).2 (.inr (.inr (.inl h)))⟩
   rw [tR,hfn]
   cases hR:p.ready E with
   | nil =>
    exfalso;rw [hR] at hr0 hrc
    cases mm with
    | false=>exact absurd (hr0 rfl) (by simp)
    | true =>
     by_cases hi2:i<cs.length
     ·exact absurd (hrc hi2) (by simp)
     ·have hie:i=cs.length:=by omega
      refine hdone ⟨rfl,hie,λe he1=>?_⟩;refine Qa λhne=>?_;have h1:=hok.ep e he1
      have:e.i∈p.ready E:=lW.2 ⟨hok.lt _ (by simp only [gK,eO];exact .inr (.inr (.inr (.inr (dE.2 ⟨e,he1,rfl⟩))))),λh2=>hne ((heE e he1).1 h2),λq hq1=>by
       have:=h1.2.2.2 q hq1;simp only [gK,eO] at this;rcases this with rfl | h | h
       ·exact h0E.2 rfl
       ·exact (hE q).2 (.inl h)
       ·refine (hE q).2 (.inr (.inr (.inl ?_)));rw [hie,pY (by simp)]
        exact CS h⟩
      rw [hR] at this;simp at this
   | cons c cs' =>
    simp only;have hgc':(gc||!cs'.isEmpty)=true:=by
     rcases hgc with h | ⟨h1,h2⟩
     ·rw [h];rfl
     ·have ha:=hr0 h1;have hb:=hrc (by omega);rw [hR] at ha hb
      cases cs' with
      | cons _ _=>simp
      | nil =>
       exfalso;simp only [gZ] at ha hb;exact h0m (eO.2 (.inl (by rw [ha,←hb];exact hcmem _ _)))
    intro k hk;have h1:=lW.1 (show k∈p.ready E by rw [hR];exact hk);have hTg:∀ (R:aQ) j,j<T0.length→cR (T0++R) j=cR T0 j:=λR j hj=>getT_app T0 R j hj;rcases hok.all k h1.1 with h | h | h | h | h | h
    ·exact (h1.2.1 ((hE k).2 (.inl h))).elim
    ·
     subst h;have hmf:mm=false:=by
      cases mm with
      | false=>rfl
      | true=>exact (h1.2.1 (h0E.2 rfl)).elim
     subst hmf;have hD0:D=[]:=Uq.2 λe h=>by have:=(hDe e h).2.2;simp at this
     subst hD0;refine ⟨_,h0,?_⟩;have hms:m∉s.map (·.1):=λh=>by
      have:=(hs.map (·.1)).mem_iff.1 h;simp only [N5,gQ,eO,Ee] at this;rcases this with h | h | h
      ·exact hnew m (by simp) h
      ·obtain ⟨c,h1,h2⟩:=dE.1 h;exact hdN.2.2 c.d (dE.2 ⟨c,CS h1,rfl⟩) m (by simp) h2
      ·simp at h
     simp only [eC,tI,aCq,dT,fY,jZ,if_false];have hT:(plT T0 vs false [])=T0:=by simp [plT]
     have hs1:Cm s m (.mp T0.length)=(m,.mp T0.length)::s:=by simp only [Cm,G0 hms]
     rw [hT,hs1];have hp2:((m,AV.mp T0.length)::s).Perm (N5 m cs s0 T0.length vs true i):=by
      refine (hs.cons _).trans ?_;simp only [N5,jZ,if_false,kT,if_true,←eE];exact (List.perm_append_singleton _ _).symm
     refine ⟨chk 0 _ _ (hok.qn 0 (by simp)) (hgS _ true i hp2) (hTg _),?_⟩;have:=ih (gc||!cs'.isEmpty) true i [] (0::E) _ hi Nd (λe h=>by simp at h) hp2 (λq=>?_) (.inl hgc') ?_
     ·simpa [plT] using this
     ·rw [gK,hE];simp only [jZ,false_and,false_or,true_and];constructor
      ·rintro (h | h | h)
       ·exact .inr (.inl h)
       ·exact .inl h
       ·exact .inr (.inr h)
      ·rintro (h | h | h)
       ·exact .inr (.inl h)
       ·exact .inl h
       ·exact .inr (.inr h)
     ·simp only [Bool.toNat_true,Bool.toNat_false] at hn ⊢;omega
    ·
     obtain ⟨j,hj,rfl⟩:=AH h;simp only [aL] at hj;simp only [IW] at h1 hk ⊢;have hji:j=i:=by
      have h2:=hok.cp j (by simpa using hj);have h3:¬j<i:=λh=>h1.2.1 ((hcE j hj).2 h);rcases h2.1 with h4 | h4
      ·omega
      ·have h5:=h1.2.2 _ (by rw [hgetI j hj] at h4;exact h4);rw [hgetI (j-1) (by omega)] at h5;have:=(hcE (j-1) (by omega)).1 h5;omega
     subst hji;refine ⟨_,hc cs[j] (jY hj),?_⟩;simp only [eC,tI,bX,kT];refine hcall cs[j] (jY hj) s _ _ (hgS s mm j hs) ?_;have hcs1:cs[j].d∉s.map (·.1):=λh=>by
      have:=(hs.map (·.1)).mem_iff.1 h;simp only [N5,gQ,eO,Ee] at this;have hdn:(cs.map (·.d)).Nodup:=hdN.1;rcases this with h | h | h
      ·exact hnew _ (eO.2 (.inl (dE.2 ⟨_,jY hj,rfl⟩))) h
      ·obtain ⟨c,h3,h4⟩:=dE.1 h;obtain ⟨k,hk2,rfl⟩:=Qb.1 h3;have:=(IV (h₀:=by simp;omega) (h₁:=by simpa using hj) hdn).1 (show (cs.map (·.d))[k]'(by simp;omega)=(cs.map (·.d))[j]'(by simpa using hj) by simpa using h4);omega
      ·cases mm with
       | false=>simp at h
       | true =>
        simp at h;exact hdN.2.2 cs[j].d (dE.2 ⟨_,jY hj,rfl⟩) m (by simp) h
     have hp2:((cs[j].d,AV.v (.bool (vs cs[j].d)))::s).Perm (N5 m cs s0 T0.length vs mm (j+1)):=by
      refine (hs.cons _).trans ?_;simp only [N5];rw [oT hj,gQ,cN,eQ,eE];refine (VE (l₁:=s0)).symm.trans (Uz _ ?_);exact (VE (a:=(cs[j].d,AV.v (.bool (vs cs[j].d)))) (l₁:=(cs.take j).map λc=>(c.d,AV.v (.bool (vs c.d))))).symm
     have hs1:dT s (some cs[j].d) (.v (.bool (vs cs[j].d)))=(cs[j].d,.v (.bool (vs cs[j].d)))::s:=by simp only [dT,Cm,G0 hcs1]
     rw [hs1];simp only [fY,jZ,if_false];have hqk:=hok.qn cs[j].i (by simp only [gK,eO];exact .inr (.inr (.inl (hcmem j hj))));refine ⟨chk _ _ _ hqk (hgS _ mm (j+1) hp2) (hTg _),?_⟩;refine ih (gc||!cs'.isEmpty) mm (j+1) D (cs[j].i::E) _ hj hD (λe h=>by have:=hDe e h;exact ⟨this.1,by omega,this.2.2⟩) hp2 (λq=>?_) (.inl hgc') (by omega);rw [gK,hE,oT (by simpa using hj)];simp only [eO,gZ,IW];constructor
     ·rintro (h | h | h | h | h)
      ·exact .inr (.inr (.inl (.inr h)))
      ·exact .inl h
      ·exact .inr (.inl h)
      ·exact .inr (.inr (.inl (.inl h)))
      ·exact .inr (.inr (.inr h))
     ·rintro (h | h | (h | h) | h)
      ·exact .inr (.inl h)
      ·exact .inr (.inr (.inl h))
      ·exact .inr (.inr (.inr (.inl h)))
      ·exact .inl h
      ·exact .inr (.inr (.inr (.inr h)))
    ·
     obtain ⟨e,he1,rfl⟩:=dE.1 h;have h2:=hok.ep e he1;have hmt:mm=true:=h0E.1 (h1.2.2 0 h2.2.1);subst hmt;have hni:e.n≤i:=by
      rcases h2.2.2.1 with h3 | h3
      ·omega
      ·rcases Oh e.n with h5 | h5
       ·omega
       have h4:=h1.2.2 _ h3;have hlt:e.n-1<cs.length:=by have:=h2.1;simp at this;omega
       rw [hgetI _ hlt] at h4;have:=(hcE _ hlt).1 h4;omega
     have hnD:e∉D:=λh=>h1.2.1 ((heE e he1).2 h);refine ⟨_,he e he1,?_⟩;have hgm:aU s m=.mp T0.length:=BG hsn (hs.mem_iff.2 (by simp));have hgv:aU s e.s=.v (.bool (vs e.s)):=by
      rcases hval e he1 with ⟨h3,h4⟩ | ⟨c,h3,h4,h5⟩
      ·rw [hgS s true i hs e.s h3,h4]
      ·refine BG hsn (hs.mem_iff.2 ?_);obtain ⟨hlt,rfl⟩:=HM.1 h3;simp only [N5,eO,dE];exact .inr (.inl ⟨cs[e.n-1],Qb.2 ⟨e.n-1,by omega,rfl⟩,by rw [h5]⟩)
     have hkn:e.k∉(D.map λe=>(e.k,vs e.s)).map (·.1):=λh=>by
      simp only [Ee,dE,Function.comp] at h;obtain ⟨e',h3,h4⟩:=h;refine hnD ?_;have h6:e'=e:=by
       obtain ⟨ia,hia,rfl⟩:=AH (hDe e' h3).1;obtain ⟨ib,hib,rfl⟩:=AH he1;have:=(IV (h₀:=by simpa using hia) (h₁:=by simpa using hib) hek).1 (by simpa using h4);subst this;rfl
      rw [←h6];exact h3
     have hT0:T0++[some (MP (D.map λe:IE=>(e.k,vs e.s)))]=(T0++[none]).set T0.length (some (MP (D.map λe:IE=>(e.k,vs e.s)))):=by rw [Rr]
     have hstep:=Vo (T:=T0++[none]) (i:=T0.length) (by simp) (ev:=bX G s) (m:=m) (D:=D.map λe:IE=>(e.k,vs e.s)) (e:=(e.k,e.s,vs e.s)) (by simp only [bX,hgm]) rfl (by simp only [bX,hgv]) hkn;have hpT:plT T0 vs true D=(T0++[none]).set T0.length (some (MP (D.map λe:IE=>(e.k,vs e.s)))):=by simp only [plT,if_true,hT0]
     rw [hpT];simp only [eC,tI,hstep,dT,fY,jZ,if_false];rw [Rr];have hqk:=hok.qn e.i (by simp only [gK,eO];exact .inr (.inr (.inr (dE.2 ⟨e,he1,rfl⟩))));refine ⟨chk _ _ _ hqk (hgS _ true i hs) (hTg _),?_⟩
     have:=ih (gc||!cs'.isEmpty) true i (D++[e]) (e.i::E) s hi (HN.2 ⟨hD,by simp,λa ha b hb hab=>by rw [gZ] at hb;subst hb;subst hab;exact hnD ha⟩) (λx hx=>by
      rcases eO.1 hx with h | h
      ·exact hDe x h
      ·rw [gZ] at h;subst h;exact ⟨he1,hni,rfl⟩) hs (λq=>?_) (.inl hgc') (by simp only [dU,kS,kI];omega)
     ·simpa [plT] using this
     ·rw [gK,hE];simp only [gQ,cN,eQ,eO,gZ];constructor
      ·rintro (h | h | h | h | h)
       ·exact .inr (.inr (.inr (.inr h)))
       ·exact .inl h
       ·exact .inr (.inl h)
       ·exact .inr (.inr (.inl h))
       ·exact .inr (.inr (.inr (.inl h)))
      ·rintro (h | h | h | h | h)
       ·exact .inr (.inl h)
       ·exact .inr (.inr (.inl h))
       ·exact .inr (.inr (.inr (.inl h)))
       ·exact .inr (.inr (.inr (.inr h)))
       ·exact .inl h
    ·exfalso;have:=Mu.1 hfn k (by rw [hR];exact hk);rw [h,hok.qz] at this;simp at this
    ·exact (hyR (h ▸ (by rw [hR];exact hk))).elim
end
def aCr {P:Program} {G:Nat→Option (List AV)} {hops:List HOper} {pre:List (List Nat)} {n:Nat} {gc:Bool} {E:List Nat} {st:St} {K:St→Prop} (h:∀ p:Plan,p=⟨hops,pre⟩→tR P G p n gc E st K):@Mz P G (.plan hops pre n gc E) st ⟨K⟩:=h _ rfl
def N6 (p:Nat×AV):∀ l:List (Nat×AV),(HU p l).Perm (p::l)
 | []=>by simp [HU]
 | q::l=>by
  simp only [HU];split
  ·exact ZC _
  ·exact ((N6 p l).cons q).trans (List.Perm.swap p q l)
def Rs:∀ l:List (Nat×AV),(pP l).Perm l
 | []=>ZC _
 | p::l=>(N6 p _).trans ((Rs l).cons p)
def Xd {P:Program} {G:Nat→Option (List AV)} {a b c:HC} {st:St} {Q:Ex→St→Prop} (h:@cX P G (.seq (.seq a b) c) st ⟨Q⟩):@cX P G (.seq a (.seq b c)) st ⟨Q⟩:=by
 simp only [cP] at h ⊢;refine qS (λe s hq=>?_) h
 cases e with
 | normal=>simp only [aEn] at hq ⊢;rw [cP];exact hq
 | exit i=>simp only [aEo] at hq ⊢;exact hq
 | ret=>simp only [aEp] at hq ⊢;exact hq
end
section
def Rt (o:OpM):List (Int×Nat×Bool):=[(1,9,o.Device !=0),(2,12,o.Old !=0),(4,15,o.Member !=0),(8,18,o.Role !=0),(16,22,decide ((o.Path.length:Int)>0)),(32,26,!(o.Epoch.a==0&&(o.Epoch.b==0&&o.Epoch.c==0))),(64,29,o.N !=0),(128,33,decide ((o.Body.length:Int)>0)),(256,37,decide ((o.Refs.length:Int)>0)),(512,41,!(o.Of.a==0&&(o.Of.b==0&&o.Of.c==0))),
 (1024,45,decide ((o.Guards.length:Int)>0)),(2048,48,o.Need !=0),(4096,51,o.Wait !=0),(8192,55,decide ((o.Boxes.length:Int)>0)),(16384,58,((o.Pub:Int)!=0)),(32768,62,decide ((o.Hist.length:Int)>0))]
section
variable {G:Nat→Option (List AV)}
set_option maxHeartbeats 4000000
def Xe (o:OpM):aC PQ G Bq [.ag o.A] [] λr T=>r=.v (.int .i64 ((nT (gE o):Nat):Int))∧T=[]:=by
 refine aF JJ (by decide) ?_;simp only [go_sem,OpM.A_def,aL];refine aEx rfl (Lf (T0:=[some (.box o.A),none]) (i:=1) (m:=6) (by simp) rfl ?_ 16 (Rt o) [] rfl ?_ ?_ ?_)
 ·intro X;simp only [go_sem,OpM.A_def,aL]
 ·intro e he;simp only [Rt,gK,pQ,or_false] at he;rcases he with rfl | rfl | rfl | rfl | rfl | rfl | rfl | rfl | rfl | rfl | rfl | rfl | rfl | rfl | rfl | rfl<;>rfl
 ·show ([1,2,4,8,16,32,64,128,256,512,1024,2048,4096,8192,16384,32768]:List Int).Nodup;decide
 intro X hX;have hX2:X.Perm (gE o):=hX;have hk:∀ e∈X,∃ k:Nat,e.1=(k:Int)∧k<65536:=λe he=>by
  have:=hX2.mem_iff.1 he;simp only [gE,gK,pQ,or_false] at this;rcases this with rfl | rfl | rfl | rfl | rfl | rfl | rfl | rfl | rfl | rfl | rfl | rfl | rfl | rfl | rfl | rfl
  ·exact ⟨1,rfl,by decide⟩
  ·exact ⟨2,rfl,by decide⟩
  ·exact ⟨4,rfl,by decide⟩
  ·exact ⟨8,rfl,by decide⟩
  ·exact ⟨16,rfl,by decide⟩
  ·exact ⟨32,rfl,by decide⟩
  ·exact ⟨64,rfl,by decide⟩
  ·exact ⟨128,rfl,by decide⟩
  ·exact ⟨256,rfl,by decide⟩
  ·exact ⟨512,rfl,by decide⟩
  ·exact ⟨1024,rfl,by decide⟩
  ·exact ⟨2048,rfl,by decide⟩
  ·exact ⟨4096,rfl,by decide⟩
  ·exact ⟨8192,rfl,by decide⟩
  ·exact ⟨16384,rfl,by decide⟩
  ·exact ⟨32768,rfl,by decide⟩
 have hlen:X.length=16:=hX2.length_eq;rw [←Lg hX2];clear hX hX2;simp only [go_sem,MP,OpM.A_def,aL];have hloop:∀ e∈Gs X [],e.1.toNat<65536:=λe he=>by simp [Gs] at he
 refine bU (λn st=>∃ seen:List Nat,n=16-seen.length∧seen.Nodup∧(∀ b∈seen,b<X.length)∧st=⟨0,[(3,.v (.int .i64 ((nT (Gs X seen):Nat):Int))),(64,.ptr 0 0)],[some (.mit (some 1) X.length seen X.length),some (MP X)]⟩) 16 ⟨[],rfl,Nd,λb hb=>by simp at hb,?_⟩ ?_
 ·simp only [go_sem,MP,aL];rfl
 rintro n st ⟨seen,rfl,hn,hs,rfl⟩;have hsl:seen.length≤16:=by
  have h1:seen.length≤(List.range X.length).length:=vA hn λb hb=>rV.2 (hs b hb);simpa [hlen] using h1
 have hml:∀ e∈Gs X seen,e.1.toNat<65536:=λe he=>by
  obtain ⟨b,hb,rfl⟩:=dE.1 he;have hbl:=hs b hb;obtain ⟨k,h1,h2⟩:=hk X[b] (jY hbl);simp only [fG,fV hbl,KL,h1];omega
 have hacc:nT (Gs X seen)<65536:=Tc _ 0 (by decide) hml;simp only [go_sem];refine aDD rfl rfl (fW _) (fW _) (λhall=>?_) λb hb hns=>?_
 ·have:=Lg (aCd hn hs hall);simp only [go_sem,this]
 ·obtain ⟨k,h1,h2⟩:=hk X[b] (jY hb);have h3:(X.map λe=>[Value.int .i64 e.1])[b]?=some [.int .i64 (k:Int)]:=by simp [hb,h1]
  have h4:(X.map λe=>AV.v (.bool e.2))[b]?=some (.v (.bool X[b].2)):=by simp [hb]
  have hkv:iH false [Value.int .i64 (k:Int)]=.int .i64 (k:Int):=cH rfl rfl;have hor:=Zx (nT (Gs X seen)) k hacc h2;have hnext:nT (Gs X (seen++[b]))=Vp (nT (Gs X seen)) X[b]:=by
   simp only [nT,Gs,gQ,cN,eQ,VB,HO,Ez,fG,fV hb,KL]
  have hfin:∀ v:Nat,Vp (nT (Gs X seen)) X[b]=v→∃ m,m<16-seen.length∧∃ seen':List Nat,m=16-seen'.length∧seen'.Nodup∧(∀ b∈seen',b<X.length)∧(⟨0,[(3,.v (.int .i64 (v:Int))),(64,.ptr 0 0)],[some (.mit (some 1) X.length (seen++[b]) X.length),some (MP X)]⟩:St)=⟨0,[(3,.v (.int .i64 ((nT (Gs X seen'):Nat):Int))),(64,.ptr 0 0)],[some (.mit (some 1) X.length seen' X.length),some (MP X)]⟩:=λv hv=>by
   have hn2:(seen++[b]).Nodup:=HN.2 ⟨hn,by simp,λx hx y hy e=>hns (by rw [gZ] at hy;rw [←hy,←e];exact hx)⟩;have hl2:(seen++[b]).length≤(List.range X.length).length:=vA hn2 λx hx=>rV.2 ((eO.1 hx).elim (hs x) λh=>by rw [gZ.1 h];exact hb);simp [hlen] at hl2;refine ⟨16-(seen++[b]).length,by simp;omega,seen++[b],rfl,hn2,λx hx=>(eO.1 hx).elim (hs x) λh=>by rw [gZ.1 h];exact hb,by rw [hnext,hv]⟩
  unfold Vp at hfin;rw [h1] at hfin;simp only [KK] at hfin;generalize X[b].2=t at h4 hfin
  cases t with
  | true =>
   simp only [go_sem,MP,U1,AR hb,h3,h4,↓hkv,↓hor,if_true,h1];exact hfin _ (if_pos rfl)
  | false =>
   simp only [go_sem,MP,U1,AR hb,h3,h4,↓hkv,h1];exact hfin _ (if_neg (by decide))
end
end
section
def Jz (n:NodeM):Bool:=decide ((n.Boxes.length:Int)≤12)
def J0 (x:SealM):Bool:=decide ((x.Body.length:Int)≤208)
section
variable {G:Nat→Option (List AV)}
set_option maxHeartbeats 4000000
def aA3 (n:NodeM):aC PQ G zH [.ag n.A] [] λr T=>r=.v (.bool (Jz n))∧T=[]:=by
 refine aF La (by decide) ?_;simp only [go_sem,NodeM.A,aL,Jz]
def aA4 (x:SealM):aC PQ G zJ [.ag x.A] [] λr T=>r=.v (.bool (J0 x))∧T=[]:=by
 refine aF Lb (by decide) ?_;simp only [go_sem,SealM.A,aL,J0]
def Xf (o:OpM) (ho:o.ok):aC PQ G Hq [.ag o.A] [] λr T=>r=.v (.bool (FC o))∧T=[]:=by
 refine aF PF (by decide) ?_;have l1:=ho.path.1;have l2:=ho.hist.1;have e1:(o.Path.all λn=>decide ((n.Boxes.length:Int)≤12))=o.Path.all Jz:=rfl;have e2:(o.Hist.all λn=>decide ((n.Body.length:Int)≤208))=o.Hist.all J0:=rfl;simp only [go_sem]
 repeat' (first
  | ((with_reducible refine aM (λh=>?_) (λh=>?_))<;>(try simp only [rU,nH,nW] at h)<;>simp only [go_sem,aL,gt_iff_lt,h,undef])
  | (with_reducible refine dB (f:=bI) ?_;refine aB (aA _) rfl (qO _ _ _) rfl ?_;simp only [go_sem,aL,gt_iff_lt,undef])
  | (with_reducible refine dB (f:=iU) ?_;refine aB (aA _) rfl (Ll zH Jz o.Path (by omega) λx _=>aA3 x) rfl ?_;simp only [go_sem,aL,gt_iff_lt,undef])
  | (with_reducible refine dB (f:=gN) ?_;refine aB (aA _) rfl (Lm zJ J0 o.Hist (by omega) λx _=>aA4 x) rfl ?_;simp only [go_sem,aL,gt_iff_lt,undef]))
 all_goals simp only [FC,e1,e2,gt_iff_lt, *,nH,nW,KV,E5,KU,Ci,if_true,if_false,jZ]
def Tx (n:NodeM) (hn:n.ok):aC PQ G uK [.ag n.A] [] λr T=>r=.v (.bool (DM n))∧T=[]:=by
 refine aF Ht (by decide) ?_;have l1:=hn.2.1;simp only [go_sem,NodeM.A,DM];refine aB (aA _) rfl (zK n.Pub) rfl ?_;cases h1:Fd n.Pub
 ·simp only [go_sem,nG]
 simp only [go_sem];refine aB (aA _) rfl (Nz tY sD n.Boxes (by omega) λx _=>Le x) rfl ?_;simp only [go_sem,jG]
def Ty (x:SealM):aC PQ G uL [.ag x.A] [] λr T=>r=.v (.bool (DN x))∧T=[]:=by
 refine aF Hu (by decide) ?_;simp only [go_sem,SealM.A,DN];refine aB (aA _) rfl (B1 x.Of) rfl ?_;simp only [go_sem]
def Tz (n:Int):aC PQ G uM [iv n] [] λr T=>r=.v (.bool (xR n))∧T=[]:=by
 refine aF Hv (by decide) ?_;simp only [go_sem,xR];refine aB (aA _) rfl (qO n 1 12) rfl ?_;simp only [go_sem]
end
end
end Hud
