import Derived.Test.YtlhonkjgkfdnmaaGreatDoorLib27
set_option linter.all false
set_option maxHeartbeats 40000000
namespace Hud
open Go
def B3(g:GM)(ids:D_)(i:Nat):Bool:=ids.any λx=>decide (0<=aW g.I x)&&(g.In.getD (aW g.I x).toNat []).getD i false
def Le(I:D_)(p:Nat->Bool)(n:Nat):D_:=((List.range n).filter p).map λi=>I.getD i default
def rV(g:GM)(ids:D_):D_:=jI (Le g.I (B3 g ids) g.L.length)
def uD(I a out:D_)(x:Id):D_:=if(decide (0<=aW I x)&&(!decide (x∈a)&&!decide (x∈out))) then out++[x] else out
def yV(g:GM)(ids:D_):D_:=jI (ids.foldl (uD g.I (rV g ids)) [])
def vL(I out:D_)(x:Id):D_:=if(decide (0<=aW I x)&&!decide (x∈out)) then out++[x] else out
def Fd(g:GM)(ids:D_):D_:=jI (ids.foldl (vL g.I) (rV g ids))
def vM(d:Int)(n:Int)(x:Id):Int:=if x.a=d then(if n<x.b then x.b else n) else n
def Sx(ids:D_)(d:Int):Int:=ids.foldl (vM d) 0+1
def vN(g:GM)(t:Int)(x:Id):Int:=if 0<=aW g.I x then(if t<(g.L.getD (aW g.I x).toNat default).At then(g.L.getD (aW g.I x).toNat default).At else t) else t
def Fe(g:GM)(ids:D_):Int:=ids.foldl (vN g) 0
def aDS(I:D_)(p:Nat->Bool)(n:Nat):Le I p (n+1)=Le I p n++(if p n then [I.getD n default] else []):=by grind[Le,List.range_succ]
def JF(I:D_)(p:Nat->Bool)(n:Nat):(Le I p n).length<=n:=by grind[Le,List.length_map]
section
variable{G:L_}
def U7 (g:GM) (a:D_) (d:g.ok) (M:a.length<=100000):aA PQ G An [.ag g.A,ids a] [] λr T=>r=.own 0/\T=[some (.arr 3 ((rV g a).map Id.A))]:=by
 apply aC Pb;have K:=d.n;simp only[go_sem];refine aQ g.L.length (λi=>⟨0,[(1,ids a),(2,.ptr 0 0),(5,.own 1),(6,iv i)],[some (.box g.A),some (.arr 3 ((Le g.I (B3 g a) i).map Id.A))]⟩) (λ_=>True) ?_ trivial ?_ ?_;rfl;intro i h _;have q:=fQ i o_;have F:(g.I.map Id.A)[i]?=some (g.I.getD i default).A:=by rw[gE,rH,jN (by rw[d.i];exact h)];rfl
 have D:=d.i;have m:=JF g.I (B3 g a) i;rw[aDS];generalize Le g.I (B3 g a) i=X at *
 generalize g.I.getD i default=J at *
 simp only[go_sem,aP,aT h];refine aQ a.length (λk=>⟨0,[(1,ids a),(2,.ptr 0 0),(5,.own 1),(6,iv i),(7,.v (.bool ((a.take k).any λx=>decide (0<=aW g.I x)&&(g.In.getD (aW g.I x).toNat []).getD i false))),(8,iv k)],[some (.box g.A),some (.arr 3 (X.map Id.A))]⟩) (λ_=>True) ?_ trivial ?_ ?_;simp only[go_sem,uQ,List.any_nil];intro k p _;have H:(a.map Id.A)[k]?=some a[k].A:=aO _ a k p;have j:=fQ k o_;rw[ZE _ a k p];generalize((a.take k).any λx=>decide (0<=aW g.I x)&&(g.In.getD (aW g.I x).toNat []).getD i false)=is;generalize a[k]=x at *
 simp only[go_sem,aP,aT p,H];apply cX (Dt g x d);have y:=AZ g.I x;cases is;simp only[go_sem,ge_iff_le];cases s:decide (0<=aW g.I x);simp only[go_sem,undef,j,lR,EB];have o:0<=aW g.I x:=of_decide_eq_true s;have B:=d.inn;have w:(aW g.I x).toNat<g.L.length:=o_;have f:(g.In.map λl=>[wI l])[(aW g.I x).toNat]?=some [wI (g.In.getD (aW g.I x).toNat [])]:=h_;have u:(g.In.getD (aW g.I x).toNat []).length=g.L.length:=by rw[rH,jN o_];exact d.ins _ (eQ _)
 have E:((g.In.getD (aW g.I x).toNat []).map λb=>[AV.v (.bool b)])[i]?=some [AV.v (.bool ((g.In.getD (aW g.I x).toNat []).getD i false))]:=h_;have z:(if 0>aW g.I x then(0:Int) else aW g.I x)=aW g.I x:=if_neg o_;simp only[go_sem,z,o,f,E,j,mF,EH];simp only[go_sem,undef,j,EI];intro _;rw[dE];have C:(a.any λx=>decide (0<=aW g.I x)&&(g.In.getD (aW g.I x).toNat []).getD i false)=B3 g a i:=rfl;rw[C];cases s:B3 g a i;simp only[go_sem,aP,aS (bP _),q];simp only[go_sem,aP,aS (bP _),q,F,bZ,(g_:X.length+1<=maxLen),(o_:(X.length+1)*24<=140737488355328)];intro _;have m:=JF g.I (B3 g a) g.L.length;simp only[go_sem,aP,aS (bP _)];apply cH (aB _) rfl rfl (AD _ o_);rintro r N ⟨rfl,rfl⟩;refine⟨x_,by simp only[cA,xH,forall_eq,dF];rintro e ⟨b,_,rfl⟩ c t;simp only[Id.A,cS,pP,or_false]at t;rcases t with rfl|rfl|rfl<;>exact⟨_,rfl⟩,?_⟩;simp only[go_sem];rfl
def aB0(g:GM)(a:D_)(c:g.ok)(b:a.length<=100000):aA PQ G An [.ag g.A,ids a] [] λr T=>r=ids (rV g a)/\T=[]:=by refine(U7 g a c b).fin [0] ?_;rintro r d ⟨rfl,rfl⟩;simp only[go_sem,gQ]
def MR(l:D_):∀e∈l.map Id.A,∀c∈e,∃x,c=AV.v x:=by grind[Id.A]
def Oi(g:GM)(a:D_)(b:g.ok):(rV g a).length<=1000:=by unfold rV;rw[Qn];have:=JF g.I (B3 g a) g.L.length;have:=b.n;omega
def KE(I a:D_):∀(l:D_)(out:D_),(l.foldl (uD I a) out).length<=out.length+l.length|[],out=>by simp|x::l,out=>by rw[CW];have:=KE I a l (uD I a out x);grind[uD,List.length_cons]
def GN(I:D_):∀(l:D_)(out:D_),(l.foldl (vL I) out).length<=out.length+l.length|[],out=>by simp|x::l,out=>by rw[CW];have:=GN I l (vL I out x);grind[vL,List.length_cons]
def GO{α a:Type}(f:a->α->a)(b:a)(l:List α)(i:Nat)(h:i<l.length):(l.take (i+1)).foldl f b=f ((l.take i).foldl f b) l[i]:=by rw[lB h,Hy];rfl
def aFT(g:GM)(a:D_)(h:g.ok)(l:a.length<=100000):aA PQ G aH3 [.ag g.A,ids a] [] λr T=>r=.own 0/\T=[some (.arr 3 ((yV g a).map Id.A))]:=by
 apply aC Nb;have m:=Oi g a h;simp only[go_sem];apply cX (aB0 g a h l);unfold yV;generalize rV g a=c at *
 simp only[go_sem];refine aQ a.length (λi=>⟨0,[(1,ids a),(2,.ptr 0 0),(5,ids c),(6,.own 1),(7,iv i)],[some (.box g.A),some (.arr 3 (((a.take i).foldl (uD g.I c) []).map Id.A))]⟩) (λ_=>True) ?_ trivial ?_ ?_;simp only[go_sem,uQ,Kk]
 ·intro i d _;have e:=fQ i o_;have f:(a.map Id.A)[i]?=some a[i].A:=aO _ a i d;have b:=KE g.I c (a.take i) [];rw[eC]at b;simp only[gQ]at b;rw[GO _ _ a i d];generalize(a.take i).foldl (uD g.I c) []=out at *
  generalize a[i]=x at *
  have k:out.length+1<=maxLen:=g_;have j:(out.length+1)*24<=140737488355328:=o_;simp only[go_sem,aP,aT d,f];apply cX (Dt g x h);simp only[go_sem,ge_iff_le];cases h1:decide (0<=aW g.I x);simp only[go_sem,undef,e,uD,h1,lR,jJ];simp only[go_sem,f];apply cX (uJ c x g_);cases h2:decide (x∈c);rotate_left;simp only[go_sem,undef,e,uD,h1,h2,lI,lR,Ea,jJ];simp only[go_sem,f];apply cH (aB _) rfl rfl (uJ out x o_);rintro r n ⟨rfl,rfl⟩;refine⟨x_,s_,?_⟩;cases h3:decide (x∈out);simp only[go_sem,aP,f,k,j,e,uD,h1,h2,h3,sF,mF,bZ];simp only[go_sem,e,uD,h1,h2,h3,lI,sF,Ea,jJ]
 intro _;rw[dE];have b:=KE g.I c a [];simp only[gQ]at b;generalize a.foldl (uD g.I c) []=out at *
 simp only[go_sem,aP,aS (bP _)];apply cH (aB _) rfl rfl (AD out o_);rintro r n ⟨rfl,rfl⟩;refine⟨x_,by simp only[cA,xH,forall_eq];exact MR _,?_⟩;simp only[go_sem]
def XG(g:GM)(a:D_)(f:g.ok)(l:a.length<=100000):aA PQ G qR [.ag g.A,ids a] [] λr T=>r=.own 0/\T=[some (.arr 3 ((Fd g a).map Id.A))]:=by
 apply aC PX;have m:=Oi g a f;simp only[go_sem];apply kM (U7 g a f l);unfold Fd;generalize rV g a=d at *
 simp only[go_sem];refine aQ a.length (λi=>⟨0,[(1,ids a),(2,.ptr 0 0),(5,.own 1),(6,iv i)],[some (.box g.A),some (.arr 3 (((a.take i).foldl (vL g.I) d).map Id.A))]⟩) (λ_=>True) ?_ trivial ?_ ?_;rfl;intro i b _;have e:=fQ i o_;have h:(a.map Id.A)[i]?=some a[i].A:=aO _ a i b;have c:=GN g.I (a.take i) d;rw[eC]at c;rw[GO _ _ a i b];generalize(a.take i).foldl (vL g.I) d=out at *
 generalize a[i]=x at *
 have k:out.length+1<=maxLen:=g_;have j:(out.length+1)*24<=140737488355328:=o_;simp only[go_sem,aP,aT b,h];apply cX (Dt g x f);simp only[go_sem,ge_iff_le];cases h1:decide (0<=aW g.I x);simp only[go_sem,undef,e,vL,h1,lR,jJ];simp only[go_sem,h];apply cH (aB _) rfl rfl (uJ out x o_);rintro r n ⟨rfl,rfl⟩;refine⟨x_,s_,?_⟩;cases h3:decide (x∈out);simp only[go_sem,aP,h,k,j,e,vL,h1,h3,sF,mF,bZ];simp only[go_sem,e,vL,h1,h3,lI,Ea,jJ];intro _;rw[dE];have c:=GN g.I a d;generalize a.foldl (vL g.I) d=out at *
 simp only[go_sem,aP,aS (bP _)];apply cH (aB _) rfl rfl (AD out o_);rintro r n ⟨rfl,rfl⟩;refine⟨x_,by simp only[cA,xH,forall_eq];exact MR _,?_⟩;simp only[go_sem]
def U9(g:GM)(a:D_)(c:g.ok)(b:a.length<=100000):aA PQ G aH3 [.ag g.A,ids a] [] λr T=>r=ids (yV g a)/\T=[]:=by refine(aFT g a c b).fin [0] ?_;rintro r d ⟨rfl,rfl⟩;simp only[go_sem,gQ]
def ZL(g:GM)(a:D_)(c:g.ok)(b:a.length<=100000):aA PQ G qR [.ag g.A,ids a] [] λr T=>r=ids (Fd g a)/\T=[]:=by refine(XG g a c b).fin [0] ?_;rintro r d ⟨rfl,rfl⟩;simp only[go_sem,gQ]
def JG(g:GM)(a:g.ok):aA PQ G AU [.ag g.A] [] λr T=>r=ids (jI g.I)/\T=[]:=by refine aA.fin (p:=λr T=>r=.own 0/\T=[some (.arr 3 ((jI g.I).map Id.A))]) (aC SB ?_) [0] ?_;have b:=a.n;have c:=a.i;simp only[go_sem];apply kM (AD g.I o_);simp only[go_sem];rintro r d ⟨rfl,rfl⟩;simp only[go_sem,gQ]
def XH(d:Int):∀(l:D_)(n:Int),n<=l.foldl (vM d) n|[],n=>Int.le_refl _|x::l,n=>Int.le_trans (by unfold vM;split<;>(try split)<;>omega) (XH d l (vM d n x))
def XI(d B:Int):∀(l:D_)(n:Int),n<=B->(∀x∈l,x.b<=B)->l.foldl (vM d) n<=B|[],n,h,_=>h|x::l,n,h,a=>XI d B l _ (by have:=a x EV;unfold vM;split<;>(try split)<;>omega) λy c=>a y (GU _ c)
def aH7(g:GM)(e:D_)(d:Int)(m:e.length<=100000)(l:∀x∈e,x.b<=9223372036854775806):aA PQ G F8 [.ag g.A,ids e,iv d] [] λr T=>r=iv (Sx e d)/\T=[]:=by
 apply aC SC;simp only[go_sem];refine aQ e.length (λi=>⟨0,[(1,ids e),(2,iv d),(7,iv ((e.take i).foldl (vM d) 0)),(8,iv i)],[]⟩) (λ_=>True) ?_ trivial ?_ ?_;rfl;intro i f _;have j:=fQ i o_;have k:(e.map Id.A)[i]?=some [.v (.int .i64 e[i].a),.v (.int .i64 e[i].b),.v (.int .u64 e[i].c)]:=aO _ e i f;rw[GO _ _ e i f];generalize(e.take i).foldl (vM d) 0=n at *
 generalize e[i]=x at *
 simp only[go_sem,aP,aT f,k];refine aL (λh=>?_) (λh=>?_)<;>simp only[beq_iff_eq,beq_eq_false_iff_ne,ne_eq]at h;simp only[go_sem,k,j,vM,h,gt_iff_lt];simp only[go_sem,j,vM,h];intro _;rw[dE];have h1:=XH d e 0;have h2:=XI d 9223372036854775806 e 0 o_ l;have w1:IntKind.i64.wrap (e.foldl (vM d) 0+1)=Sx e d:=aJ o_ o_;simp only[go_sem,aP,aS (bP _),w1]
def aDT(g:GM)(a:D_)(c:g.ok)(l:a.length<=100000):aA PQ G DP [.ag g.A,ids a] [] λr T=>r=iv (Fe g a)/\T=[]:=by
 apply aC PY;have k:=c.n;simp only[go_sem];refine aQ a.length (λi=>⟨0,[(1,ids a),(2,.ptr 0 0),(5,iv ((a.take i).foldl (vN g) 0)),(6,iv i)],[some (.box g.A)]⟩) (λ_=>True) ?_ trivial ?_ ?_;rfl;intro i b _;have d:=fQ i o_;have j:(a.map Id.A)[i]?=some a[i].A:=aO _ a i b;rw[GO _ _ a i b];generalize(a.take i).foldl (vN g) 0=n at *
 generalize a[i]=x at *
 simp only[go_sem,aP,aT b,j];apply cX (Dt g x c);have f:=AZ g.I x;simp only[go_sem,ge_iff_le];refine aL (λh=>?_) (λh=>?_)<;>simp only[decide_eq_true_eq,decide_eq_false_iff_not]at h;have e:(aW g.I x).toNat<g.L.length:=by have:=c.i;omega
 have cE:(g.L.map OpM.A)[(aW g.I x).toNat]?=some (g.L.getD (aW g.I x).toNat default).A:=h_;simp only[go_sem,h,cE,d,vN,gt_iff_lt];simp only[go_sem,d,vN,h];intro _;rw[dE];simp only[go_sem,aP,aS (bP _),Fe]
end
end Hud
