import Derived.Test.YtdichbeaekjibaaGreatDoorLib14
set_option linter.all false
set_option maxHeartbeats 40000000
namespace Hud
open Go
variable{G:L_}
def CP (o:OpM):aK:=[some (.box [iv o.By,iv o.Seq,iv o.Kind,iv o.At,ids o.Past,iv o.Device,iv o.Old,iv o.Member,iv o.Role,.own 2,
 iv o.Epoch.a,iv o.Epoch.b,.v (.int .u64 o.Epoch.c),iv o.N,.ls 1 (bl o.Body),.ls 1 (ul o.Refs),iv o.Of.a,iv o.Of.b,.v (.int .u64 o.Of.c),rG o.Guards,
 iv o.Need,iv o.Wait,F5 o.Boxes,uv o.Pub,.own 3,uv o.SR,uv o.SS]),some (.box [AV.v (Value.int IntKind.i64 0),AV.v (Value.int IntKind.i64 0),AV.v (Value.int IntKind.i64 0),
        AV.v (Value.int IntKind.i64 0),AV.v (Value.slice none 0 0),AV.v (Value.int IntKind.i64 0),
        AV.v (Value.int IntKind.i64 0),AV.v (Value.int IntKind.i64 0),AV.v (Value.int IntKind.i64 0),
        AV.v (Value.slice none 0 0),AV.v (Value.int IntKind.i64 0),AV.v (Value.int IntKind.i64 0),
        AV.v (Value.int IntKind.u64 0),AV.v (Value.int IntKind.i64 0),AV.v (Value.slice none 0 0),
        AV.v (Value.slice none 0 0),AV.v (Value.int IntKind.i64 0),AV.v (Value.int IntKind.i64 0),
        AV.v (Value.int IntKind.u64 0),AV.v (Value.slice none 0 0),AV.v (Value.int IntKind.i64 0),
        AV.v (Value.int IntKind.i64 0),AV.v (Value.slice none 0 0),AV.v (Value.int IntKind.u64 0),
        AV.v (Value.slice none 0 0),AV.v (Value.int IntKind.u64 0),AV.v (Value.int IntKind.u64 0)]),some (.arr 2 (o.Path.map NodeM.A)),some (.arr 4 (o.Hist.map SealM.A))]
def BE{α a:Type}(f:α->a)(l:List α)(i:Nat)(h:i<l.length):(l.map f).set i (f l[i])=l.map f:=by rw[<-Ba,List.set_getElem_self]
def aDv(o:OpM)(e:o.ok):aA PQ G pO [.ag o.A] [] λr T=>r=.ag [iv o.By,iv o.Seq,iv o.Kind,iv o.At,ids o.Past,iv o.Device,iv o.Old,iv o.Member,iv o.Role,.own 0,
 iv o.Epoch.a,iv o.Epoch.b,.v (.int .u64 o.Epoch.c),iv o.N,.ls 1 (bl o.Body),.ls 1 (ul o.Refs),iv o.Of.a,iv o.Of.b,.v (.int .u64 o.Of.c),rG o.Guards,
 iv o.Need,iv o.Wait,F5 o.Boxes,uv o.Pub,.own 1,uv o.SR,uv o.SS]/\T=[some (.arr 2 (o.Path.map NodeM.A)),some (.arr 4 (o.Hist.map SealM.A))]:=by
 apply aC Jw;have t:=e.past.1;have s:=e.path.1;have q:=e.refs.1;have p:=e.guards.1;have m:=e.boxes.1;have l:=e.hist.1;have k:=e.body.1;simp only[go_sem,OpM.A_def];apply cX (aDu o.Past o_);simp only[go_sem];apply cX (BC (bl o.Body) I_);simp only[go_sem];apply cX (Dz (ul o.Refs) I_);simp only[go_sem];apply cX (Ct (o.Guards.map λn=>[iv n]) I_);simp only[go_sem];apply cX (tJ (o.Boxes.map BoxM.A) I_);simp only[go_sem];apply kM (BD (o.Path.map NodeM.A) I_);simp only[go_sem];apply kM (wJ (o.Hist.map SealM.A) I_);simp only[go_sem,aP];refine aQ o.Path.length (λi=>⟨0,[(1,.ptr 0 0),(2,.ptr 1 0),(35,iv o.Path.length),(36,iv i)],CP o⟩) (λ_=>True) ?_ trivial ?_ ?_;simp only[go_sem,CP];intro i d _;have g:=fQ i o_;have f:(o.Path.map NodeM.A)[i]?=some [uv o.Path[i].Pub,F5 o.Path[i].Boxes]:=aO _ o.Path i d;have h:(o.Path.map NodeM.A).set i [uv o.Path[i].Pub,F5 o.Path[i].Boxes]=o.Path.map NodeM.A:=BE NodeM.A o.Path i d;have j:=(e.path.2 _ (eQ d)).2.1;generalize o.Path[i]=x at *
 simp only[go_sem,CP,aP,aT d,d,f];apply cX (tJ (x.Boxes.map BoxM.A) I_);simp only[go_sem,CP,aP,d,f,h,g];intro _;simp only[go_sem,CP,aP,aS (bP _)];refine aQ o.Hist.length (λi=>⟨0,[(1,.ptr 0 0),(2,.ptr 1 0),(54,iv o.Hist.length),(55,iv i)],CP o⟩) (λ_=>True) ?_ trivial ?_ ?_;simp only[go_sem,CP];intro i d _;have g:=fQ i o_;have f:(o.Hist.map SealM.A)[i]?=some [.v (.int .i64 o.Hist[i].Of.a),.v (.int .i64 o.Hist[i].Of.b),.v (.int .u64 o.Hist[i].Of.c),.ls 1 (bl o.Hist[i].Body)]:=aO _ o.Hist i d;have h:(o.Hist.map SealM.A).set i [.v (.int .i64 o.Hist[i].Of.a),.v (.int .i64 o.Hist[i].Of.b),.v (.int .u64 o.Hist[i].Of.c),.ls 1 (bl o.Hist[i].Body)]=o.Hist.map SealM.A:=BE SealM.A o.Hist i d;have j:=(e.hist.2 _ (eQ d)).2.1;generalize o.Hist[i]=x at *
 simp only[go_sem,CP,aP,aT d,d,f];apply cX (BC (bl x.Body) I_);simp only[go_sem,CP,aP,d,f,h,g];intro _;simp only[go_sem,CP,aS (bP _)]
def ZH(o:OpM)(a:o.ok):aA PQ G pO [.ag o.A] [] λr T=>r=.ag o.A/\T=[]:=by refine(aDv o a).fin [0,1] ?_;rintro r b ⟨rfl,rfl⟩;simp only[go_sem,gQ,OpM.A_def]
structure ND where
 o:OpM
 id:Id
 W:List Nat
 lv:Int
def ND.A(n:ND):O_:=n.o.A++(n.id.A++(oC n.W++[iv n.lv]))
structure PGM where
 cards:List CardM
 nodes:List ND
def PGM.I(g:PGM):D_:=g.nodes.map (·.id)
def MG(I:D_):AObj:=.map true (I.map Id.K) ((List.range I.length).map λi:Nat=>iv (i:Int)) (List.range I.length) I.length
def TG(k:Nat)(g:PGM):aK:=[some (.box [.ls 5 (g.cards.map CardM.A),.mp (k+1),.own (k+2)]),some (MG g.I),some (.arr 35 (g.nodes.map ND.A))]
def AL(x:Id):LF true [.int .i64,.int .i64,.int .u64] (.ag x.A)=some x.K:=Y_
@[go_sem] def aJ4(x:Id):G6 x.A=some x.K:=Y_
@[go_sem] def aNx(x:Id):rJ [.int .i64,.int .i64,.int .u64] x.K x.K=some true:=by simp[Id.K,rJ]
def qH(x:Id):∀(I:D_)(i:Nat),eR [.int .i64,.int .i64,.int .u64] x.K (I.map Id.K) i=some ((I.findIdx? λy=>decide (y=x)).map (· + i))
 |[],_=>rfl
 | y::I,i=>by
  simp only[fG,eR,Id.K,rJ,and_self,if_true,yH,List.findIdx?_cons];have:=qH x I (i+1);simp only[Id.K]at this;have e:(x.a==y.a&&(x.b==y.b&&x.c==y.c))=decide (y=x):=by rw[Id.beq];rw[CT];simp[eq_comm]
  by_cases h:y=x;subst h;simp;have h2:decide (y=x)=false:=decide_eq_false h;rw[h2]at e⊢;simp only[e,this,jJ,if_false]
  cases I.findIdx? (λy=>decide (y=x)) with
  |none=>rfl
  |some j=>simp;omega
def yC(n j:Nat)(h:j<n):((List.range n).map λi:Nat=>iv (i:Int))[j]?=some (iv (j:Int)):=by simp[h]
def eG{I:D_}{x:Id}(h:x∉I):I.findIdx? (λy=>decide (y=x))=none:=m_
def dG{I:D_}{x:Id}(h:x∈I):∃j,I.findIdx? (λy=>decide (y=x))=some j/\j<I.length/\∃a:j<I.length,I[j]=x:=by
 cases e:I.findIdx? (λy=>decide (y=x)) with
 |none=>exact absurd (Md.1 e x h) s_|some j=>
  obtain⟨h1,h2,_⟩:=Ad.1 e;simp_all
def ZI(g:PGM)(d:Int)(m:g.cards.length<=1000):aA PQ G oQ [.ptr 0 0,iv d] (TG 0 g) λr T=>r=.tup [.ag (gM g.cards d).1.A,.v (.bool (gM g.cards d).2)]/\T=TG 0 g:=by
 apply aC EO;simp only[go_sem,TG,MG,aP];refine aQ g.cards.length (λi=>⟨3,[(1,iv d),(4,.ptr 3 0),(11,.ls 5 (g.cards.map CardM.A)),(12,iv g.cards.length),(13,iv i)],[some (.box [.ls 5 (g.cards.map CardM.A),.mp 1,.own 2]),some (MG g.I),some (.arr 35 (g.nodes.map ND.A)),some (.box [iv 0,iv 0,AV.v (.int .u64 0),AV.v (.int .u64 0),AV.v (.int .u64 0)])]⟩) (λi=>∀j(a:j<g.cards.length),j<i->(g.cards[j].Device==d)=false) ?_ U_ ?_ ?_;simp only[go_sem,MG];intro i b f;have l:(g.cards.map CardM.A)[i]?=some [iv g.cards[i].Device,iv g.cards[i].Member,uv g.cards[i].Lead,uv g.cards[i].Keep,uv g.cards[i].Sign]:=aO _ g.cards i b;simp only[go_sem,MG,aT b,l];refine aL (λh=>?_) (λh=>?_)<;>simp only[go_sem,MG,fQ i o_];have e:g.cards.find? (λc=>c.Device==d)=some g.cards[i]:=aBG.2 ⟨h,i,b,rfl,λj a=>by simp[f j o_ a]⟩;simp only[gM,e,CardM.A_def];grind;intro f;have e:g.cards.find? (λc=>c.Device==d)=none:=Eb.2 λx k=>by obtain⟨j,a,rfl⟩:=CU k;simp[f j a a]
 simp only[go_sem,MG,aS (bP _),gM,e,CardM.A_def];rfl
def Q5(g:PGM)(x:Id):aA PQ G dX [.ag x.A,.ptr 0 0] (some (.box [.ptr 1 0])::TG 1 g) λr T=>r=.v (.bool (decide (x∈g.I)))/\T=some (.box [.ptr 1 0])::TG 1 g:=by refine aC CL ?_;have d:=AL x;have a:=qH x g.I 0;by_cases b:x∈g.I;obtain⟨j,h1,h2,_⟩:=dG b;rw[h1]at a;have c:=yC g.I.length j h2;simp only[iX,mG]at a;simp only[go_sem,TG,MG,a,c,decide_eq_true b];rw[eG b]at a;simp only[xD]at a;simp only[go_sem,TG,MG,a,decide_eq_false b]
abbrev kl(d:Nat->Id)(l:List Nat):List (List AV):=l.map λn=>(d n).A
def cv(f:Nat):AV:=.bm f 1 [.ag [.ptr 1 0]]
def aM(g:PGM)(d:Nat->Id)(l:V_):aK:=some (.arr 3 (kl d l))::TG 1 g
def XA(a b:Nat):Int:=if a<b then -1 else if b<a then 1 else 0
def pY(a b:Nat):decide (XA a b<0)=decide ((a:Int)<(b:Int)):=by unfold XA;simp_all;omega
def VL(N:Nat)(l:V_):Prop:=∀x∈l,x<N
def VL.pr{N a b:Nat}{l c:V_}(f:PR a b l c)(e:VL N l):VL N c:=λx d=>e x (f.2.2.mem_iff.1 d)
def VL.get{N:Nat}{l:V_}(a:VL N l){i:Nat}(h:i<l.length):l.getD i 0<N:=by rw[rH,jN h];exact a _ (eQ h)
def bL(d:Nat->Id)(l:V_)(i:Nat)(h:i<l.length):(l.map λn=>(d n).A)[i]?=some (d (l.getD i 0)).A:=u_
def kT(d:Nat->Id)(l:V_)(i j:Nat):((l.map λn=>(d n).A).set i (d (l.getD j 0)).A).set j (d (l.getD i 0)).A=(iO l i j).map λn=>(d n).A:=by simp only[iO,Ba]
def vK(d:Nat->Id)(l:V_)(i j:Nat)(x:Id)(a:j<l.length):∃y:Id,((l.map λn=>(d n).A).set i x.A)[j]?=some y.A:=by rw[Hx];split;exact⟨x,by rw[if_pos I_]⟩;exact⟨_,bL d l j a⟩
@[go_sem] def Id.dr3(x:Id):x.A.drop 3=[]:=fI rfl rfl
def Id.okA0(b:Bool)(x:Id):x.A.all (PO b)=true:=by cases b<;>simp[Id.A,gS,PO,aX]
@[go_sem] def Id.okA(b:Bool)(x:Id):x.A.all (PO b)=true:=Id.okA0 b x
abbrev Gz(g:PGM)(d:Nat->Id)(K:AV->List Nat->Prop):AV->aK->Prop:=λr b=>∃a,K r a/\b=aM g d a
section
variable{g:PGM}{d:Nat->Id}{f N:Nat}
def rF(G:L_)(g:PGM)(d:Nat->Id)(f N:Nat):Prop:=∀a b,a<N->b<N->aA PQ G f [.ag [.ptr 0 0],.ag (d a).A,.ag (d b).A] (TG 0 g) λr T=>r=iv (XA a b)/\T=TG 0 g
def jU(i:rF G g d f N){a b:Nat}(h:a<N)(e:b<N){es:N_}{K:AV->aK->Prop}(c:K (iv (XA a b)) (some (.arr 3 es)::TG 1 g)):
 @pB PQ G f [.ag [.ptr 1 0],.ag (d a).A,.ag (d b).A] (some (.arr 3 es)::TG 1 g) ⟨K⟩:=by
 apply aG [1,2,3] (aB _) d_ (by simp[TG]) f_ v_ (i a b h e);rintro r j ⟨rfl,rfl⟩;simp only[go_sem,TG,MG]at c⊢;exact c
def aAR(j:rF G g d f N){a b:Nat}(i:a<N)(h:b<N){es:N_}{c:Int}{K:AV->aK->Prop}(e:K (iv (XA a b)) (some (.arr 3 es)::(TG 1 g++[some (.box [iv c])]))):
 @pB PQ G f [.ag [.ptr 1 0],.ag (d a).A,.ag (d b).A] (some (.arr 3 es)::(TG 1 g++[some (.box [iv c])])) ⟨K⟩:=by
 apply aG [1,2,3] (aB _) d_ (by simp[TG]) f_ v_ (j a b i h);rintro r k ⟨rfl,rfl⟩;simp only[go_sem,TG,MG]at e⊢;exact e
end
section
variable{g:PGM}{d:Nat->Id}{f N:Nat}
def aKd (O:rF G g d f N) (l:V_) (A:VL N l) (a b:Nat) (M:a<=b) (S:b<=l.length) (R:l.length<=1000000000):
 aA PQ G eK [.own 0,iv a,iv b,cv f] (aM g d l) (Gz g d λ_ o=>PR a b l o/\SR a b o):=by
 apply aC oU;have F:IntKind.i64.wrap ((a:Int)+1)=((a+1:Nat):Int):=pC o_;simp only[go_sem,aM,TG,MG,cv,F];refine cO (λn s=>∃(i:Nat)(o:V_),n=b-i/\a<i/\i<=max b (a+1)/\PR a b l o/\SR a i o/\s=⟨4,[(0,.own 0),(1,iv a),(2,iv b),(3,cv f),(8,iv i)],(aM g d o)⟩) (b-(a+1))
  ⟨a+1,l,rfl,o_,o_,PR.refl a b l,SR.small o_,j_⟩ ?_
 rintro n s ⟨i,z,Q,L,J,r,B,rfl⟩;have I:=r.1;by_cases C:i<b;simp only[go_sem,aM,TG,MG,cv,aT C];refine cO (λm s=>∃(l2:V_),a<=m/\m<=i/\PR a b l l2/\(∀p q,a<=p->p<q->q<=i->q≠m->l2.getD p 0<=l2.getD q 0)/\s=⟨4,[(0,.own 0),(1,iv a),(2,iv b),(3,cv f),(8,iv i),(9,iv m)],(aM g d l2)⟩) i
  ⟨z,o_,cN _,r,Ir B,j_⟩ ?_
 rintro j s ⟨l2,K,k,c,e,rfl⟩;have H:=c.1;have x:=fQ i o_;by_cases t:a<j;have w1:IntKind.i64.wrap ((j:Int)-1)=((j-1:Nat):Int):=k_;have E:=bL d l2 j o_;have D:=bL d l2 (j-1) o_;have w:decide ((j:Int)>(a:Int))=true:=J_;simp only[go_sem,aM,TG,MG,cv,w,aP,(o_:j<l2.length),(o_:j-1<l2.length),w1,E,D];apply jU O (VL.get (VL.pr c A) o_) (VL.get (VL.pr c A) o_);simp only[go_sem,TG,MG,pY];refine aL (λu=>?_) (λu=>?_);have h:l2.getD j 0<l2.getD (j-1) 0:=by simpa using u
 obtain⟨y,P⟩:=vK d l2 j (j-1) (d (l2.getD (j-1) 0)) o_;simp only[go_sem,aM,TG,MG,cv,aP,cL,(o_:j<l2.length),(o_:j-1<l2.length),w1,E,D,P,kT];exact⟨j-1,o_,iO l2 j (j-1),o_,o_,c.trans (gW o_ o_ o_ o_ o_),N8 o_ t k e h,rfl⟩;have h:l2.getD (j-1) 0<=l2.getD j 0:=by simpa using u
 simp only[go_sem,aM,TG,MG,cv,x];exact⟨b-(i+1),o_,i+1,l2,rfl,o_,o_,c,Ax k e (.inr h),rfl⟩;have w:decide ((j:Int)>(a:Int))=false:=J_;simp only[go_sem,aM,TG,MG,cv,w,x];exact⟨b-(i+1),o_,i+1,l2,rfl,o_,o_,c,Ax k e (.inl o_),rfl⟩;simp only[go_sem,aM,TG,MG,cv,aS C];exact⟨z,⟨r,λp q h1 h2 h3=>B p q h1 h2 o_⟩,rfl⟩
def aDw (x:rF G g d f N) (l:V_) (m:VL N l) (lo h o:Nat) (J:HP o (lo+1) h l) (C:lo<=1000000000) (P:o+h<=l.length) (O:l.length<=1000000000):
 aA PQ G dR [.own 0,iv lo,iv h,iv o,cv f] (aM g d l) (Gz g d λ_ u=>PR (o+lo) (o+h) l u/\HP o lo h u):=by
 apply aC rT;simp only[go_sem,aM,TG,MG,cv];refine cO (λn s=>∃(r:Nat)(u:V_),n=h-r/\lo<=r/\r<=1000000000/\PR (o+lo) (o+h) l u/\HQ o lo h r u/\s=⟨4,[(0,.own 0),(2,iv h),(3,iv o),(4,cv f),(10,iv r)],(aM g d u)⟩) (h-lo)
  ⟨lo,l,rfl,cN _,C,PR.refl _ _ l,aFm J,j_⟩ ?_
 rintro n s ⟨r,a,M,B,H,i,t,rfl⟩;have I:=i.1;have w1:IntKind.i64.wrap (2*(r:Int))=((2*r:Nat):Int):=k_;have w2:=pC (o_:2*r<2^63-1);simp only[go_sem,aM,TG,MG,cv,w1,w2];by_cases D:h<=2*r+1;simp only[go_sem,aGY D];exact⟨a,⟨i,ME t λc h1 h2=>o_⟩,rfl⟩;simp only[go_sem,aGZ (H8 D)];have w3:=pC (o_:2*r+1<2^63-1);have F:IntKind.i64.wrap ((o:Int)+((2*r+1:Nat):Int))=((o+(2*r+1):Nat):Int):=k_;have E:=pC (o_:o+(2*r+1)<2^63-1);have L:=bL d a (o+(2*r+1)) o_;by_cases h2:2*r+1+1<h;have K:=bL d a (o+(2*r+1)+1) o_;simp only[go_sem,aP,aT h2,w3,F,E,(o_:o+(2*r+1)<a.length),(o_:o+(2*r+1)+1<a.length),L,K];apply jU x (VL.get (VL.pr i m) o_) (VL.get (VL.pr i m) o_);simp only[go_sem,TG,MG,pY];refine aL (λA=>?_) (λA=>?_);have z:a.getD (o+(2*r+1)) 0<a.getD (o+(2*r+1)+1) 0:=by simpa using A
 have b:∀c,(c=2*r+1\/c=2*r+2)->c<h->a.getD (o+c) 0<=a.getD (o+(2*r+1+1)) 0:=m_;simp only[go_sem,w3];have q:=bL d a (o+r) o_;have p:=bL d a (o+(2*r+1+1)) o_;have k:IntKind.i64.wrap ((o:Int)+(r:Int))=((o+r:Nat):Int):=k_;have v2:IntKind.i64.wrap ((o:Int)+(((2*r+1+1):Nat):Int))=((o+(2*r+1+1):Nat):Int):=m_;simp only[go_sem,aP,k,v2,(o_:o+r<a.length),(o_:o+(2*r+1+1)<a.length),q,p];apply jU x (VL.get (VL.pr i m) o_) (VL.get (VL.pr i m) o_);simp only[go_sem,TG,MG,pY];refine aL (λj=>?_) (λj=>?_);have e:a.getD (o+(2*r+1+1)) 0<=a.getD (o+r) 0:=dc;simp only[go_sem];exact⟨a,⟨i,ME t λc h1 h2=>uR (b c h1 h2) e⟩,rfl⟩;have e:a.getD (o+r) 0<a.getD (o+(2*r+1+1)) 0:=dc;obtain⟨y,w⟩:=vK d a (o+r) (o+(2*r+1+1)) (d (a.getD (o+(2*r+1+1)) 0)) o_;simp only[go_sem,aM,TG,MG,cv,aP,cL,k,v2,(o_:o+r<a.length),(o_:o+(2*r+1+1)<a.length),q,p,w,kT];exact⟨h-((2*r+1+1)),o_,(2*r+1+1),_,rfl,o_,o_,i.trans (gW o_ o_ o_ o_ o_),ST t B o_ o_ o_ b e,rfl⟩;have z:a.getD (o+(2*r+1)+1) 0<=a.getD (o+(2*r+1)) 0:=by simpa using A
 have b:∀c,(c=2*r+1\/c=2*r+2)->c<h->a.getD (o+c) 0<=a.getD (o+(2*r+1)) 0:=b_;simp only[go_sem];have q:=bL d a (o+r) o_;have p:=bL d a (o+(2*r+1)) o_;have k:IntKind.i64.wrap ((o:Int)+(r:Int))=((o+r:Nat):Int):=k_;have v2:IntKind.i64.wrap ((o:Int)+(((2*r+1):Nat):Int))=((o+(2*r+1):Nat):Int):=o_;simp only[go_sem,aP,k,v2,(o_:o+r<a.length),(o_:o+(2*r+1)<a.length),q,p];apply jU x (VL.get (VL.pr i m) o_) (VL.get (VL.pr i m) o_);simp only[go_sem,TG,MG,pY];refine aL (λj=>?_) (λj=>?_);have e:a.getD (o+(2*r+1)) 0<=a.getD (o+r) 0:=dc;simp only[go_sem];exact⟨a,⟨i,ME t λc h1 h2=>uR (b c h1 h2) e⟩,rfl⟩;have e:a.getD (o+r) 0<a.getD (o+(2*r+1)) 0:=dc;obtain⟨y,w⟩:=vK d a (o+r) (o+(2*r+1)) (d (a.getD (o+(2*r+1)) 0)) o_;simp only[go_sem,aM,TG,MG,cv,aP,cL,k,v2,(o_:o+r<a.length),(o_:o+(2*r+1)<a.length),q,p,w,kT];exact⟨h-((2*r+1)),o_,(2*r+1),_,rfl,o_,o_,i.trans (gW o_ o_ o_ o_ o_),ST t B o_ o_ o_ b e,rfl⟩;have b:∀c,(c=2*r+1\/c=2*r+2)->c<h->a.getD (o+c) 0<=a.getD (o+(2*r+1)) 0:=b_;simp only[go_sem,w3,aS h2];have q:=bL d a (o+r) o_;have p:=bL d a (o+(2*r+1)) o_;have k:IntKind.i64.wrap ((o:Int)+(r:Int))=((o+r:Nat):Int):=k_;have v2:IntKind.i64.wrap ((o:Int)+(((2*r+1):Nat):Int))=((o+(2*r+1):Nat):Int):=o_;simp only[go_sem,aP,k,v2,(o_:o+r<a.length),(o_:o+(2*r+1)<a.length),q,p];apply jU x (VL.get (VL.pr i m) o_) (VL.get (VL.pr i m) o_);simp only[go_sem,TG,MG,pY];refine aL (λj=>?_) (λj=>?_);have e:a.getD (o+(2*r+1)) 0<=a.getD (o+r) 0:=dc;simp only[go_sem];exact⟨a,⟨i,ME t λc h1 h2=>uR (b c h1 h2) e⟩,rfl⟩;have e:a.getD (o+r) 0<a.getD (o+(2*r+1)) 0:=dc;obtain⟨y,w⟩:=vK d a (o+r) (o+(2*r+1)) (d (a.getD (o+(2*r+1)) 0)) o_;simp only[go_sem,aM,TG,MG,cv,aP,cL,k,v2,(o_:o+r<a.length),(o_:o+(2*r+1)<a.length),q,p,w,kT];exact⟨h-((2*r+1)),o_,(2*r+1),_,rfl,o_,o_,i.trans (gW o_ o_ o_ o_ o_),ST t B o_ o_ o_ b e,rfl⟩
end
section
variable{g:PGM}{d:Nat->Id}{f N:Nat}
def aIa(F:rF G g d f N)(l:V_)(D:VL N l)(a b:Nat)(L:a<b)(S:b<=l.length)(R:l.length<=1000000000):
 aA PQ G gO [.own 0,iv a,iv b,cv f] (aM g d l) (Gz g d λ_ e=>PR a b l e/\SR a b e):=by
 apply aC rS;have w1:IntKind.i64.wrap ((b:Int)-(a:Int))=((b-a:Nat):Int):=k_;have w2:IntKind.i64.wrap (((b-a:Nat):Int)-1)=((b-a-1:Nat):Int):=k_;simp only[go_sem,aM,TG,MG,cv,w1,w2,aNw (b-a-1) o_];refine cO (λk s=>∃e:V_,k<=b-a/\PR a b l e/\HP a k (b-a) e/\s=⟨4,[(0,.own 0),(3,cv f),(8,iv a),(9,iv 0),(10,iv ((b-a:Nat):Int)),(11,iv ((k:Int)-1))],(aM g d e)⟩) ((b-a-1)/2+1)
  ⟨l,o_,PR.refl a b l,λp c h1 h2 h3=>o_,?_⟩ ?_
 simp only[go_sem,aM,TG,MG,cv,(o_:(((b-a-1)/2+1:Nat):Int)-1=(((b-a-1)/2:Nat):Int))];rintro k s ⟨C,K,u,E,rfl⟩;have J:=u.1
 cases k with
 | zero=>
  have w3:IntKind.i64.wrap (((b-a:Nat):Int)-1)=((b-a-1:Nat):Int):=w2;simp only[go_sem,aM,TG,MG,cv,(d_:decide ((-1:Int)>=0)=false),w3];refine cO (λk s=>∃e:V_,k<=b-a/\PR a b l e/\HP a 0 k e/\HS a b k e/\s=⟨4,[(0,.own 0),(3,cv f),(8,iv a),(9,iv 0),(12,iv ((k:Int)-1))],(aM g d e)⟩) (b-a)
   ⟨C,cN _,u,E,⟨SR.small o_,λp q h1 h2 h3 T=>o_⟩,?_⟩ ?_
  simp only[go_sem,aM,TG,MG,cv,(o_:((b-a:Nat):Int)-1=((b-a-1:Nat):Int))];rintro k s ⟨i,K,j,B,t,rfl⟩;have I:=j.1
  cases k with
  |zero=>
   simp only[go_sem,aM,TG,MG,cv,(d_:decide ((-1:Int)>=0)=false)];exact⟨i,⟨j,t.1⟩,rfl⟩
  |succ k=>
   have m:((k+1:Nat):Int)-1=(k:Int):=o_;have P:=bL d i a o_;have O:=bL d i (a+k) o_;obtain⟨y,M⟩:=vK d i a (a+k) (d (i.getD (a+k) 0)) o_;have H:IntKind.i64.wrap ((a:Int)+(k:Int))=((a+k:Nat):Int):=k_;have w:IntKind.i64.wrap ((k:Int)-1)=(k:Int)-1:=aJ o_ o_;obtain⟨z,x⟩:=aFs o_ o_ B t;have o:PR a b i (iO i a (a+k)):=gW o_ o_ o_ o_ o_;simp only[go_sem,aM,TG,MG,cv,m,aP,cL,H,(o_:a<i.length),(o_:a+k<i.length),P,O,M,kT];apply aG [0,1,2,3] (aB _) d_ H_ l_ h_ (aDw F (iO i a (a+k)) (VL.pr (j.trans o) D) 0 k a z o_ (by rw[GD];omega) (by rw[GD];omega));rintro r Q ⟨A,⟨h,n⟩,rfl⟩;simp only[go_sem,aM,TG,MG,cv,w];rw[mG]at h;exact⟨k,Nat.lt_succ_self k,A,o_,(j.trans o).trans (h.wide (cN _) o_),n,aJW (by rw[GD];omega) x h,rfl⟩
 |succ k=>
  have m:((k+1:Nat):Int)-1=(k:Int):=o_;have w:IntKind.i64.wrap ((k:Int)-1)=(k:Int)-1:=aJ o_ o_;simp only[go_sem,aM,TG,MG,cv,m];apply aG [0,1,2,3] (aB _) d_ H_ l_ h_ (aDw F C (VL.pr u D) k (b-a) a E o_ o_ o_);rintro r Q ⟨A,⟨h,n⟩,rfl⟩;simp only[go_sem,aM,TG,MG,cv,w];exact⟨k,Nat.lt_succ_self k,A,o_,u.trans (h.wide o_ o_),n,rfl⟩
end
section
variable{g:PGM}{d:Nat->Id}{f N:Nat}
def Q6(C:rF G g d f N)(l:V_)(u:VL N l)(a b:Nat)(p:a<b)(B:b<=l.length)(x:l.length<=1000000000):
 aA PQ G fB [.own 0,iv a,iv b,cv f] (aM g d l) (Gz g d λ_ h=>PR a b l h):=by
 apply aC pK;have w1:IntKind.i64.wrap ((b:Int)-1)=((b-1:Nat):Int):=k_;simp only[go_sem,aM,TG,MG,cv,w1];refine cO (λn s=>∃(i j:Nat)(h:V_),n=j+1-i/\a<=i/\j<b/\i<=b/\PR a b l h/\s=⟨4,[(0,.own 0),(8,iv i),(9,iv j)],(aM g d h)⟩) (b-a)
  ⟨a,b-1,l,o_,cN _,o_,o_,PR.refl a b l,h_⟩ ?_
 rintro n s ⟨i,j,c,w,A,z,o,k,rfl⟩;have m:=k.1;by_cases e:i<j;have t:=bL d c i o_;have r:=bL d c j o_;obtain⟨y,q⟩:=vK d c i j (d (c.getD j 0)) o_;have w2:IntKind.i64.wrap ((j:Int)-1)=((j-1:Nat):Int):=k_;simp only[go_sem,aM,TG,MG,aT e,aP,cL,(o_:i<c.length),(o_:j<c.length),t,r,q,kT,fQ i o_,w2];exact⟨(j-1)+1-(i+1),o_,i+1,j-1,_,rfl,o_,o_,o_,k.trans (gW o_ o_ o_ o_ o_),rfl⟩;simp only[go_sem,aM,TG,MG,aS e];exact⟨c,k,rfl⟩
def OY(k:rF G g d f N)(l:V_)(i:VL N l)(a b:Nat)(c:Int)(h:a<l.length)(e:b<l.length):
 aA PQ G cY [.own 0,iv a,iv b,.ptr 4 0,cv f] (aM g d l++[some (.box [iv c])]) λr p=>∃(x y:Nat)(o:Int),((x=a/\y=b)\/(x=b/\y=a))/\r=.tup [iv x,iv y]/\p=(aM g d l++[some (.box [iv o])]):=by
 apply aC tI;have n:=bL d l a h;have m:=bL d l b e;simp only[go_sem,aM,TG,MG,cv,aP,h,e,n,m];apply aAR k (a:=l.getD b 0) (b:=l.getD a 0) (VL.get i e) (VL.get i h);simp only[go_sem,TG,MG,pY];refine aL (λj=>?_) (λj=>?_);simp only[go_sem];exact⟨b,a,_,.inr ⟨rfl,rfl⟩,rfl,rfl⟩;simp only[go_sem];exact⟨a,b,c,.inl ⟨rfl,rfl⟩,rfl,rfl⟩
def OZ(j:rF G g d f N)(l:V_)(i:VL N l)(a b e:Nat)(c:Int)(p:a<l.length)(o:b<l.length)(n:e<l.length):
 aA PQ G aBA [.own 0,iv a,iv b,iv e,.ptr 4 0,cv f] (aM g d l++[some (.box [iv c])]) λr h=>∃(x:Nat)(q:Int),(x=a\/x=b\/x=e)/\r=iv x/\h=(aM g d l++[some (.box [iv q])]):=by
 apply aC tH;simp only[go_sem,aM,TG,MG,cv];apply aG [0,1,2,3,4] (aB _) d_ H_ l_ h_ (OY j l (i) a b c p o);rintro r h ⟨x,y,c1,h1,rfl,rfl⟩;simp only[go_sem,aM,TG,MG];apply aG [0,1,2,3,4] (aB _) d_ H_ l_ h_ (OY j l (i) y e c1 o_ n);rintro r h ⟨m,s,c2,h2,rfl,rfl⟩;simp only[go_sem,aM,TG,MG];apply aG [0,1,2,3,4] (aB _) d_ H_ l_ h_ (OY j l (i) x m c2 o_ o_);rintro r h ⟨t,k,c3,h3,rfl,rfl⟩;simp only[go_sem,aM,TG,MG];exact⟨k,c3,o_,rfl,rfl⟩
def J9(i:rF G g d f N)(l:V_)(e:VL N l)(a:Nat)(c:Int)(h0:0<a)(h:a+1<l.length)(k:l.length<=1000000000):
 aA PQ G bW [.own 0,iv a,.ptr 4 0,cv f] (aM g d l++[some (.box [iv c])]) λr b=>∃(x:Nat)(j:Int),(x=a-1\/x=a\/x=a+1)/\r=iv x/\b=(aM g d l++[some (.box [iv j])]):=by
 apply aC oG;have w1:IntKind.i64.wrap ((a:Int)-1)=((a-1:Nat):Int):=k_;simp only[go_sem,aM,TG,MG,cv,w1,fQ a o_];apply aG [0,1,2,3,4] (aB _) d_ H_ l_ h_ (OZ i l e (a-1) a (a+1) c o_ o_ h);rintro r b ⟨x,c1,h1,rfl,rfl⟩;simp only[go_sem,aM,TG,MG];exact⟨x,c1,h1,rfl,rfl⟩
def Uz(k:rF G g d f N)(l:V_)(j:VL N l)(a b:Nat)(E:a+12<b)(L:b<=l.length)(t:l.length<=1000000000):
 aA PQ G fK [.own 0,iv a,iv b,cv f] (aM g d l) λr i=>∃(p:Nat)(h:Int),a<=p/\p<b/\r=.tup [iv p,iv h]/\i=(aM g d l):=by
 apply aC pW;have w1:IntKind.i64.wrap ((b:Int)-(a:Int))=((b-a:Nat):Int):=k_;generalize D:(b-a)/4=q;have C:IntKind.i64.wrap ((q:Int)*1)=(q:Int):=k_;have B:IntKind.i64.wrap ((q:Int)*2)=((q*2:Nat):Int):=k_;have A:IntKind.i64.wrap ((q:Int)*3)=((q*3:Nat):Int):=k_;have z:IntKind.i64.wrap ((a:Int)+(q:Int))=((a+q:Nat):Int):=k_;have y:IntKind.i64.wrap ((a:Int)+((q*2:Nat):Int))=((a+q*2:Nat):Int):=k_;have w:IntKind.i64.wrap ((a:Int)+((q*3:Nat):Int))=((a+q*3:Nat):Int):=k_;simp only[go_sem,aM,TG,MG,cv,w1,aFr (b-a) o_,D,C,B,A,z,y,w,show decide (((b-a:Nat):Int)>=8)=true from decide_eq_true o_];by_cases F:50<=b-a;simp only[go_sem,show decide (((b-a:Nat):Int)>=50)=true from decide_eq_true o_];apply aG [0,1,2,3,4] (aB _) d_ H_ l_ h_ (J9 k l (j) (a+q) 0 o_ o_ t);rintro r i ⟨o,c1,h1,rfl,rfl⟩;have K:a<=o/\o<b:=o_;clear h1;simp only[go_sem,aM,TG,MG];apply aG [0,1,2,3,4] (aB _) d_ H_ l_ h_ (J9 k l (j) (a+q*2) c1 o_ o_ t);rintro r i ⟨n,c2,h2,rfl,rfl⟩;have J:a<=n/\n<b:=o_;clear h2;simp only[go_sem,aM,TG,MG];apply aG [0,1,2,3,4] (aB _) d_ H_ l_ h_ (J9 k l (j) (a+q*3) c2 o_ o_ t);rintro r i ⟨m,c3,h3,rfl,rfl⟩;have I:a<=m/\m<b:=o_;clear h3;simp only[go_sem,aM,TG,MG];apply aG [0,1,2,3,4] (aB _) d_ H_ l_ h_ (OZ k l (j) o n m c3 o_ o_ o_);rintro r i ⟨x,H,u,rfl,rfl⟩;have c:a<=x/\x<b:=o_;clear u;simp only[go_sem,aM,TG,MG];refine aL (λs=>?_) (λs=>?_);simp only[go_sem];exact⟨x,1,c.1,c.2,rfl⟩;simp only[go_sem];refine aL (λe=>?_) (λe=>?_);simp only[go_sem];exact⟨x,2,c.1,c.2,rfl⟩;simp only[go_sem];exact⟨x,0,c.1,c.2,rfl⟩;simp only[go_sem,show decide (((b-a:Nat):Int)>=50)=false from decide_eq_false o_];apply aG [0,1,2,3,4] (aB _) d_ H_ l_ h_ (OZ k l (j) (a+q) (a+q*2) (a+q*3) 0 o_ o_ o_);rintro r i ⟨x,H,u,rfl,rfl⟩;have c:a<=x/\x<b:=o_;clear u;simp only[go_sem,aM,TG,MG];refine aL (λs=>?_) (λs=>?_);simp only[go_sem];exact⟨x,1,c.1,c.2,rfl⟩;simp only[go_sem];refine aL (λe=>?_) (λe=>?_);simp only[go_sem];exact⟨x,2,c.1,c.2,rfl⟩;simp only[go_sem];exact⟨x,0,c.1,c.2,rfl⟩
def aFL(hC:rF G g d f N)(l:V_)(U:VL N l)(a b:Nat)(R:a+12<b)(Z:b<=l.length)(X:l.length<=60000):
 aA PQ G eM [.own 0,iv a,iv b,cv f] (aM g d l) (Gz g d λ_ k=>PR a b l k):=by
 apply aC oV;have w1:IntKind.i64.wrap ((b:Int)-(a:Int))=((b-a:Nat):Int):=k_;generalize A:(b-a)/4=q;have x:IntKind.i64.wrap ((q:Int)*2)=((q*2:Nat):Int):=k_;have w:IntKind.i64.wrap ((a:Int)+((q*2:Nat):Int))=((a+q*2:Nat):Int):=k_;have K:IntKind.i64.wrap (((a+q*2:Nat):Int)-1)=((a+q*2-1:Nat):Int):=k_;have H:IntKind.i64.wrap (((a+q*2:Nat):Int)+1)=((a+q*2+1:Nat):Int):=pC o_;simp only[go_sem,aM,TG,MG,cv,w1,show decide (((b-a:Nat):Int)>=8)=true from decide_eq_true o_];apply Jo (aAC (b-a) o_ o_);rintro r S ⟨⟨m,rfl,M,L⟩,rfl⟩;simp only[go_sem,aFr (b-a) o_,A,x,w,K];refine cO (λn s=>∃(i:Nat)(k:V_)(z:Int),n=a+q*2+2-i/\a<=i/\i<=a+q*2+2/\PR a b l k/\s=⟨4,[(0,.own 0),(1,iv a),(8,iv ((b-a:Nat):Int)),(9,.ptr 4 0),(10,.v (.int .u64 (m:Int))),(11,iv i)],(aM g d k++[some (.box [.v (.int .u64 z)])])⟩) 3
  ⟨a+q*2-1,l,IntKind.u64.wrap ((b-a:Nat):Int),o_,o_,o_,PR.refl a b l,h_⟩ ?_
 rintro n s ⟨i,c,z,W,Q,Y,p,rfl⟩;have O:=p.1;by_cases h:i<=a+q*2+1;simp only[go_sem,aM,TG,MG,aFr (b-a) o_,A,x,w,H,N9 h];apply aG [4] (aB _) d_ s_ f_ f_ (aHY z);rintro r S ⟨t,rfl,rfl⟩;have T:IntKind.u64.wrap ((m:Int)-1)=((m-1:Nat):Int):=by rw[(o_:(m:Int)-1=((m-1:Nat):Int)),bS _ o_]
 obtain⟨o,V,B⟩:=Wq t (m-1) o_;have J:bV .sub (.int .u64 (m:Int)) (.int .u64 1)=some (.int .u64 ((m-1:Nat):Int)):=Ws m 1 o_ o_;have v2:=Ib (o_:o<=2^63-1);simp only[↓J,↓B,go_sem,v2];by_cases e:b-a<=o;have I:IntKind.i64.wrap ((o:Int)-((b-a:Nat):Int))=((o-(b-a):Nat):Int):=k_;simp only[go_sem,aGY e,I];have u:IntKind.i64.wrap ((a:Int)+((o-(b-a):Nat):Int))=((a+(o-(b-a)):Nat):Int):=k_;have P:a+(o-(b-a))<b:=o_;have C:a<=a+(o-(b-a)):=o_;generalize a+(o-(b-a))=j at *
 have F:=bL d c i o_;have E:=bL d c j o_;obtain⟨y,D⟩:=vK d c i j (d (c.getD j 0)) o_;simp only[go_sem,aM,TG,MG,u,aP,cL,(o_:i<c.length),(o_:j<c.length),F,E,D,kT,fQ i o_];exact⟨a+q*2+2-(i+1),o_,i+1,_,t,rfl,o_,o_,p.trans (gW o_ o_ o_ o_ o_),rfl⟩;simp only[go_sem,aGZ (H8 e)];have u:IntKind.i64.wrap ((a:Int)+(o:Int))=((a+o:Nat):Int):=k_;have P:a+o<b:=o_;have C:a<=a+o:=o_;generalize a+o=j at *
 have F:=bL d c i o_;have E:=bL d c j o_;obtain⟨y,D⟩:=vK d c i j (d (c.getD j 0)) o_;simp only[go_sem,aM,TG,MG,u,aP,cL,(o_:i<c.length),(o_:j<c.length),F,E,D,kT,fQ i o_];exact⟨a+q*2+2-(i+1),o_,i+1,_,t,rfl,o_,o_,p.trans (gW o_ o_ o_ o_ o_),rfl⟩;simp only[go_sem,aM,TG,MG,aFr (b-a) o_,A,x,w,H,OA (H8 h)];exact⟨c,p,rfl⟩
end
section
variable{g:PGM}{d:Nat->Id}{f N:Nat}
def aDx (V:rF G g d f N) (l:V_) (H:VL N l) (a b p:Nat) (ad:a<=p) (aa:p<b) (hb:b<=l.length) (hl:l.length<=1000000000):
 aA PQ G dL [.own 0,iv a,iv b,iv p,cv f] (aM g d l) (Gz g d λr l'=>∃(j:Nat)(f:Bool),r=.tup [iv j,.v (.bool f)]/\PR a b l l'/\aZ9 a b j l'):=by
 apply aC rC;have g1:=bL d l a o_;have g2:=bL d l p o_;obtain⟨y,g3⟩:=vK d l a p (d (l.getD p 0)) o_;have w1:IntKind.i64.wrap ((b:Int)-1)=((b-1:Nat):Int):=k_;simp only[go_sem,aM,TG,MG,cv,aP,cL,(o_:a<l.length),(o_:p<l.length),g1,g2,g3,kT,w1,fQ a o_];have o:PR a b l (iO l a p):=gW o_ o_ o_ o_ o_;generalize iO l a p=e at o;have ac:=o.1;clear g1 g2 g3;have R:=bL d e a o_;refine jG (λs=>∃i:Nat,(a+1)<=i/\Pt a b i (b-1) e/\((b-1)<i\/e.getD a 0<=e.getD i 0)/\s=⟨4,[(0,.own 0),(1,iv a),(4,cv f),(12,iv i),(13,iv (((b-1):Nat):Int))],(aM g d e)⟩) ?_ ?_;refine cO (λn s=>∃i:Nat,n=b+1-i/\(a+1)<=i/\Pt a b i (b-1) e/\s=⟨4,[(0,.own 0),(1,iv a),(4,cv f),(12,iv i),(13,iv (((b-1):Nat):Int))],(aM g d e)⟩) (b+1-(a+1))
  ⟨(a+1),rfl,cN _,⟨o_,o_,o_,o_,λk F E=>o_,λk F E=>o_⟩,j_⟩ ?_
 rintro n s ⟨i,U,x,c,rfl⟩;obtain⟨T,S,M,L,D,C⟩:=id c;by_cases h:i<=(b-1);have Z:=bL d e i o_;simp only[go_sem,aM,TG,MG,cv,N9 h,aP,(o_:a<e.length),(o_:i<e.length),R,Z];apply jU V (VL.get (VL.pr o H) o_) (VL.get (VL.pr o H) o_);simp only[go_sem,TG,MG,pY];refine aL (λt=>?_) (λt=>?_);have m:e.getD i 0<e.getD a 0:=J_;simp only[go_sem,aM,TG,MG,cv,fQ i o_];refine⟨b+1-(i+1),o_,i+1,rfl,o_,⟨o_,o_,M,L,λk F E=>?_,C⟩,rfl⟩;grind;have m:e.getD a 0<=e.getD i 0:=J_;simp only[go_sem,aM,TG,MG,cv];grind;simp only[go_sem,aM,TG,MG,cv,OA (H8 h)];grind;rintro s ⟨i,x,c,Q,rfl⟩;simp only[go_sem,aM,TG,MG,cv];refine jG (λs=>∃j:Nat,j<=(b-1)/\Pt a b i j e/\(j<i\/e.getD j 0<e.getD a 0)/\s=⟨4,[(0,.own 0),(1,iv a),(4,cv f),(12,iv i),(13,iv j)],(aM g d e)⟩) ?_ ?_;refine cO (λn s=>∃j:Nat,n=j/\j<=(b-1)/\Pt a b i j e/\s=⟨4,[(0,.own 0),(1,iv a),(4,cv f),(12,iv i),(13,iv j)],(aM g d e)⟩) ((b-1))
  ⟨(b-1),rfl,cN _,c,j_⟩ ?_
 rintro n s ⟨j,U,w,c,rfl⟩;obtain⟨T,S,M,L,D,C⟩:=id c;by_cases h:i<=j;have Y:=bL d e j o_;have I:IntKind.i64.wrap ((j:Int)-1)=((j-1:Nat):Int):=k_;simp only[go_sem,aM,TG,MG,cv,N9 h,aP,(o_:a<e.length),(o_:j<e.length),R,Y];apply jU V (VL.get (VL.pr o H) o_) (VL.get (VL.pr o H) o_);simp only[go_sem,TG,MG,pY];refine aL (λt=>?_) (λt=>?_);have m:e.getD a 0<=e.getD j 0:=J_;simp only[go_sem,aM,TG,MG,cv,I];refine⟨j-1,o_,j-1,rfl,o_,⟨o_,o_,o_,o_,D,λk F E=>?_⟩,rfl⟩;grind;have m:e.getD j 0<e.getD a 0:=J_;simp only[go_sem,aM,TG,MG,cv];grind;simp only[go_sem,aM,TG,MG,cv,OA (H8 h)];grind;rintro s ⟨j,w,c,P,rfl⟩;simp only[go_sem,aM,TG,MG,cv];by_cases h:j<i;skip;have K:=bL d e j am;obtain⟨W,J⟩:=vK d e j a (d (e.getD a 0)) o_;simp only[go_sem,aCT h,aP,cL,(o_:a<e.length),(am:j<e.length),R,K,J,kT];have F:=c.2.2.1;have E:=c.2.2.2.1;exact⟨_,⟨j,true,rfl,o.trans (gW o_ o_ o_ o_ o_),aD7 o_ c h⟩,rfl⟩;skip;obtain⟨T,S,M,L,D,C⟩:=id c;have A:e.getD a 0<=e.getD i 0:=Q.resolve_left o_;have z:e.getD j 0<e.getD a 0:=P.resolve_left h;have O:=Y4 o_ c o_ A z;have K:=bL d e i o_;have q2:=bL d e j o_;obtain⟨W,J⟩:=vK d e i j (d (e.getD j 0)) o_;have I:IntKind.i64.wrap ((j:Int)-1)=((j-1:Nat):Int):=k_;simp only[go_sem,aCU (YO h),aP,cL,(o_:i<e.length),(o_:j<e.length),K,q2,J,kT,I,fQ i o_];have u:PR a b e (iO e i j):=gW o_ o_ o_ o_ o_;refine cO (λn s=>∃(i j:Nat)(l2:V_),n=j+1-i/\PR a b l l2/\Pt a b i j l2/\s=⟨4,[(0,.own 0),(1,iv a),(4,cv f),(12,iv i),(13,iv j)],(aM g d l2)⟩) (j-1+1-(i+1))
  ⟨i+1,j-1,_,rfl,o.trans u,O.2,j_⟩ ?_
 rintro n s ⟨i0,B,l2,U,q,c,rfl⟩;have ab:=q.1;have R:=bL d l2 a o_;simp only[go_sem,aM,TG,MG,cv];refine jG (λs=>∃i:Nat,i0<=i/\Pt a b i B l2/\(B<i\/l2.getD a 0<=l2.getD i 0)/\s=⟨4,[(0,.own 0),(1,iv a),(4,cv f),(12,iv i),(13,iv B)],(aM g d l2)⟩) ?_ ?_;refine cO (λn s=>∃i:Nat,n=b+1-i/\i0<=i/\Pt a b i B l2/\s=⟨4,[(0,.own 0),(1,iv a),(4,cv f),(12,iv i),(13,iv B)],(aM g d l2)⟩) (b+1-i0)
  ⟨i0,rfl,cN _,c,j_⟩ ?_
 rintro n s ⟨i,U,x,c,rfl⟩;obtain⟨T,S,M,L,D,C⟩:=id c;by_cases h:i<=B;have Z:=bL d l2 i o_;simp only[go_sem,aM,TG,MG,cv,N9 h,aP,(o_:a<l2.length),(o_:i<l2.length),R,Z];apply jU V (VL.get (VL.pr q H) o_) (VL.get (VL.pr q H) o_);simp only[go_sem,TG,MG,pY];refine aL (λt=>?_) (λt=>?_);have m:l2.getD i 0<l2.getD a 0:=J_;simp only[go_sem,aM,TG,MG,cv,fQ i o_];refine⟨b+1-(i+1),o_,i+1,rfl,o_,⟨o_,o_,M,L,λk F E=>?_,C⟩,rfl⟩;by_cases X:k=i;subst X;omega;exact D k F o_;have m:l2.getD a 0<=l2.getD i 0:=J_;simp only[go_sem,aM,TG,MG,cv];exact⟨i,x,c,.inr m,rfl⟩;simp only[go_sem,aM,TG,MG,cv,OA (H8 h)];exact⟨i,x,c,.inl o_,rfl⟩;rintro s ⟨i,x,c,Q,rfl⟩;simp only[go_sem,aM,TG,MG,cv];refine jG (λs=>∃j:Nat,j<=B/\Pt a b i j l2/\(j<i\/l2.getD j 0<l2.getD a 0)/\s=⟨4,[(0,.own 0),(1,iv a),(4,cv f),(12,iv i),(13,iv j)],(aM g d l2)⟩) ?_ ?_;refine cO (λn s=>∃j:Nat,n=j/\j<=B/\Pt a b i j l2/\s=⟨4,[(0,.own 0),(1,iv a),(4,cv f),(12,iv i),(13,iv j)],(aM g d l2)⟩) (B)
  ⟨B,rfl,cN _,c,j_⟩ ?_
 rintro n s ⟨j,U,w,c,rfl⟩;obtain⟨T,S,M,L,D,C⟩:=id c;by_cases h:i<=j;have Y:=bL d l2 j o_;have I:IntKind.i64.wrap ((j:Int)-1)=((j-1:Nat):Int):=k_;simp only[go_sem,aM,TG,MG,cv,N9 h,aP,(o_:a<l2.length),(o_:j<l2.length),R,Y];apply jU V (VL.get (VL.pr q H) o_) (VL.get (VL.pr q H) o_);simp only[go_sem,TG,MG,pY];refine aL (λt=>?_) (λt=>?_);have m:l2.getD a 0<=l2.getD j 0:=J_;simp only[go_sem,aM,TG,MG,cv,I];refine⟨j-1,o_,j-1,rfl,o_,⟨o_,o_,o_,o_,D,λk F E=>?_⟩,rfl⟩;by_cases X:k=j;subst X;exact m;exact C k o_ E;have m:l2.getD j 0<l2.getD a 0:=J_;simp only[go_sem,aM,TG,MG,cv];exact⟨j,w,c,.inr m,rfl⟩;simp only[go_sem,aM,TG,MG,cv,OA (H8 h)];exact⟨j,w,c,.inl o_,rfl⟩;rintro s ⟨j,w,c,P,rfl⟩;simp only[go_sem,aM,TG,MG,cv];by_cases h:j<i;skip;have K:=bL d l2 j am;obtain⟨W,J⟩:=vK d l2 j a (d (l2.getD a 0)) o_;simp only[go_sem,aCT h,aP,cL,(o_:a<l2.length),(am:j<l2.length),R,K,J,kT];have F:=c.2.2.1;have E:=c.2.2.2.1;exact⟨_,⟨j,false,rfl,q.trans (gW o_ o_ o_ o_ o_),aD7 o_ c h⟩,rfl⟩;skip;obtain⟨T,S,M,L,D,C⟩:=id c;have A:l2.getD a 0<=l2.getD i 0:=Q.resolve_left o_;have z:l2.getD j 0<l2.getD a 0:=P.resolve_left h;have O:=Y4 o_ c o_ A z;have K:=bL d l2 i o_;have q2:=bL d l2 j o_;obtain⟨W,J⟩:=vK d l2 i j (d (l2.getD j 0)) o_;have I:IntKind.i64.wrap ((j:Int)-1)=((j-1:Nat):Int):=k_;simp only[go_sem,aM,TG,MG,cv,aCU (YO h),aP,cL,(o_:i<l2.length),(o_:j<l2.length),K,q2,J,kT,I,fQ i o_];have u:PR a b l2 (iO l2 i j):=gW o_ o_ o_ o_ o_;exact⟨j-1+1-(i+1),o_,i+1,j-1,_,rfl,q.trans u,O.2,rfl⟩
end
section
variable{g:PGM}{d:Nat->Id}{f N:Nat}
def U0 (U:rF G g d f N) (l:V_) (J:VL N l) (a b p:Nat) (ad:a<=p) (aa:p<b) (hb:b<=l.length) (hl:l.length<=1000000000):
 aA PQ G cQ [.own 0,iv a,iv b,iv p,cv f] (aM g d l) (Gz g d λr M=>∃i:Nat,r=iv i/\PR a b l M/\a<i/\i<=b/\(∀k,a<=k->k<i->M.getD k 0<=l.getD p 0)/\∀k,i<=k->k<b->l.getD p 0<M.getD k 0):=by
 apply aC oF;have Y:=bL d l a o_;have X:=bL d l p o_;obtain⟨y,W⟩:=vK d l a p (d (l.getD p 0)) o_;have w1:IntKind.i64.wrap ((b:Int)-1)=((b-1:Nat):Int):=k_;simp only[go_sem,aM,TG,MG,cv,aP,cL,(o_:a<l.length),(o_:p<l.length),Y,X,W,kT,w1,fQ a o_];have o:PR a b l (iO l a p):=gW o_ o_ o_ o_ o_;have x:(iO l a p).getD a 0=l.getD p 0:=by rw[rU l a p o_ o_];simp_all
 generalize iO l a p=l1 at o x;have ac:=o.1;clear Y X W;refine cO (λn s=>∃(i j:Nat)(l2:V_),n=j+1-i/\PR a b l l2/\l2.getD a 0=l.getD p 0/\Pe a b i j l2/\s=⟨4,[(0,.own 0),(1,iv a),(4,cv f),(11,iv i),(12,iv j)],(aM g d l2)⟩) (b-1+1-(a+1))
  ⟨a+1,b-1,_,rfl,o,x,⟨o_,o_,o_,o_,λk w u=>o_,λk w u=>o_⟩,j_⟩ ?_
 rintro n s ⟨i0,m,l2,T,h,O,c,rfl⟩;have ab:=h.1;have V:=bL d l2 a o_;simp only[go_sem,aM,TG,MG,cv];refine jG (λs=>∃i:Nat,i0<=i/\Pe a b i m l2/\(m<i\/l2.getD a 0<l2.getD i 0)/\s=⟨4,[(0,.own 0),(1,iv a),(4,cv f),(11,iv i),(12,iv m)],(aM g d l2)⟩) ?_ ?_;refine cO (λn s=>∃i:Nat,n=b+1-i/\i0<=i/\Pe a b i m l2/\s=⟨4,[(0,.own 0),(1,iv a),(4,cv f),(11,iv i),(12,iv m)],(aM g d l2)⟩) (b+1-i0)
  ⟨i0,rfl,cN _,c,j_⟩ ?_
 rintro n s ⟨i,T,Q,c,rfl⟩;obtain⟨I,L,H,F,E,D⟩:=id c;by_cases e:i<=m;have gi:=bL d l2 i o_;simp only[go_sem,aM,TG,MG,cv,N9 e,aP,(o_:a<l2.length),(o_:i<l2.length),V,gi];apply jU U (VL.get (VL.pr h J) o_) (VL.get (VL.pr h J) o_);simp only[go_sem,TG,MG,pY];refine aL (λt=>?_) (λt=>?_);have q:l2.getD i 0<=l2.getD a 0:=J_;simp only[go_sem,aM,TG,MG,cv,fQ i o_];refine⟨b+1-(i+1),o_,i+1,rfl,o_,⟨o_,o_,H,F,λk w u=>?_,D⟩,rfl⟩;grind;have q:l2.getD a 0<l2.getD i 0:=J_;simp only[go_sem,aM,TG,MG,cv];grind;simp only[go_sem,aM,TG,MG,cv,OA (H8 e)];grind;rintro s ⟨i,Q,c,S,rfl⟩;simp only[go_sem,aM,TG,MG,cv];refine jG (λs=>∃j:Nat,j<=m/\Pe a b i j l2/\(j<i\/l2.getD j 0<=l2.getD a 0)/\s=⟨4,[(0,.own 0),(1,iv a),(4,cv f),(11,iv i),(12,iv j)],(aM g d l2)⟩) ?_ ?_;refine cO (λn s=>∃j:Nat,n=j/\j<=m/\Pe a b i j l2/\s=⟨4,[(0,.own 0),(1,iv a),(4,cv f),(11,iv i),(12,iv j)],(aM g d l2)⟩) (m)
  ⟨m,rfl,cN _,c,j_⟩ ?_
 rintro n s ⟨j,T,P,c,rfl⟩;obtain⟨I,L,H,F,E,D⟩:=id c;by_cases e:i<=j;have gj:=bL d l2 j o_;have K:IntKind.i64.wrap ((j:Int)-1)=((j-1:Nat):Int):=k_;simp only[go_sem,aM,TG,MG,cv,N9 e,aP,(o_:a<l2.length),(o_:j<l2.length),V,gj];apply jU U (VL.get (VL.pr h J) o_) (VL.get (VL.pr h J) o_);simp only[go_sem,TG,MG,pY];refine aL (λt=>?_) (λt=>?_);have q:l2.getD a 0<l2.getD j 0:=J_;simp only[go_sem,aM,TG,MG,cv,K];refine⟨j-1,o_,j-1,rfl,o_,⟨o_,o_,o_,o_,E,λk w u=>?_⟩,rfl⟩;grind;have q:l2.getD j 0<=l2.getD a 0:=J_;simp only[go_sem,aM,TG,MG,cv];grind;simp only[go_sem,aM,TG,MG,cv,OA (H8 e)];grind;rintro s ⟨j,P,c,R,rfl⟩;simp only[go_sem,aM,TG,MG,cv];by_cases e:j<i;simp only[go_sem,aCT e];obtain⟨I,L,H,F,E,D⟩:=id c;refine⟨l2,⟨i,rfl,h,I,o_,λk w u=>?_,λk w u=>?_⟩,rfl⟩;grind;grind;skip;obtain⟨I,L,H,F,E,D⟩:=id c;have C:l2.getD a 0<l2.getD i 0:=S.resolve_left o_;have B:l2.getD j 0<=l2.getD a 0:=R.resolve_left e;have A:=aFu o_ c o_ C B;have q1:=bL d l2 i o_;have q2:=bL d l2 j o_;obtain⟨y2,Z⟩:=vK d l2 i j (d (l2.getD j 0)) o_;have K:IntKind.i64.wrap ((j:Int)-1)=((j-1:Nat):Int):=k_;simp only[go_sem,aM,TG,MG,cv,aCU (YO e),aP,cL,(o_:i<l2.length),(o_:j<l2.length),q1,q2,Z,kT,K,fQ i o_];have z:PR a b l2 (iO l2 i j):=gW o_ o_ o_ o_ o_;exact⟨j-1+1-(i+1),o_,i+1,j-1,_,rfl,h.trans z,by rw[A.2.2,O],A.2.1,rfl⟩
end
end Hud
