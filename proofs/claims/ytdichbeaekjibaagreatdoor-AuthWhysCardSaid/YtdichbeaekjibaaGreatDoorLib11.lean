import Derived.Test.YtdichbeaekjibaaGreatDoorLib10
set_option linter.all false
set_option maxHeartbeats 40000000
namespace Hud
open Go
variable{G:L_}
def Ws(x y:Nat)(h:y<=x)(h2:x<2^64):bV .sub (.int .u64 (x:Int)) (.int .u64 (y:Int))=some (.int .u64 ((x-y:Nat):Int)):=by simp only[bV,if_true];rw[(o_:(x:Int)-(y:Int)=((x-y:Nat):Int)),bS _ o_]
def Pt(a b i j:Nat)(l:V_):Prop:=a<i/\i<=j+1/\a<=j/\j<b/\(∀k,a<k->k<i->l.getD k 0<=l.getD a 0)/\∀k,j<k->k<b->l.getD a 0<=l.getD k 0
def aZ9(a b j:Nat)(l:V_):Prop:=a<=j/\j<b/\(∀k,a<=k->k<j->l.getD k 0<=l.getD j 0)/\∀k,j<k->k<b->l.getD j 0<=l.getD k 0
def Y4{a b i j:Nat}{l:V_}(t:b<=l.length)(h:Pt a b i j l)(g:i<=j)(h1:l.getD a 0<=l.getD i 0)(h2:l.getD j 0<l.getD a 0):i<j/\Pt a b (i+1) (j-1) (iO l i j):=by
 obtain⟨r,q,p,o,n,m⟩:=h;have f:i≠j:=λe=>by subst e;omega
 have s:=rU l i j o_ o_;refine⟨o_,o_,o_,o_,o_,λk d c=>?_,λk d c=>?_⟩;grind;grind
def aD7{a b i j:Nat}{l:V_}(s:b<=l.length)(h:Pt a b i j l)(g:j<i):aZ9 a b j (iO l j a):=by
 obtain⟨p,o,d,c,n,m⟩:=h;have r:=rU l j a o_ o_;have q:(iO l j a).getD j 0=l.getD a 0:=u_;refine⟨d,c,λk f e=>?_,λk f e=>?_⟩;grind;grind
def Pe(a b i j:Nat)(l:V_):Prop:=a<i/\i<=j+1/\a<=j/\j<b/\(∀k,a<k->k<i->l.getD k 0<=l.getD a 0)/\∀k,j<k->k<b->l.getD a 0<l.getD k 0
def aFu{a b i j:Nat}{l:V_}(u:b<=l.length)(h:Pe a b i j l)(m:i<=j)(h1:l.getD a 0<l.getD i 0)(h2:l.getD j 0<=l.getD a 0):i<j/\Pe a b (i+1) (j-1) (iO l i j)/\(iO l i j).getD a 0=l.getD a 0:=by
 obtain⟨s,r,q,p,o,n⟩:=h;have g:i≠j:=λe=>by subst e;omega
 have t:=rU l i j o_ o_;have c:(iO l i j).getD a 0=l.getD a 0:=m_;refine⟨o_,⟨o_,o_,o_,o_,λk f d=>?_,λk f d=>?_⟩,c⟩;grind;grind
def Bv{a b j:Nat}{l c:V_}(h:aZ9 a b j l)(m:b<=l.length)(g:PR a j l c):aZ9 a b j c:=by obtain⟨h1,h2,h3,i⟩:=h;have e:c.getD j 0=l.getD j 0:=g.2.1 j (.inr (cN _));refine⟨h1,h2,λk f d=>?_,λk f d=>?_⟩;rw[e];exact g.all o_ (Q:=λx=>x<=l.getD j 0) h3 k f d;rw[e,g.2.1 k (.inr o_)];exact i k f d
def AE{a b j:Nat}{l c:V_}(h:aZ9 a b j l)(m:b<=l.length)(f:PR (j+1) b l c):aZ9 a b j c:=by obtain⟨h1,h2,h3,o⟩:=h;have e:c.getD j 0=l.getD j 0:=f.2.1 j (.inl o_);refine⟨h1,h2,λk g d=>?_,λk g d=>?_⟩;rw[e,f.2.1 k (.inl o_)];exact h3 k g d;rw[e];exact f.all m (Q:=λx=>l.getD j 0<=x) (λi p n=>o i o_ n) k o_ d
def Bw{a b j:Nat}{l:V_}(h:aZ9 a b j l)(h1:SR a j l)(h2:SR (j+1) b l):SR a b l:=by obtain⟨n,m,k,i⟩:=h;intro p q f c d;by_cases o:p<j;by_cases g:q<j;exact h1 p q f c g;grind;by_cases e:p=j;grind;exact h2 p q o_ c d
def Dm{a b j:Nat}{l:V_}(h:aZ9 a b j l):SQ (j+1) b l:=.inr λi h1 h2=>h.2.2.2 i o_ h2
def Uc{a b i v:Nat}{c f:V_}(s:i<=b)(r:b<=c.length)(h1:∀k,a<=k->k<i->c.getD k 0<=v)(h2:∀k,i<=k->k<b->v<c.getD k 0)(h3:∀k,a<=k->k<b->v<=c.getD k 0)(h:PR i b c f)(m:SR i b f):SR a b f:=by intro p q l j g;have e:∀k,k<i->f.getD k 0=c.getD k 0:=λk o=>h.2.1 k (.inl o);by_cases d:p<i;rw[e p d];by_cases n:q<i;grind;exact uR (h1 p l d) (H9 (h.all r (Q:=λx=>v<x) h2 q o_ g));exact m p q o_ j g
section
variable{P:Program}{G:L_}{st:St}
def OF{t:Bool}{a b:HC}{K:St->Prop}{Q:Ex->St->Prop}(R:St->Prop)(h1:t=true->@cW P G a st ⟨@HH ⟨R⟩ ⟨Q⟩⟩)(h2:t=false->@cW P G b st ⟨@HH ⟨R⟩ ⟨Q⟩⟩)(c:∀s,R s->K s):
 @Gv t ⟨@cW P G a st ⟨@HH ⟨K⟩ ⟨Q⟩⟩⟩ ⟨@cW P G b st ⟨@HH ⟨K⟩ ⟨Q⟩⟩⟩ :=
 aL (λh=>cB R (h1 h) c) (λh=>cB R (h2 h) c)
end
structure GM where
 Cards:List CardM
 L:List OpM
 I:List Id
 Up:List (List Nat)
 In:List (List Bool)
 deriving DecidableEq,Inhabited
abbrev Sa(l:List Nat):AV:=.ls 1 (l.map λn:Nat=>[iv (n:Int)])
abbrev wI(l:List Bool):AV:=.ls 1 (l.map λb=>[AV.v (.bool b)])
def GM.A(g:GM):O_:=[.ls 5 (g.Cards.map CardM.A),.ls 27 (g.L.map OpM.A),ids g.I,.ls 1 (g.Up.map λl=>[Sa l]),.ls 1 (g.In.map λl=>[wI l])]
def GM.A_def(g:GM):g.A=[.ls 5 (g.Cards.map CardM.A),.ls 27 (g.L.map OpM.A),ids g.I,.ls 1 (g.Up.map λl=>[Sa l]),.ls 1 (g.In.map λl=>[wI l])]:=fI rfl rfl
def GM.g0(g:GM):g.A[0]?=some (.ls 5 (g.Cards.map CardM.A)):=fI rfl rfl
def GM.g1(g:GM):g.A[1]?=some (.ls 27 (g.L.map OpM.A)):=fI rfl rfl
def GM.g2(g:GM):g.A[2]?=some (ids g.I):=fI rfl rfl
def GM.g3(g:GM):g.A[3]?=some (.ls 1 (g.Up.map λl=>[Sa l])):=fI rfl rfl
def GM.g4(g:GM):g.A[4]?=some (.ls 1 (g.In.map λl=>[wI l])):=fI rfl rfl
def GM.len(g:GM):g.A.length=5:=fI rfl rfl
def GM.t5(g:GM):g.A.take 5=g.A:=fI rfl rfl
def GM.ids0(g:GM):iZ g.A=[]:=fI rfl rfl
attribute [go_sem] GM.g0 GM.g1 GM.g2 GM.g3 GM.g4 GM.len GM.t5 GM.ids0
def GM.one0(g:GM):g.A.all gS=true:=by simp[GM.A,gS]
def GM.one(g:GM):g.A.all gS=true:=GM.one0 g
def GM.rn(L:V_)(g:GM):xF L g.A=g.A:=fI rfl rfl
def GM.bk(L:V_)(n:Nat)(g:GM):EJ L n g.A=g.A:=fI rfl rfl
def GM.sl(i k:Nat)(es:N_)(g:GM):IB i k es g.A=g.A:=fI rfl rfl
attribute [go_sem] GM.one GM.rn GM.bk GM.sl
structure GM.ok(g:GM):Prop where
 n:g.L.length<=1000
 cn:g.Cards.length<=1000
 cs:∀c∈g.Cards,c.ok
 ops:∀o∈g.L,o.ok
 i:g.I.length=g.L.length
 is:∀x∈g.I,x.ok
 un:g.Up.length=g.L.length
 up:∀u∈g.Up,u.length<=1000/\∀k∈u,k<g.L.length
 inn:g.In.length=g.L.length
 ins:∀r∈g.In,r.length=g.L.length
def aW(I:D_)(x:Id):Int:=qX (λy=>decide (y=x)) I
def gM(cs:List CardM)(d:Int):CardM×Bool:=match cs.find? (λc=>c.Device==d) with|some c=>(c,true)|none=>(default,false)
def OG(c:List V_)(up:V_)(a:List Bool)(i:Nat):List Bool :=
 if(if decide (i∈up) then a.set i true else a).getD i false then(c.getD i []).foldl (λb k=>b.set k true) (if decide (i∈up) then a.set i true else a) else(if decide (i∈up) then a.set i true else a)
def Kx(b:List V_)(up:V_):Nat->List Bool->List Bool|0,a=>a|i+1,a=>Kx b up i (OG b up a i)
def oL(g:GM)(up:V_):List Bool:=Kx g.Up up g.L.length (List.replicate g.L.length false)
def I0(o:OpM)(e:OpM×Bool):Bool:=e.2&&e.1.By==o.By
def FT(L:List OpM)(o:OpM)(a:List Bool):Bool :=
 (L.zip a).all (λe=>!(I0 o e)||decide (e.1.Seq<o.Seq))&&((o.Seq==1)||(L.zip a).any λe=>I0 o e&&e.1.Seq==o.Seq-1)
def Pu(I:D_)(l:D_):Option V_:=if l.all (λx=>decide (0<=aW I x)) then some (l.map λx=>(aW I x).toNat) else none
def J0(g:GM)(o:OpM)(up:V_):Bool:=up.all λi=>(up.all λk=>!((g.In.getD i []).getD k false))&&!decide (o.At<(g.L.getD i default).At)
def OpM.e1(o:OpM):(o.A.drop 1)[0]?=some (iv o.Seq):=fI rfl rfl
def OpM.e2(o:OpM):(o.A.drop 2)[0]?=some (iv o.Kind):=fI rfl rfl
def OpM.e3(o:OpM):(o.A.drop 3)[0]?=some (iv o.At):=fI rfl rfl
def OpM.e4(o:OpM):(o.A.drop 4)[0]?=some (ids o.Past):=fI rfl rfl
def OpM.e5(o:OpM):(o.A.drop 5)[0]?=some (iv o.Device):=fI rfl rfl
def OpM.e6(o:OpM):(o.A.drop 6)[0]?=some (iv o.Old):=fI rfl rfl
def OpM.e7(o:OpM):(o.A.drop 7)[0]?=some (iv o.Member):=fI rfl rfl
def OpM.e8(o:OpM):(o.A.drop 8)[0]?=some (iv o.Role):=fI rfl rfl
def OpM.e9(o:OpM):(o.A.drop 9)[0]?=some (.ls 2 (o.Path.map NodeM.A)):=fI rfl rfl
def OpM.e13(o:OpM):(o.A.drop 13)[0]?=some (iv o.N):=fI rfl rfl
def OpM.e14(o:OpM):(o.A.drop 14)[0]?=some (.ls 1 (bl o.Body)):=fI rfl rfl
def OpM.e15(o:OpM):(o.A.drop 15)[0]?=some (.ls 1 (ul o.Refs)):=fI rfl rfl
def OpM.e19(o:OpM):(o.A.drop 19)[0]?=some (rG o.Guards):=fI rfl rfl
def OpM.e20(o:OpM):(o.A.drop 20)[0]?=some (iv o.Need):=fI rfl rfl
def OpM.e21(o:OpM):(o.A.drop 21)[0]?=some (iv o.Wait):=fI rfl rfl
def OpM.e22(o:OpM):(o.A.drop 22)[0]?=some (F5 o.Boxes):=fI rfl rfl
def OpM.e23(o:OpM):(o.A.drop 23)[0]?=some (uv o.Pub):=fI rfl rfl
def OpM.e24(o:OpM):(o.A.drop 24)[0]?=some (.ls 4 (o.Hist.map SealM.A)):=fI rfl rfl
def OpM.e25(o:OpM):(o.A.drop 25)[0]?=some (uv o.SR):=fI rfl rfl
def OpM.e26(o:OpM):(o.A.drop 26)[0]?=some (uv o.SS):=fI rfl rfl
attribute [go_sem] OpM.e1 OpM.e2 OpM.e3 OpM.e4 OpM.e5 OpM.e6 OpM.e7 OpM.e8 OpM.e9 OpM.e13 OpM.e14 OpM.e15 OpM.e19 OpM.e20 OpM.e21 OpM.e22 OpM.e23 OpM.e24 OpM.e25 OpM.e26
abbrev fu(a:Fq):Value:=.int .u64 (a.val:Int)
def FU(a:Fq):a.val<2305843009213693951:=a.isLt
def aJX(a:Fq):aA PQ G gV [.v (fu a)] [] λr b=>r=.v (fu a)/\b=[]:=by have:=Gy G a.val (by have:=FU a;omega);rwa[EZ (show a.val<FP from a.isLt)]at this
def aJY(a b:Fq):aA PQ G Br [.v (fu a),.v (fu b)] [] λr c=>r=.v (fu (a+b))/\c=[]:=
 aJT G a.val b.val (by have:=FU a;omega) (by have:=FU b;omega)
def Ud(a b:Fq):aA PQ G qW [.v (fu a),.v (fu b)] [] λr c=>r=.v (fu (a*b))/\c=[]:=
 aJU G a.val b.val (by have:=FU a;omega) (by have:=FU b;omega)
def aAE(a n:Nat):aA PQ G yQ [.v (.int .u64 (a:Int)),.v (.int .u64 (n:Int))] [] λr b=>r=.cl vE [.ptr 0 0,.ptr 1 0]/\b=[some (.box [.v (.int .u64 (a:Int))]),some (.box [.v (.int .u64 (n:Int))])]:=by refine aC HX ?_;simp only[go_sem]
def aJZ(a:Fq):1*a=a:=Fin.one_mul a
def aHZ(a:Fq):a*1=a:=Fin.mul_one a
def aH0(a b c:Fq):a*b*c=a*(b*c):=Fin.mul_assoc a b c
def aH1(a b:Fq):a*b=b*a:=Fin.mul_comm a b
def aK0(a:Fq):a^1=a:=m_
def OH(a:Fq):a^0=1:=m_
def aAF(x:Nat)(b:x<2^64):bV .and (.int .u64 (x:Int)) (.int .u64 1)=some (.int .u64 ((x%2:Nat):Int)):=by
 have h1:(BitVec.ofInt 64 (x:Int)).toNat=x:=u_;have h2:(BitVec.ofInt 64 1).toNat=2^1-1:=d_;have h3:(BitVec.ofInt 64 (x:Int) &&& BitVec.ofInt 64 1).toNat=x%2:=s_;have a:bV .and (.int .u64 (x:Int)) (.int .u64 1)=some (.int .u64 (IntKind.u64.wrap ((BitVec.ofInt 64 (x:Int) &&& BitVec.ofInt 64 1).toNat:Int))):=Y_;rw[a,h3,bS _ o_]
def Qu(x:Nat):bV .shr (.int .u64 (x:Int)) (.int .u64 1)=some (.int .u64 ((x/2:Nat):Int)):=by
 have:(x:Int).fdiv (2^min 1 64)=((x/2:Nat):Int):=m_;rw[<-this];simp only[bV];rfl
def aD8 (a:Fq) (n:Nat) (j:n<2^64):aA PQ G xU [.v (fu a),.v (.int .u64 (n:Int))] [] λr p=>r=.v (fu (a^n))/\p=[]:=by
 apply aC N5;simp only[go_sem];apply kM (aAE a.val n);simp only[go_sem];refine NX rfl (vZ yA) λr h1 h2 h g=>?_;simp only[go_sem];refine Ic [0,1,2,3] (aB _) d_ (λi l=>by simp at l⊢;omega) rfl rfl (aC yA ?_);simp only[go_sem];apply cX (aJX a);simp only[go_sem];refine cO (λm s=>∃out b:Fq,out*b^m=a^n/\m<2^64/\s=⟨4,[(0,.yl 3),(2,.ptr 2 0),(4,.v (fu b))],[some (.box [.v (fu out)]),some (.box [.v (fu a)]),some (.box [.v (.int .u64 (m:Int))]),some (.lp r [(5,.ptr 0 0)])]⟩) n ⟨1,a,aJZ _,j,?_⟩ ?_;simp only[go_sem];rfl;rintro m s ⟨out,b,d,k,rfl⟩;rcases JX m with rfl|c;have f:decide (((0:Nat):Int)>0)=false:=d_;simp only[go_sem,h1,h2];have:out=a^n:=by rw[<-d,OH,aHZ]
 subst this;rfl;have f:decide ((m:Int)>0)=true:=oy;have o:=aAF m k;simp only[go_sem,f,↓o];apply h _ _ _ _ _ rfl rfl;simp only[go_sem];refine aL (λe=>?_) (λe=>?_);simp only[go_sem];apply cX (Ud out b);simp only[go_sem];apply cX (Ud b b);simp only[↓Qu,go_sem];refine⟨m/2,o_,out*b,b*b,?_,o_,rfl⟩;have h3:m%2=1:=by simp at e;omega
 rw[<-d,MD b m,h3,aH0,aK0,aH1 b];simp only[go_sem];apply cX (Ud b b);simp only[↓Qu,go_sem];refine⟨m/2,o_,out,b*b,?_,o_,rfl⟩;have h3:m%2=0:=by simp at e;omega
 rw[<-d,MD b m,h3,OH,aHZ]
def mD(x m:Nat)(h:m≠0):bV .rem (.int .u64 (x:Int)) (.int .u64 (m:Int))=some (.int .u64 ((x%m:Nat):Int)):=by grind[bV]
def Cp(x m:Nat)(h:m≠0)(a:x<2^64):bV .quo (.int .u64 (x:Int)) (.int .u64 (m:Int))=some (.int .u64 ((x/m:Nat):Int)):=by
 have:(m:Int)≠0:=o_;have h2:x/m<2^64:=QJ (Ml _ _) a;simp only[bV,if_true,if_neg this];rw[Int.tdiv_eq_ediv_of_nonneg o_,<-Int.natCast_ediv,bS _ h2]
def GE(x:Nat):bV .rem (.int .u64 (x:Int)) (.int .u64 2305843009213693951)=some (.int .u64 ((x%2305843009213693951:Nat):Int)):=mD x 2305843009213693951 d_
def Wt(x:Nat):bV .rem (.int .u64 (x:Int)) (.int .u64 4294967296)=some (.int .u64 ((x%2^32:Nat):Int)):=mD x 4294967296 d_
def Wu(x:Nat):bV .rem (.int .u64 (x:Int)) (.int .u64 536870912)=some (.int .u64 ((x%536870912:Nat):Int)):=mD x 536870912 d_
def aAG(x:Nat):bV .rem (.int .u64 (x:Int)) (.int .u64 2)=some (.int .u64 ((x%2:Nat):Int)):=mD x 2 d_
def OI(x:Nat)(a:x<2^64):bV .quo (.int .u64 (x:Int)) (.int .u64 4294967296)=some (.int .u64 ((x/2^32:Nat):Int)):=Cp x 4294967296 d_ a
def Wv(x:Nat)(a:x<2^64):bV .quo (.int .u64 (x:Int)) (.int .u64 536870912)=some (.int .u64 ((x/536870912:Nat):Int)):=Cp x 536870912 d_ a
def aAH(x:Nat)(a:x<2^64):bV .quo (.int .u64 (x:Int)) (.int .u64 2)=some (.int .u64 ((x/2:Nat):Int)):=Cp x 2 d_ a
def Ww(x:Nat)(h:x*2^32<2^64):bV .mul (.int .u64 (x:Int)) (.int .u64 4294967296)=some (.int .u64 ((x*2^32:Nat):Int)):=lE x 4294967296 h
def aAI(x:Nat)(h:8*x<2^64):bV .mul (.int .u64 8) (.int .u64 (x:Int))=some (.int .u64 ((8*x:Nat):Int)):=lE 8 x h
def aH2(a b:Fq):aA PQ G GB [.v (fu a),.v (fu b)] [] λr h=>r=.v (fu (a+b))/\h=[]:=by refine aC SN ?_;have f:=FU a;have e:=FU b;have d:a.val%2305843009213693951=a.val:=EZ f;have c:b.val%2305843009213693951=b.val:=EZ e;have g:=eY a.val b.val o_;simp only[↓GE,d,c,↓g,go_sem];rfl
def aD9(x y:Nat)(l h m:Nat)(b:l=x%2^32*(y%2^32))(a:m=x/2^32*(y%2^32)+x%2^32*(y/2^32))(c:h=x/2^32*(y/2^32)):
 (l%2305843009213693951+m%536870912*2^32+m/536870912+8*h)%2305843009213693951=x*y%2305843009213693951:=by
 rw[Qm x y,<-b,<-a,<-c];omega
def Ue(a b:Fq):aA PQ G AX [.v (fu a),.v (fu b)] [] λr I=>r=.v (fu (a*b))/\I=[]:=by
 apply aC SL;have f:=FU a;have H:=FU b;have e:(a*b).val=a.val*b.val%2305843009213693951:=rfl;unfold fu;rw[e];generalize a.val=x at *
 generalize b.val=y at *
 have B:x%2305843009213693951=x:=EZ f;have z:y%2305843009213693951=y:=EZ H;have d:∀a c A C:Nat,a<=A->c<=C->a*c<=A*C:=λa c A C f F=>aJh f F;have M:=d (x%2^32) (y%2^32) 4294967295 4294967295 o_ o_;have L:=d (x/2^32) (y%2^32) 536870911 4294967295 o_ o_;have K:=d (x%2^32) (y/2^32) 4294967295 536870911 o_ o_;have J:=d (x/2^32) (y/2^32) 536870911 536870911 o_ o_;have p:=OI x o_;have q2:=OI y o_;have w:=lE (x%2^32) (y%2^32) o_;have u:=lE (x/2^32) (y%2^32) o_;have t:=lE (x%2^32) (y/2^32) o_;have s:=lE (x/2^32) (y/2^32) o_;have q:=eY (x/2^32*(y%2^32)) (x%2^32*(y/2^32)) o_;have D:x/2^32*(y%2^32)+x%2^32*(y/2^32)<=4611686008763711490:=o_;have E:=aD9 x y _ _ _ rfl rfl rfl;generalize x%2^32*(y%2^32)=l at *
 generalize x/2^32*(y%2^32)+x%2^32*(y/2^32)=m at *
 generalize x/2^32*(y/2^32)=h at *
 have o:=Ww (m%536870912) o_;have n:=eY (l%2305843009213693951) (m%536870912*2^32) o_;have k:=Wv m o_;have j:=eY (l%2305843009213693951+m%536870912*2^32) (m/536870912) o_;have i:=aAI h o_;have g:=eY (l%2305843009213693951+m%536870912*2^32+m/536870912) (8*h) o_;simp only[↓GE,B,z,↓Wt,↓p,↓q2,↓w,↓u,↓t,↓s,↓q,↓Wu,↓o,↓n,↓k,↓j,↓i,↓g,go_sem,E]
def Uf (a:Fq) (n:Nat) (i:n<2^64):aA PQ G wD [.v (fu a),.v (.int .u64 (n:Int))] [] λr l=>r=.v (fu (a^n))/\l=[]:=by
 apply aC SO;have h:a.val%2305843009213693951=a.val:=EZ (FU a);simp only[↓GE,h,go_sem];refine cO (λm s=>∃out b:Fq,out*b^m=a^n/\m<2^64/\s=⟨0,[(5,.v (fu out)),(6,.v (fu b)),(7,.v (.int .u64 (m:Int)))],[]⟩) n ⟨1,a,aJZ _,i,?_⟩ ?_;rfl;rintro m s ⟨out,b,e,j,rfl⟩;rcases JX m with rfl|c;have f:decide (((0:Nat):Int)>0)=false:=d_;have:out=a^n:=m_;subst this;simp only[go_sem];have f:decide ((m:Int)>0)=true:=oy;have k:=aAG m;have g:=aAH m j;simp only[go_sem,f,↓k];refine aL (λd=>?_) (λd=>?_);have h3:m%2=1:=by simp at d;omega
 simp only[go_sem];apply cX (Ue out b);simp only[go_sem];apply cX (Ue b b);simp only[go_sem,↓g];refine⟨m/2,o_,out*b,b*b,?_,o_,rfl⟩;rw[<-e,MD b m,h3,aH0,aK0,aH1 b];have h3:m%2=0:=by simp at d;omega
 simp only[go_sem];apply cX (Ue b b);simp only[go_sem,↓g];refine⟨m/2,o_,out,b*b,?_,o_,rfl⟩;rw[<-e,MD b m,h3,OH,aHZ]
end Hud
