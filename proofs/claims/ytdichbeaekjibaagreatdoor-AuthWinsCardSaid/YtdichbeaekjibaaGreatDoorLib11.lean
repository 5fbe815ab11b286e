import Derived.Test.YtdichbeaekjibaaGreatDoorLib10
set_option linter.all false
set_option maxHeartbeats 40000000
namespace Hud
open Go
variable{G:L_}
def Ws(x y:Nat)(h:y<=x)(h2:x<18446744073709551616):bV .sub (.int .u64 (x:Int)) (.int .u64 (y:Int))=some (.int .u64 ((x-y:Nat):Int)):=by simp only[bV,if_true];rw[show(x:Int)-(y:Int)=((x-y:Nat):Int) from by omega,bS _ (by omega)]
def Pt(a b i j:Nat)(l:V_):Prop:=a<i/\i<=j+1/\a<=j/\j<b/\(∀k,a<k->k<i->l.getD k 0<=l.getD a 0)/\∀k,j<k->k<b->l.getD a 0<=l.getD k 0
def aZ9(a b j:Nat)(l:V_):Prop:=a<=j/\j<b/\(∀k,a<=k->k<j->l.getD k 0<=l.getD j 0)/\∀k,j<k->k<b->l.getD j 0<=l.getD k 0
def Y4{a b i j:Nat}{l:V_}(t:b<=l.length)(h:Pt a b i j l)(g:i<=j)(h1:l.getD a 0<=l.getD i 0)(h2:l.getD j 0<l.getD a 0):i<j/\Pt a b (i+1) (j-1) (iO l i j):=by
 obtain⟨r,q,p,o,n,m⟩:=h;have f:i≠j:=λe=>by subst e;omega
 have s:=rU l i j (by omega) (by omega);refine⟨by omega,by omega,by omega,by omega,by omega,λk d c=>?_,λk d c=>?_⟩;grind;grind
def aD7{a b i j:Nat}{l:V_}(s:b<=l.length)(h:Pt a b i j l)(g:j<i):aZ9 a b j (iO l j a):=by
 obtain⟨p,o,d,c,n,m⟩:=h;have r:=rU l j a (by omega) (by omega);have q:(iO l j a).getD j 0=l.getD a 0:=by simp_all
 refine⟨d,c,λk f e=>?_,λk f e=>?_⟩;grind;grind
def Pe(a b i j:Nat)(l:V_):Prop:=a<i/\i<=j+1/\a<=j/\j<b/\(∀k,a<k->k<i->l.getD k 0<=l.getD a 0)/\∀k,j<k->k<b->l.getD a 0<l.getD k 0
def aFu{a b i j:Nat}{l:V_}(u:b<=l.length)(h:Pe a b i j l)(m:i<=j)(h1:l.getD a 0<l.getD i 0)(h2:l.getD j 0<=l.getD a 0):i<j/\Pe a b (i+1) (j-1) (iO l i j)/\(iO l i j).getD a 0=l.getD a 0:=by
 obtain⟨s,r,q,p,o,n⟩:=h;have g:i≠j:=λe=>by subst e;omega
 have t:=rU l i j (by omega) (by omega);have c:(iO l i j).getD a 0=l.getD a 0:=by grind
 refine⟨by omega,⟨by omega,by omega,by omega,by omega,λk f d=>?_,λk f d=>?_⟩,c⟩;grind;grind
def Bv{a b j:Nat}{l c:V_}(h:aZ9 a b j l)(i:b<=l.length)(g:PR a j l c):aZ9 a b j c:=by obtain⟨h1,h2,h3,h4⟩:=h;have e:c.getD j 0=l.getD j 0:=g.2.1 j (.inr (cN _));refine⟨h1,h2,λk f d=>?_,λk f d=>?_⟩;rw[e];exact g.all (by omega) (Q:=λx=>x<=l.getD j 0) h3 k f d;rw[e,g.2.1 k (.inr (by omega))];exact h4 k f d
def AE{a b j:Nat}{l c:V_}(h:aZ9 a b j l)(m:b<=l.length)(f:PR (j+1) b l c):aZ9 a b j c:=by obtain⟨h1,h2,h3,h4⟩:=h;have e:c.getD j 0=l.getD j 0:=f.2.1 j (.inl (by omega));refine⟨h1,h2,λk g d=>?_,λk g d=>?_⟩;rw[e,f.2.1 k (.inl (by omega))];exact h3 k g d;rw[e];exact f.all m (Q:=λx=>l.getD j 0<=x) (λi h5 h6=>h4 i (by omega) h6) k (by omega) d
def Bw{a b j:Nat}{l:V_}(h:aZ9 a b j l)(h1:SR a j l)(h2:SR (j+1) b l):SR a b l:=by obtain⟨n,m,k,i⟩:=h;intro p q f c d;by_cases o:p<j;by_cases g:q<j;exact h1 p q f c g;grind;by_cases e:p=j;grind;exact h2 p q (by omega) c d
def Dm{a b j:Nat}{l:V_}(h:aZ9 a b j l):SQ (j+1) b l:=.inr λi h1 h2=>h.2.2.2 i (by omega) h2
def Uc{a b i v:Nat}{c f:V_}(s:i<=b)(r:b<=c.length)(h1:∀k,a<=k->k<i->c.getD k 0<=v)(h2:∀k,i<=k->k<b->v<c.getD k 0)(h3:∀k,a<=k->k<b->v<=c.getD k 0)(h:PR i b c f)(m:SR i b f):SR a b f:=by intro p q l j g;have e:∀k,k<i->f.getD k 0=c.getD k 0:=λk o=>h.2.1 k (.inl o);by_cases d:p<i;rw[e p d];by_cases n:q<i;grind;exact uR (h1 p l d) (H9 (h.all r (Q:=λx=>v<x) h2 q (by omega) g));exact m p q (by omega) j g
section
variable{P:Program}{G:L_}{st:St}
def OF{t:Bool}{a b:HC}{K:St->Prop}{Q:Ex->St->Prop}(R:St->Prop)(h1:t=true->@cW P G a st ⟨@HH ⟨R⟩ ⟨Q⟩⟩)(h2:t=false->@cW P G b st ⟨@HH ⟨R⟩ ⟨Q⟩⟩)(c:∀s,R s->K s):
 @Gv t ⟨@cW P G a st ⟨@HH ⟨K⟩ ⟨Q⟩⟩⟩ ⟨@cW P G b st ⟨@HH ⟨K⟩ ⟨Q⟩⟩⟩ :=
 aL (λh=>cB R (h1 h) c) (λh=>cB R (h2 h) c)
end
structure GM where
 Cards:List CardM
 L:List OpM
 I:List Id
 Up:List (List Nat)
 In:List (List Bool)
 deriving DecidableEq,Inhabited
abbrev Sa(l:List Nat):AV:=.ls 1 (l.map λn:Nat=>[iv (n:Int)])
abbrev wI(l:List Bool):AV:=.ls 1 (l.map λb=>[AV.v (.bool b)])
def GM.A(g:GM):O_:=[.ls 5 (g.Cards.map CardM.A),.ls 27 (g.L.map OpM.A),ids g.I,.ls 1 (g.Up.map λl=>[Sa l]),.ls 1 (g.In.map λl=>[wI l])]
def GM.A_def(g:GM):g.A=[.ls 5 (g.Cards.map CardM.A),.ls 27 (g.L.map OpM.A),ids g.I,.ls 1 (g.Up.map λl=>[Sa l]),.ls 1 (g.In.map λl=>[wI l])]:=fI rfl rfl
@[go_sem] def GM.g0(g:GM):g.A[0]?=some (.ls 5 (g.Cards.map CardM.A)):=fI rfl rfl
@[go_sem] def GM.g1(g:GM):g.A[1]?=some (.ls 27 (g.L.map OpM.A)):=fI rfl rfl
@[go_sem] def GM.g2(g:GM):g.A[2]?=some (ids g.I):=fI rfl rfl
@[go_sem] def GM.g3(g:GM):g.A[3]?=some (.ls 1 (g.Up.map λl=>[Sa l])):=fI rfl rfl
@[go_sem] def GM.g4(g:GM):g.A[4]?=some (.ls 1 (g.In.map λl=>[wI l])):=fI rfl rfl
@[go_sem] def GM.len(g:GM):g.A.length=5:=fI rfl rfl
@[go_sem] def GM.t5(g:GM):g.A.take 5=g.A:=fI rfl rfl
@[go_sem] def GM.ids0(g:GM):iZ g.A=[]:=fI rfl rfl
def GM.one0(g:GM):g.A.all gS=true:=by simp[GM.A,gS]
@[go_sem] def GM.one(g:GM):g.A.all gS=true:=GM.one0 g
@[go_sem] def GM.rn(L:V_)(g:GM):xF L g.A=g.A:=fI rfl rfl
@[go_sem] def GM.bk(L:V_)(n:Nat)(g:GM):EJ L n g.A=g.A:=fI rfl rfl
@[go_sem] def GM.sl(i k:Nat)(es:N_)(g:GM):IB i k es g.A=g.A:=fI rfl rfl
structure GM.ok(g:GM):Prop where
 n:g.L.length<=1000
 cn:g.Cards.length<=1000
 cs:∀c∈g.Cards,c.ok
 ops:∀o∈g.L,o.ok
 i:g.I.length=g.L.length
 is:∀x∈g.I,x.ok
 un:g.Up.length=g.L.length
 up:∀u∈g.Up,u.length<=1000/\∀k∈u,k<g.L.length
 inn:g.In.length=g.L.length
 ins:∀r∈g.In,r.length=g.L.length
def aW(I:D_)(x:Id):Int:=qX (λy=>decide (y=x)) I
def gM(cs:List CardM)(d:Int):CardM×Bool:=match cs.find? (λc=>c.Device==d) with|some c=>(c,true)|none=>(default,false)
def OG(c:List V_)(up:V_)(a:List Bool)(i:Nat):List Bool :=
 if(if decide (i∈up) then a.set i true else a).getD i false then(c.getD i []).foldl (λb k=>b.set k true) (if decide (i∈up) then a.set i true else a) else(if decide (i∈up) then a.set i true else a)
def Kx(b:List V_)(up:V_):Nat->List Bool->List Bool
 |0,a=>a
 |i+1,a=>Kx b up i (OG b up a i)
def oL(g:GM)(up:V_):List Bool:=Kx g.Up up g.L.length (List.replicate g.L.length false)
def I0(o:OpM)(e:OpM×Bool):Bool:=e.2&&e.1.By==o.By
def FT(L:List OpM)(o:OpM)(a:List Bool):Bool :=
 (L.zip a).all (λe=>!(I0 o e)||decide (e.1.Seq<o.Seq))&&((o.Seq==1)||(L.zip a).any λe=>I0 o e&&e.1.Seq==o.Seq-1)
def Pu(I:D_)(l:D_):Option V_:=if l.all (λx=>decide (0<=aW I x)) then some (l.map λx=>(aW I x).toNat) else none
def J0(g:GM)(o:OpM)(up:V_):Bool:=up.all λi=>(up.all λk=>!((g.In.getD i []).getD k false))&&!decide (o.At<(g.L.getD i default).At)
@[go_sem] def OpM.e1(o:OpM):(o.A.drop 1)[0]?=some (iv o.Seq):=fI rfl rfl
@[go_sem] def OpM.e2(o:OpM):(o.A.drop 2)[0]?=some (iv o.Kind):=fI rfl rfl
@[go_sem] def OpM.e3(o:OpM):(o.A.drop 3)[0]?=some (iv o.At):=fI rfl rfl
@[go_sem] def OpM.e4(o:OpM):(o.A.drop 4)[0]?=some (ids o.Past):=fI rfl rfl
abbrev fu(a:Fq):Value:=.int .u64 (a.val:Int)
def FU(a:Fq):a.val<2305843009213693951:=a.isLt
def aJX(a:Fq):aA PQ G gV [.v (fu a)] [] λr b=>r=.v (fu a)/\b=[]:=by have:=Gy G a.val (by have:=FU a;omega);rwa[EZ (show a.val<FP from a.isLt)]at this
def aJY(a b:Fq):aA PQ G Br [.v (fu a),.v (fu b)] [] λr c=>r=.v (fu (a+b))/\c=[]:=
 aJT G a.val b.val (by have:=FU a;omega) (by have:=FU b;omega)
def Ud(a b:Fq):aA PQ G qW [.v (fu a),.v (fu b)] [] λr c=>r=.v (fu (a*b))/\c=[]:=
 aJU G a.val b.val (by have:=FU a;omega) (by have:=FU b;omega)
def aAE(a n:Nat):aA PQ G yQ [.v (.int .u64 (a:Int)),.v (.int .u64 (n:Int))] [] λr b=>r=.cl vE [.ptr 0 0,.ptr 1 0]/\b=[some (.box [.v (.int .u64 (a:Int))]),some (.box [.v (.int .u64 (n:Int))])]:=by refine aC HX ?_;simp only[go_sem]
def aJZ(a:Fq):1*a=a:=Fin.one_mul a
def aHZ(a:Fq):a*1=a:=Fin.mul_one a
def aH0(a b c:Fq):a*b*c=a*(b*c):=Fin.mul_assoc a b c
def aH1(a b:Fq):a*b=b*a:=Fin.mul_comm a b
def aK0(a:Fq):a^1=a:=by grind
def OH(a:Fq):a^0=1:=by grind
def aAF(x:Nat)(a:x<18446744073709551616):bV .and (.int .u64 (x:Int)) (.int .u64 1)=some (.int .u64 ((x%2:Nat):Int)):=by
 have h1:(BitVec.ofInt 64 (x:Int)).toNat=x:=by simp_all
 have h2:(BitVec.ofInt 64 1).toNat=2^1-1:=by decide
 have h3:(BitVec.ofInt 64 (x:Int) &&& BitVec.ofInt 64 1).toNat=x%2:=by simp
 have h4:bV .and (.int .u64 (x:Int)) (.int .u64 1)=some (.int .u64 (IntKind.u64.wrap ((BitVec.ofInt 64 (x:Int) &&& BitVec.ofInt 64 1).toNat:Int))):=by rfl
 rw[h4,h3,bS _ (by omega)]
def Qu(x:Nat):bV .shr (.int .u64 (x:Int)) (.int .u64 1)=some (.int .u64 ((x/2:Nat):Int)):=by
 have:(x:Int).fdiv (2^min 1 64)=((x/2:Nat):Int):=by grind
 rw[<-this];simp only[bV];rfl
def aD8 (a:Fq) (n:Nat) (k:n<18446744073709551616):aA PQ G xU [.v (fu a),.v (.int .u64 (n:Int))] [] λr q=>r=.v (fu (a^n))/\q=[]:=by
 refine aC N5 ?_;simp only[go_sem];refine kM (aAE a.val n) ?_;simp only[go_sem];refine NX rfl (vZ yA) λr h1 h2 j h=>?_;simp only[go_sem];refine Ic [0,1,2,3] (aB _) (by decide) (λi o=>by simp at o⊢;omega) rfl rfl (aC yA ?_);simp only[go_sem];refine cX (aJX a) ?_;simp only[go_sem];refine cO (λm s=>∃c b:Fq,c*b^m=a^n/\m<18446744073709551616/\s=⟨4,[(0,.yl 3),(2,.ptr 2 0),(4,.v (fu b))],[some (.box [.v (fu c)]),some (.box [.v (fu a)]),some (.box [.v (.int .u64 (m:Int))]),some (.lp r [(5,.ptr 0 0)])]⟩) n ⟨1,a,aJZ _,k,?_⟩ ?_;simp only[go_sem];rfl;rintro m s ⟨c,b,e,l,rfl⟩;rcases JX m with rfl|d;have g:decide (((0:Nat):Int)>0)=false:=by decide
 simp only[go_sem,h1,h2];have:c=a^n:=by rw[<-e,OH,aHZ]
 subst this;rfl;have g:decide ((m:Int)>0)=true:=by simpa using d
 have p:=aAF m l;simp only[go_sem,g,↓p];refine j _ _ _ _ _ rfl rfl ?_;simp only[go_sem];refine aL (λf=>?_) (λf=>?_);simp only[go_sem];refine cX (Ud c b) ?_;simp only[go_sem];refine cX (Ud b b) ?_;simp only[↓Qu,go_sem];refine⟨m/2,by omega,c*b,b*b,?_,by omega,rfl⟩;have h3:m%2=1:=by simp at f;omega
 rw[<-e,MD b m,h3,aH0,aK0,aH1 b];simp only[go_sem];refine cX (Ud b b) ?_;simp only[↓Qu,go_sem];refine⟨m/2,by omega,c,b*b,?_,by omega,rfl⟩;have h3:m%2=0:=by simp at f;omega
 rw[<-e,MD b m,h3,OH,aHZ]
def mD(x m:Nat)(h:m≠0):bV .rem (.int .u64 (x:Int)) (.int .u64 (m:Int))=some (.int .u64 ((x%m:Nat):Int)):=by grind[bV]
def Cp(x m:Nat)(h:m≠0)(a:x<18446744073709551616):bV .quo (.int .u64 (x:Int)) (.int .u64 (m:Int))=some (.int .u64 ((x/m:Nat):Int)):=by
 have:(m:Int)≠0:=by omega
 have h2:x/m<18446744073709551616:=QJ (Ml _ _) a;simp only[bV,if_true,if_neg this];rw[Int.tdiv_eq_ediv_of_nonneg (by omega),<-Int.natCast_ediv,bS _ h2]
def GE(x:Nat):bV .rem (.int .u64 (x:Int)) (.int .u64 2305843009213693951)=some (.int .u64 ((x%2305843009213693951:Nat):Int)):=mD x 2305843009213693951 (by decide)
def Wt(x:Nat):bV .rem (.int .u64 (x:Int)) (.int .u64 4294967296)=some (.int .u64 ((x%4294967296:Nat):Int)):=mD x 4294967296 (by decide)
def Wu(x:Nat):bV .rem (.int .u64 (x:Int)) (.int .u64 536870912)=some (.int .u64 ((x%536870912:Nat):Int)):=mD x 536870912 (by decide)
def aAG(x:Nat):bV .rem (.int .u64 (x:Int)) (.int .u64 2)=some (.int .u64 ((x%2:Nat):Int)):=mD x 2 (by decide)
def OI(x:Nat)(a:x<18446744073709551616):bV .quo (.int .u64 (x:Int)) (.int .u64 4294967296)=some (.int .u64 ((x/4294967296:Nat):Int)):=Cp x 4294967296 (by decide) a
def Wv(x:Nat)(a:x<18446744073709551616):bV .quo (.int .u64 (x:Int)) (.int .u64 536870912)=some (.int .u64 ((x/536870912:Nat):Int)):=Cp x 536870912 (by decide) a
def aAH(x:Nat)(a:x<18446744073709551616):bV .quo (.int .u64 (x:Int)) (.int .u64 2)=some (.int .u64 ((x/2:Nat):Int)):=Cp x 2 (by decide) a
def Ww(x:Nat)(h:x*4294967296<18446744073709551616):bV .mul (.int .u64 (x:Int)) (.int .u64 4294967296)=some (.int .u64 ((x*4294967296:Nat):Int)):=lE x 4294967296 h
def aAI(x:Nat)(h:8*x<18446744073709551616):bV .mul (.int .u64 8) (.int .u64 (x:Int))=some (.int .u64 ((8*x:Nat):Int)):=lE 8 x h
def aH2(a b:Fq):aA PQ G GB [.v (fu a),.v (fu b)] [] λr h=>r=.v (fu (a+b))/\h=[]:=by refine aC SN ?_;have f:=FU a;have e:=FU b;have d:a.val%2305843009213693951=a.val:=EZ f;have c:b.val%2305843009213693951=b.val:=EZ e;have g:=eY a.val b.val (by omega);simp only[↓GE,d,c,↓g,go_sem];rfl
def aD9(x y:Nat)(l h m:Nat)(b:l=x%4294967296*(y%4294967296))(a:m=x/4294967296*(y%4294967296)+x%4294967296*(y/4294967296))(c:h=x/4294967296*(y/4294967296)):
 (l%2305843009213693951+m%536870912*4294967296+m/536870912+8*h)%2305843009213693951=x*y%2305843009213693951:=by
 rw[Qm x y,<-b,<-a,<-c];omega
def Ue(a b:Fq):aA PQ G AX [.v (fu a),.v (fu b)] [] λr H=>r=.v (fu (a*b))/\H=[]:=by
 refine aC SL ?_;have f:=FU a;have F:=FU b;have e:(a*b).val=a.val*b.val%2305843009213693951:=rfl;unfold fu;rw[e];generalize a.val=x at *
 generalize b.val=y at *
 have z:x%2305843009213693951=x:=EZ f;have w:y%2305843009213693951=y:=EZ F;have d:∀a c A C:Nat,a<=A->c<=C->a*c<=A*C:=λa c A C f E=>aJh f E;have L:=d (x%4294967296) (y%4294967296) 4294967295 4294967295 (by omega) (by omega);have K:=d (x/4294967296) (y%4294967296) 536870911 4294967295 (by omega) (by omega);have J:=d (x%4294967296) (y/4294967296) 4294967295 536870911 (by omega) (by omega);have I:=d (x/4294967296) (y/4294967296) 536870911 536870911 (by omega) (by omega);have q1:=OI x (by omega);have q2:=OI y (by omega);have u:=lE (x%4294967296) (y%4294967296) (by omega);have t:=lE (x/4294967296) (y%4294967296) (by omega);have s:=lE (x%4294967296) (y/4294967296) (by omega);have q:=lE (x/4294967296) (y/4294967296) (by omega);have p:=eY (x/4294967296*(y%4294967296)) (x%4294967296*(y/4294967296)) (by omega);have B:x/4294967296*(y%4294967296)+x%4294967296*(y/4294967296)<=4611686008763711490:=by omega
 have D:=aD9 x y _ _ _ rfl rfl rfl;generalize x%4294967296*(y%4294967296)=l at *
 generalize x/4294967296*(y%4294967296)+x%4294967296*(y/4294967296)=m at *
 generalize x/4294967296*(y/4294967296)=h at *
 have o:=Ww (m%536870912) (by omega);have n:=eY (l%2305843009213693951) (m%536870912*4294967296) (by omega);have k:=Wv m (by omega);have j:=eY (l%2305843009213693951+m%536870912*4294967296) (m/536870912) (by omega);have i:=aAI h (by omega);have g:=eY (l%2305843009213693951+m%536870912*4294967296+m/536870912) (8*h) (by omega);simp only[↓GE,z,w,↓Wt,↓q1,↓q2,↓u,↓t,↓s,↓q,↓p,↓Wu,↓o,↓n,↓k,↓j,↓i,↓g,go_sem,D]
def Uf (a:Fq) (n:Nat) (j:n<18446744073709551616):aA PQ G wD [.v (fu a),.v (.int .u64 (n:Int))] [] λr o=>r=.v (fu (a^n))/\o=[]:=by
 refine aC SO ?_;have i:a.val%2305843009213693951=a.val:=EZ (FU a);simp only[↓GE,i,go_sem];refine cO (λm s=>∃c b:Fq,c*b^m=a^n/\m<18446744073709551616/\s=⟨0,[(5,.v (fu c)),(6,.v (fu b)),(7,.v (.int .u64 (m:Int)))],[]⟩) n ⟨1,a,aJZ _,j,?_⟩ ?_;rfl;rintro m s ⟨c,b,f,k,rfl⟩;rcases JX m with rfl|d;have g:decide (((0:Nat):Int)>0)=false:=by decide
 have:c=a^n:=by grind
 subst this;simp only[go_sem];have g:decide ((m:Int)>0)=true:=by simpa using d
 have l:=aAG m;have h:=aAH m k;simp only[go_sem,g,↓l];refine aL (λe=>?_) (λe=>?_);have h3:m%2=1:=by simp at e;omega
 simp only[go_sem];refine cX (Ue c b) ?_;simp only[go_sem];refine cX (Ue b b) ?_;simp only[go_sem,↓h];refine⟨m/2,by omega,c*b,b*b,?_,by omega,rfl⟩;rw[<-f,MD b m,h3,aH0,aK0,aH1 b];have h3:m%2=0:=by simp at e;omega
 simp only[go_sem];refine cX (Ue b b) ?_;simp only[go_sem,↓h];refine⟨m/2,by omega,c,b*b,?_,by omega,rfl⟩;rw[<-f,MD b m,h3,OH,aHZ]
end Hud
