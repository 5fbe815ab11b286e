import Derived.Test.YtfbnbkidnmhhoaaGreatDoorLib23
set_option linter.all false
set_option maxHeartbeats 40000000
namespace Hud
open Go
variable{G:L_}
def leI(x y:Id):Prop:=y.lt x=false
def aPT{x y z:Id}(h:leI x y)(k:leI y z):leI x z:=Id.nlt_trans k h
def aS0{x y:Id}(h:leI x y)(k:leI y x):x=y:=Id.lt_total k h
def aUz(x y:Id):leI x y\/leI y x:=by
 unfold leI
 cases h:y.lt x with
 |false=>exact .inl rfl|true=>exact .inr (Id.lt_asymm h)
def aOk:∀{l m:O6},l.Perm m->l.Pairwise leI->m.Pairwise leI->l=m
 |[],m,a,_,_=>(List.nil_perm.1 a).symm ▸ rfl
 |x::l,[],a,_,_=>absurd a.length_eq (by simp)
 | x::l,y::m,a,d,h2=>by
  obtain⟨i,h⟩:=H5.1 d;obtain⟨g,f⟩:=H5.1 h2;have e:x=y:=by have c:x∈y::m:=a.mem_iff.1 (by simp);have b:y∈x::l:=a.mem_iff.2 (by simp);rcases cS.1 c with e|c;exact e;rcases cS.1 b with e|b;exact e.symm;exact aS0 (i y b) (g x c)
  subst e;rw[aOk (List.perm_cons x |>.1 a) h f]
def hZ(l:O6):(sQ l).Perm l:=H4 l _
def aOn(l:O6):(sQ l).Pairwise leI:=by
 have:=List.pairwise_mergeSort (le:=λx y:Id=>!(y.lt x)) (λa b c d h2=>by
  simp only[vP,lI]at *
  exact aPT (x:=a) (y:=b) (z:=c) d h2) (λa b=>by
  rcases aUz a b with h|h<;>simp[show _=false from h]) l
 refine this.imp λ{a b} h=>?_;simpa[leI]using h
def aRw (x:Id) (out:O6) (e:out.Pairwise leI):∀n,n<=out.length->(∀i(h:i<out.length),i<Ha x out n->leI out[i] x)/\(∀i(h:i<out.length),Ha x out n<=i->i<n->leI x out[i])
 |0,_=>⟨λi h g=>by simp[Ha]at g,λi h j h2=>by omega⟩
 | n+1,l=>by
  have a:n<out.length:=by omega
  obtain⟨c,k⟩:=aRw x out e n (by omega);have f:=Yz x out n;simp only[Ha,jN a]
  cases d:x.lt out[n]with
  | true=>
   simp only[if_true];refine⟨c,λi h j h2=>?_⟩;rcases eD i n with b|b;simp_all;obtain rfl:i=n:=by omega
   exact Id.lt_asymm d
  | false=>
   simp only[jJ,if_false];refine⟨λi h g=>?_,λi h j h2=>by omega⟩;rcases eD i n with b|b;exact aPT (QD.1 e i n h a b) d;obtain rfl:i=n:=by omega
   exact d
def aSE{out:O6}(d:out.Pairwise leI)(x:Id):(Ps out x).Pairwise leI:=by obtain⟨k,h2⟩:=aRw x out d out.length (cN _);unfold Ps;rw[lq2];refine List.pairwise_append.2 ⟨d.sublist (List.take_sublist _ _),List.pairwise_append.2 ⟨List.pairwise_singleton _ _,d.sublist (List.drop_sublist _ _),λa f b c=>?_⟩,λa f b c=>?_⟩;rw[aE5.1 f];obtain⟨j,g,rfl⟩:=CU c;simp_all;obtain⟨i,h,rfl⟩:=CU f;rw[eC]at h;have e:leI out[i] x:=k i o_ o_;rw[List.getElem_take];rcases cG.1 c with c|c;simp_all;obtain⟨j,g,rfl⟩:=CU c;rw[vY]at g;rw[List.getElem_drop];exact aPT e (h2 _ o_ o_ o_)
def aUA(out:O6)(x:Id):(Ps out x).Perm (out++[x]):=by unfold Ps;have e:out=out.take (Ha x out out.length)++out.drop (Ha x out out.length):=(LC _ _).symm;grind
def aVM(l:O6):∀out,out.Pairwise leI->(l.foldl Ps out).Pairwise leI/\(l.foldl Ps out).Perm (out++l):=by
 induction l with
 |nil=>intro out h;exact⟨h,k_⟩|cons x l ih=>
  intro out h;obtain⟨a,h2⟩:=ih (Ps out x) (aSE h x);refine⟨a,h2.trans ?_⟩;have:=List.Perm.append_right l (aUA out x);simpa using this
def aSF(l:O6):jI l=sQ l:=by obtain⟨a,h2⟩:=aVM l [] .nil;exact aOk (h2.trans (by rw[dM];exact(hZ l).symm)) a (aOn l)
def aXI(a b:O6):jI (a.filter λx=>!decide (x∈b))=aN a b:=by rw[aSF];rfl
def BX(a b:O6)(x:Id):x∈aN a b↔x∈a/\x∉b:=by rw[aN,(hZ _).mem_iff,gR];simp
def aJe(a b:O6):(aN a b).length<=a.length:=by grind[aN,W9]
def aQZ{a b:O6}(h:okI a):okI (aN a b):=λx c=>h x ((BX a b x).1 c).1
def Bs(a b:O6):O6:=aN a b++b
def aUB(a b:O6)(i:Nat)(c:i<a.length):((a.take (i+1)).filter λx=>!decide (x∈b))=((a.take i).filter λx=>!decide (x∈b))++(if a[i]∈b then [] else [a[i]]):=by rw[lq8 c,Mf];grind
def aTX(a b:O6)(j:a.length<=1000000)(m:b.length<=1000000):aA PQ G aMz [ids a,ids b] [] λr T=>r=.own 0/\T=[some (.arr 3 ((aN a b).map Id.A))]:=by
 apply aC aR7;simp only[go_sem];refine aQ a.length (λi=>⟨0,[(0,ids a),(1,ids b),(5,.own 0),(6,iv i)],[some (.arr 3 (((a.take i).filter λx=>!decide (x∈b)).map Id.A))]⟩) (λ_=>True) ?_ trivial ?_ ?_;simp only[go_sem];intro i d _;have e:=aUB a b i d;have c:((a.take i).filter λx=>!decide (x∈b)).length<=1000000:=uR (List.length_filter_le _ _) Y_;generalize((a.take (i+1)).filter λx=>!decide (x∈b))=n at e;generalize((a.take i).filter λx=>!decide (x∈b))=F at e c;subst e;simp only[go_sem,aP,aT d,aO Id.A a i d,Id.A_def];apply cX (uJ b a[i] g_);simp only[go_sem];have l:(F.length+1)*24<=140737488355328:=o_;have k:F.length+1<=maxLen:=g_;by_cases h:a[i]∈b;simp only[go_sem,h,fQ i o_];simp only[go_sem,h,aP,aO Id.A a i d,Id.A_def,l,k,fQ i o_];intro _;simp only[go_sem,aP,aS (bP _),dE];have c:(a.filter λx=>!decide (x∈b)).length<=1000000:=uR (List.length_filter_le _ _) j;have f:=aXI a b;generalize(a.filter λx=>!decide (x∈b))=F at c f;apply aG [0] (aB _) s_ k_ rfl rfl (aA.sh [0] (args2:=[ids F]) (T2:=[none]) a_ a_ (post:=λr g=>r=.own 1/\g=[none,some (.arr 3 ((jI F).map Id.A))]) (aA.ofCall (aCF (aB _) rfl (AD F o_) ⟨rfl,rfl⟩)));rintro r g ⟨rfl,rfl⟩;simp only[go_sem,f]
def aVN(a b:O6)(d:a.length<=1000000)(c:b.length<=1000000):aA PQ G aMz [ids a,ids b] [] λr T=>r=ids (aN a b)/\T=[]:=by refine(aTX a b d c).fin [0] ?_;rintro r e ⟨rfl,rfl⟩;simp only[go_sem]
def aS1(a b:O6)(e:a.length<=1000000)(d:b.length<=1000000):aA PQ G aM2 [ids a,ids b] [] λr T=>r=ids (Bs a b)/\T=[]:=by
 have c:aA PQ G aM2 [ids a,ids b] [] λr T=>r=.own 0/\T=[some (.arr 3 ((Bs a b).map Id.A))]:=by
  apply aC aQp;have h:=aJe a b;simp only[go_sem];apply aBF (aTX a b e d);have g:((aN a b).length+b.length)*24<=140737488355328:=o_;have f:(aN a b).length+b.length<=maxLen:=g_;simp only[go_sem,aP,g,f,Bs]
 apply c.fin [0];rintro r i ⟨rfl,rfl⟩;simp only[go_sem]
section
open Classical in
noncomputable def ptsF(F:Nat->Prop):Nat:=if F 4 then 4 else if F 8 then 12 else if F 16 then 28 else if F 32 then 60 else 124
def aVO{F:Nat->Prop}{j:Nat}(e:j<5)(h:∀i,i<j->¬F (4*2^i))(a:F (4*2^j)):ptsF F=4*2^j-4+4*2^j:=by
 have d:=h 0;have c:=h 1;have h2:=h 2;have b:=h 3;have:j=0\/j=1\/j=2\/j=3\/j=4:=o_;unfold ptsF;rcases this with rfl|rfl|rfl|rfl|rfl<;>simp at d c h2 b a<;>simp[*]
def aVP{F:Nat->Prop}(h:∀i,i<5->¬F (4*2^i)):ptsF F=124:=by have c:=h 0;have b:=h 1;have h2:=h 2;have a:=h 3;unfold ptsF;simp at c b h2 a;simp[*]
def aSG{n:Nat}{A B:Nat->Fq}{d:Int}{x y a b:List Fq}(h:Fit n A B d x y)(h':Fit n A B d a b)(c:n<=64)(hA:∀k,k<n->A k≠0)(o:x.length<=a.length):(∀z,z∈x↔z∈a)/\∀z,z∈y↔z∈b:=by
 have r:=h.dif;have q:=h'.dif;have m:=h'.len;have e:∀k,k<a.length+b.length->B k*ev (pr a) (zk k)=A k*ev (pr b) (zk k):=λk p=>by rw[<-aQP,<-aQP];exact(h'.pts k o_).symm
 obtain⟨g,f⟩:=aPq h c hA (aNS a) (aNS b) (j:=a.length-x.length) o_ o_ o_ e;obtain⟨l,i⟩:=aPq h' c hA (aNS a) (aNS b) (j:=0) o_ o_ o_ e;rw[l]at g;rw[i]at f;exact⟨λz=>by rw[<-aJE (R:=x),<-g,aJE],λz=>by rw[<-aJE (R:=y),<-f,aJE]⟩
def aWU{n:Nat}{A B:Nat->Fq}{d:Int}{x y c e:List Fq}(h:Fit n A B d x y)(h':Fit n A B d c e)(m:n<=64)(hA:∀k,k<n->A k≠0)(l:SS x)(j:SS y)(i:SS c)(g:SS e):x=c/\y=e:=by rcases Nat.le_total x.length c.length with f|f;obtain⟨a,b⟩:=aSG h h' m hA f;exact⟨aPp l i a,aPp j g b⟩;obtain⟨a,b⟩:=aSG h' h m hA f;exact⟨aPp l i λz=>(a z).symm,aPp j g λz=>(b z).symm⟩
def aR0(a:O6):∀z∈AK a,InE z:=λz b=>by rw[AK,aOu]at b;obtain⟨x,_,rfl⟩:=dF.1 b;exact aVf _ _ _
def aOv(a:O6):(AK a).length<=a.length:=by
 have:=aPS (M:=AK a) (L:=a.map EF) (aHG (aPE _)) λy b=>by rwa[AK,aOu]at b
 simpa using this
def aLR(a:O6):SS (AK a):=aPE _
def aTY(l:List Fq)(n k:Nat)(h:k<n):(SV l n).getD k 0=vl l (zk k):=by simp[SV,rH,h]
def aXe{a:O6}{n k:Nat}(b:n<=64)(h:k<n):(SV (AK a) n).getD k 0≠0:=by rw[aTY _ _ _ h];exact aSs (aR0 a) o_
def aPG(a b:O6)(n:Nat):Prop:=Fit n (λk=>(SV (AK a) n).getD k 0) (λk=>(SV (AK b) n).getD k 0) (((AK a).length:Int)-((AK b).length:Int)) (AK (aN a b)) (AK (aN b a))
noncomputable def aPU(a b:O6):Nat:=ptsF (aPG a b)
def aYx{j:Nat}(h:j<=5):4<=4*2^j/\4*2^j<=128/\(4*2^j<=64↔j<5):=by
 have:j=0\/j=1\/j=2\/j=3\/j=4\/j=5:=o_;rcases this with rfl|rfl|rfl|rfl|rfl|rfl<;>simp
def aWV:aA PQ G aOf [] [] λr T=>r=.cl aN4 []/\T=[]:=by refine aC aPJ ?_;simp only[go_sem]
abbrev rdT(a b:List Id)(p:Nat)(r:Loop):aK:=[some (.box [ids (aN a b)]),some (.box [ids (aN b a)]),some (.box [.v (.int .i64 (p:Int))]),some (.box [.ls 1 (fl (AK a))]),some (.box [.ls 1 (fl (AK b))]),some (.lp r [(8,.ptr 4 0),(7,.ptr 3 0),(6,.ptr 2 0),(5,.ptr 1 0),(4,.ptr 0 0)])]
def aT8 (a b:O6) (X:a.length<=50000) (W:b.length<=50000) (E:okI a) (D:okI b):aA PQ G aM9 [ids a,ids b] [] λr T=>r=.tup [ids (aN a b),ids (aN b a),iv ((aPU a b:Nat):Int)]/\T=[]:=by
 apply aC aQb;simp only[go_sem];apply cX (aRj a b o_ o_);simp only[go_sem];apply cX (aRj b a o_ o_);simp only[go_sem];apply cX (aQl a X E);simp only[go_sem];apply cX (aQl b W D);simp only[go_sem];apply cX aWV;simp only[go_sem];refine NX rfl (vZ aNR) λr I H S R=>?_;simp only[go_sem];refine Ic [0,1,2,3,4,5] (aB _) s_ (λi u=>by simp at u⊢;omega) rfl rfl (aC aNR ?_);simp only[go_sem];refine cO (λm s=>∃j:Nat,m=5-j/\j<=5/\(∀i,i<j->¬aPG a b (4*2^i))/\s=⟨6,[(0,.yl 5),(2,iv ((4*2^j:Nat):Int))],rdT a b (4*2^j-4) r⟩) 5 ⟨0,o_,o_,λi u=>absurd u (Nat.not_lt_zero _),?_⟩ ?_;simp only[go_sem];rfl;rintro m s ⟨j,rfl,V,g,rfl⟩;obtain⟨O,n2,N⟩:=aYx V;have la:=aOv a;have lb:=aOv b;have Q:=aOv (aN a b);have P:=aOv (aN b a);have wa:=aJe a b;have Z:=aJe b a;by_cases p:j<5
 ·have c:=N.2 p;have l:4*2^(j+1)=4*2^j*2:=by rw[QM];omega
  have B:=λe=>aVO (F:=aPG a b) p g e;have o:¬aPG a b (4*2^j)->∀i,i<j+1->¬aPG a b (4*2^i):=λh i u=>by
   rcases eD i j with w|w;exact g i w;obtain rfl:i=j:=o_;exact h
  generalize hn:4*2^j=n at *
  have K:decide ((n:Int)<=64)=true:=decide_eq_true o_;have J:IntKind.i64.wrap (((n-4:Nat):Int)+(n:Int))=((n-4+n:Nat):Int):=d_;have z:IntKind.i64.wrap ((n:Int)*2)=((n*2:Nat):Int):=d_;simp only[go_sem,K];apply S _ _ _ _ _ rfl rfl;simp only[go_sem,J];apply cX (aWA (AK a) n o_ o_);simp only[go_sem];apply cX (aWA (AK b) n o_ o_);simp only[go_sem];apply Jo (aXH n ((AK a).length:Int) ((AK b).length:Int) (SV (AK a) n) (SV (AK b) n) O c (aT4 _ _) (aT4 _ _) (λk A=>aXe c A) o_ o_);rintro r' T' ⟨Y,rfl⟩;have C:aPG a b n->aPU a b=n-4+n:=λe=>B e
  have next:¬aPG a b n->∃m,m<5-j/\∃j,m=5-j/\j<=5/\(∀i,i<j->¬aPG a b (4*2^i))/\(⟨6,[(0,.yl 5),(2,iv ((n*2:Nat):Int))],rdT a b (n-4+n) r⟩:St)=⟨6,[(0,.yl 5),(2,iv ((4*2^j:Nat):Int))],rdT a b (4*2^j-4) r⟩:=λh=>
   ⟨5-(j+1),o_,j+1,rfl,o_,o h,by rw[l,(o_:n*2-4=n-4+n)]⟩
  rcases Y with⟨x,y,e,M,L,rfl⟩|⟨e,rfl⟩
  ·have d:aPG a b n↔x=AK (aN a b)/\y=AK (aN b a):=⟨λh=>aWU e h c (λk A=>aXe c A) M L (aLR _) (aLR _),λ⟨w,h2⟩=>by rw[w,h2]at e;exact e⟩
   have lx:=e.len;simp only[go_sem];apply cX (aQl (aN a b) o_ (aQZ E));simp only[go_sem];apply cX (aTI x (AK (aN a b)) o_);simp only[go_sem];by_cases t:x=AK (aN a b)
   ·simp only[go_sem,t];apply cX (aQl (aN b a) o_ (aQZ D));simp only[go_sem];apply cX (aTI y (AK (aN b a)) o_);simp only[go_sem];by_cases f:y=AK (aN b a);simp only[go_sem,f,I,H];rw[C (d.2 ⟨t,f⟩)]
    ·simp only[go_sem,f,z];exact next λh=>f (d.1 h).2
   ·simp only[go_sem,t,z];exact next λh=>t (d.1 h).1
  ·simp only[go_sem,z];exact next λh=>e _ _ h
 obtain rfl:j=5:=o_;have U:=aVP g;have q:4*2^5=128:=rfl;simp only[go_sem,q,rdT,I,H,show decide (((128:Nat):Int)<=64)=false from rfl];rw[aPU,U]
end
def aRx{x y:List Fq}:(x++y).Nodup↔x.Nodup/\y.Nodup/\∀z∈x,z∉y:=by rw[vQ];exact⟨λ⟨a,b,c⟩=>⟨a,b,λz d h2=>c z d z h2 rfl⟩,λ⟨a,b,c⟩=>⟨a,b,λz d w h2 e=>c z d (e ▸ h2)⟩⟩
def aUC{l m:List Fq}(h:∀z,z∈l↔z∈m):aUo l=aUo m:=aPp (aPE _) (aPE _) λz=>by rw[aOu,aOu,h]
def aT9{a b:O6}(h:∀x,x∈a↔x∈b):AK a=AK b:=aUC λz=>by simp only[dF];exact⟨λ⟨x,c,e⟩=>⟨x,(h x).1 c,e⟩,λ⟨x,c,e⟩=>⟨x,(h x).2 c,e⟩⟩
def aHe(a:O6)(z:Fq):z∈AK a↔∃x∈a,EF x=z:=by rw[AK,aOu,dF]
def aUD:AK []=[]:=rfl
def aTa {a b:O6} (l:∀x,(x∈a\/x∈b)->∀y,(y∈a\/y∈b)->EF x=EF y->x=y) {n:Nat} (w:n<=64):aPG a b n↔(AK (aN a b)).length+(AK (aN b a)).length+2<=n:=by
 refine⟨λh=>h.len,λg=>?_⟩;have pa:(AK a).Perm (AK (aN a b)++AK (a.filter λx=>decide (x∈b))):=by refine(aBH (aHG (aLR _)) (aRx.2 ⟨aHG (aLR _),aHG (aLR _),λz i h2=>?_⟩)).2 λz=>?_;obtain⟨x,d,rfl⟩:=(aHe _ _).1 i;obtain⟨y,f,e⟩:=(aHe _ _).1 h2;rw[BX]at d;obtain⟨j,m⟩:=gR.1 f;have:=l x (.inl d.1) y (.inl j) e.symm;subst this;exact d.2 (by simpa using m);rw[cG,aHe,aHe,aHe];constructor;rintro⟨x,d,e⟩;by_cases r:x∈b;exact .inr ⟨x,gR.2 ⟨d,by simpa using r⟩,e⟩;exact .inl ⟨x,(BX a b x).2 ⟨d,r⟩,e⟩;rintro(⟨x,d,e⟩|⟨x,d,e⟩);exact⟨x,((BX a b x).1 d).1,e⟩;exact⟨x,(gR.1 d).1,e⟩
 have o:(AK b).Perm (AK (aN b a)++AK (a.filter λx=>decide (x∈b))):=by refine(aBH (aHG (aLR _)) (aRx.2 ⟨aHG (aLR _),aHG (aLR _),λz i h2=>?_⟩)).2 λz=>?_;obtain⟨x,d,rfl⟩:=(aHe _ _).1 i;obtain⟨y,f,e⟩:=(aHe _ _).1 h2;rw[BX]at d;obtain⟨j,m⟩:=gR.1 f;have:=l x (.inr d.1) y (.inl j) e.symm;subst this;exact d.2 j;rw[cG,aHe,aHe,aHe];constructor;rintro⟨x,d,e⟩;by_cases s:x∈a;exact .inr ⟨x,gR.2 ⟨s,d8⟩,e⟩;exact .inl ⟨x,(BX b a x).2 ⟨d,s⟩,e⟩;rintro(⟨x,d,e⟩|⟨x,d,e⟩);exact⟨x,((BX b a x).1 d).1,e⟩;exact⟨x,by simpa using(gR.1 d).2,e⟩
 have u:=pa.length_eq;have t:=o.length_eq;rw[dZ]at u t;refine⟨aHG (aLR _),aHG (aLR _),λz i h2=>?_,aR0 _,aR0 _,g,o_,λk v=>?_⟩;obtain⟨x,d,rfl⟩:=(aHe _ _).1 i;obtain⟨y,f,e⟩:=(aHe _ _).1 h2;rw[BX]at d f;have:=l x (.inl d.1) y (.inr f.1) e.symm;subst this;exact d.2 f.1;simp only[aTY _ _ _ v];rw[aRU (zk k) pa,aRU (zk k) o,aVs,aVs];generalize vl (AK (aN a b)) (zk k)=p;generalize vl (AK (aN b a)) (zk k)=q;generalize vl (AK (a.filter λx=>decide (x∈b))) (zk k)=c;grind
def aSH{a b:O6}(h:∀x,x∈a↔x∈b){n:Nat}(g:2<=n):aPG a b n:=by
 have e:=aT9 h;have f:aN a b=[]:=TS.2 λx c=>by rw[BX,h]at c;exact c.2 c.1
 have d:aN b a=[]:=TS.2 λx c=>by rw[BX,h]at c;exact c.2 c.1
 unfold aPG;rw[e,f,d,aUD];exact⟨.nil,.nil,k_,k_,k_,dg,k_,λk i=>rfl⟩
def aOe{a b:O6}(h:∀x∈a,x∈b):aN a b=[]:=TS.2 λx c=>by rw[BX]at c;exact c.2 (h x c.1)
def aXJ{a b:O6}(h:aPG a b 4):aPU a b=4:=by have:=aVO (F:=aPG a b) (j:=0) s_ (λi c=>absurd c (Nat.not_lt_zero _)) h;exact this
abbrev ivA:Id:=⟨1,1,5⟩
abbrev ivB:Id:=⟨2,1,6⟩
def aXf:EF ivA≠EF ivB:=ox
def aXK:∀x,(x∈[ivA,ivB]\/x∈[ivB])->∀y,(y∈[ivA,ivB]\/y∈[ivB])->EF x=EF y->x=y:=by
 intro x b y a e;have c:x=ivA\/x=ivB:=B_;have h2:y=ivA\/y=ivB:=oe;rcases c with rfl|rfl<;>rcases h2 with rfl|rfl;rfl;exact absurd e aXf;exact absurd e.symm aXf;rfl
def aXg:aN [ivA,ivB] [ivB]=[ivA]:=ox
def aXh:aN [ivB] [ivA,ivB]=[]:=aOe k_
def aXL:aPU [ivA,ivB] [ivB]=4:=aXJ ((aTa aXK s_).2 (by
 rw[aXg,aXh];have b:=aOv [ivA];have h2:(AK []).length=0:=rfl;have a:[ivA].length=1:=rfl
 omega))
def aTZ:okI [ivA,ivB]:=by intro x a;simp at a;rcases a with rfl|rfl<;>decide
def aWW:okI [ivB,ivA]:=by intro x a;simp at a;rcases a with rfl|rfl<;>decide
def aXM:okI [ivB]:=by intro x a;simp at a;rcases a with rfl;decide
def aU0:aA PQ G aM1 [] [] λr T=>r=.v (.bool true)/\T=[]:=by
 apply aC aQq;have d:=aT8 (G:=G) [ivA,ivB] [ivB,ivA] k_ k_ aTZ aWW;have b:∀x,x∈[ivA,ivB]↔x∈[ivB,ivA]:=λx=>by simp[or_comm]
 rw[aOe λx a=>(b x).1 a,aOe λx a=>(b x).2 a,aXJ (aSH b s_)]at d;have c:=aT8 (G:=G) [ivA,ivB] [ivB] k_ k_ aTZ aXM;rw[aXg,aXh,aXL]at c;simp only[go_sem];apply Sb [2,3] [0,1] (aB _) (args3:=[ids [ivA,ivB],ids [ivB,ivA]]) s_ k_ rfl rfl M_ rfl a_ d a_;simp only[go_sem];apply Sb [4,5] [0,1] (aB _) (args3:=[ids [ivA,ivB],ids [ivB]]) s_ k_ rfl rfl M_ rfl a_ c a_;simp only[go_sem];apply iJ (aB _) (args2:=[ids [ivA],ids [ivA]]) M_ rfl (Pr [ivA] [ivA] (by simp[maxLen]));simp only[go_sem]
def T2(c d:Bool)(p q:PGM):aK :=
 [some (.box [.ls 5 (p.cards.map CardM.A),.mp 1,.own (if c then 6 else 2)]),some (MG p.I),if c then none else some (.arr 35 (p.nodes.map ND.A)),
  some (.box [.ls 5 (q.cards.map CardM.A),.mp 4,.own (if d then(if c then 7 else 6) else 5)]),some (MG q.I),if d then none else some (.arr 35 (q.nodes.map ND.A))]
 ++ (if c then [some (.arr 35 (p.nodes.map ND.A))] else [])++(if d then [some (.arr 35 (q.nodes.map ND.A))] else [])
def aR1(hK:GK G){cs:List CardM}(t:cardsOk cs){g:GM}(s:Reach cs g){j i:O3}(r1:RRow g j)(z:RRow g i){b a:PGM}(H:b=AM cs (aIX g j))(F:a=AM cs (aIX g i))
 {A B U V:O6} (E:A=sQ (rid g j)) (eB:B=sQ (rid g i)) (y:U=aN B A) (w:V=aN A B):
 ∃f e,RRow g f/\RRow g e/\rid g f=rid g j++aIW (AM cs g.L) U/\rid g e=rid g i++aIW (AM cs g.L) V /\
  aA PQ G aJf [.ptr 0 0,.ptr 3 0] (TG 0 b++TG 3 a) λr T=>r=.tup [iv U.length,iv V.length,iv (aPU A B:Nat)]/\∃c d,T=T2 c d (AM cs (aIX g f)) (AM cs (aIX g e)):=by
 obtain⟨_,k1,p,_,_⟩:=aQh t s r1;obtain⟨_,k2,m,_,_⟩:=aQh t s z;have n1:=aOj t s r1;have n2:=aOj t s z;have l:=k1 j.length;have k:=k2 i.length;rw[dE,<-H]at l;rw[dE,<-F]at k;rw[<-H]at p;rw[<-F]at m;have D:∀x,x∈A↔x∈b.I:=λx=>by rw[E,p];exact(hZ _).mem_iff
 have C:∀x,x∈B↔x∈a.I:=λx=>by rw[eB,m];exact(hZ _).mem_iff
 have nU:U.Nodup:=by rw[y];exact(hZ _).nodup_iff.2 (((hZ _).nodup_iff.2 n2).filter _ |> (eB ▸ ·))
 have nV:V.Nodup:=by rw[w];exact(hZ _).nodup_iff.2 (((hZ _).nodup_iff.2 n1).filter _ |> (E ▸ ·))
 have mU:∀x,x∈U↔x∈rid g i/\x∉rid g j:=λx=>by rw[y,BX,D,C,p,m]
 have mV:∀x,x∈V↔x∈rid g j/\x∉rid g i:=λx=>by rw[w,BX,D,C,p,m]
 have lA:A.length<=200:=by rw[E,(hZ _).length_eq,<-p];have:=l.n;simpa[PGM.I]using this
 have lB:B.length<=200:=by rw[eB,(hZ _).length_eq,<-m];have:=k.n;simpa[PGM.I]using this
 have lU:U.length<=200:=by rw[y];exact uR (aJe _ _) lB
 have lV:V.length<=200:=by rw[w];exact uR (aJe _ _) lA
 obtain⟨f,M,O,ab,Y,Q,W,ad⟩:=aRt t s r1 z mU nU H F rfl;obtain⟨e,K,N,aa,X,P,S,ac⟩:=aRt t s z r1 mV nV F H rfl;refine⟨f,e,M,K,O,N,?_⟩;rw[ab,aa];have t1:=aVe (G:=G) hK b _ Y Q o_ ad;have J:=aVe (G:=G) hK a _ X P o_ ac;have sU:=aV3 (G:=G) a k U nU (λx h=>(C x).1 (by rw[y]at h;exact((BX _ _ x).1 h).1)) o_;have sV:=aV3 (G:=G) b l V nV (λx h=>(D x).1 (by rw[w]at h;exact((BX _ _ x).1 h).1)) o_;have gA:=aPn (G:=G) b l;have gB:=aPn (G:=G) a k;rw[p,<-E]at gA;rw[m,<-eB]at gB;have R:okI A:=λx h=>by obtain⟨n,v,rfl⟩:=dF.1 ((D x).1 h);exact⟨(l.ids n v).2.2.1,(l.ids n v).2.2.2⟩
 have xN:okI B:=λx h=>by obtain⟨n,v,rfl⟩:=dF.1 ((C x).1 h);exact⟨(k.ids n v).2.2.1,(k.ids n v).2.2.2⟩
 have hD:=aT8 (G:=G) A B o_ o_ R xN;rw[<-y,<-w]at hD;rw[W]at t1;rw[S]at J;have mm:∀(q:PGM)(L:O6),L.map (λx=>(q.nd x).o.A)=(L.map λx=>(q.nd x).o).map OpM.A:=λq L=>by rw[rI];rfl
 rw[mm]at sU sV;generalize(aIW a U).map (λx=>(a.nd x).o)=O1 at *
 generalize(aIW b V).map (λx=>(b.nd x).o)=O2 at *
 generalize aKJ b O1=p1 at *
 generalize aKJ a O2=p2 at *
 apply aC aQ8;simp only[go_sem,TG,MG];apply aG (T2:=TG 0 b) [0,1,2] (aB _) s_ k_ rfl u_ gA;rintro r u ⟨rfl,rfl⟩;simp only[go_sem,TG,MG];apply aG (T2:=TG 0 a) [3,4,5] (aB _) s_ k_ rfl u_ gB;rintro r u ⟨rfl,rfl⟩;simp only[go_sem,TG,MG];apply cX hD;simp only[go_sem,TG,MG];apply aG (T2:=TG 0 a) [3,4,5] (aB _) s_ k_ rfl u_ sU;rintro r u ⟨rfl,rfl⟩;simp only[go_sem,TG,MG];apply aG (T2:=TG 0 b) [0,1,2] (aB _) s_ k_ rfl u_ sV;rintro r u ⟨rfl,rfl⟩;simp only[go_sem,TG,MG];apply aG (T2:=TG 0 b) [0,1,2] (aB _) s_ k_ rfl u_ t1;rintro r u ⟨rfl,⟨rfl,he⟩|rfl⟩;simp only[go_sem,TG,MG];apply aG (T2:=TG 0 a) [3,4,5] (aB _) s_ k_ rfl u_ J;rintro r u ⟨rfl,⟨rfl,Z⟩|rfl⟩;simp only[go_sem,TG,MG];exact⟨false,false,ss⟩;simp only[go_sem,TG,TH,MG];exact⟨false,true,ss⟩;simp only[go_sem,TG,TH,MG];apply aG (T2:=TG 0 a) [3,4,5] (aB _) s_ k_ rfl u_ J;rintro r u ⟨rfl,⟨rfl,Z⟩|rfl⟩;simp only[go_sem,TG,TH,MG];exact⟨true,false,ss⟩;simp only[go_sem,TG,TH,MG];exact⟨true,true,ss⟩
def BK(d m:Nat):CardM:=⟨d,m,((37:Fq)^AG ZC d).val,((37:Fq)^AG ZD d).val,((37:Fq)^AG vW d).val⟩
def lG(a:O3)(d:Nat):AG a d<2^64:=J4 _ _
def BL(a:O3):List CardM:=a.mapIdx λi m=>BK (i+1) m
def XY(a:O3)(i:Nat)(h:i<a.length):BL (a.take (i+1))=BL (a.take i)++[BK (i+1) a[i]]:=by rw[<-aBV h];grind[BL]
theorem Hk(a:O3):(BL a).length=a.length:=by simp[BL]
def aG1{o:OpM}(h:o.ok)(a b:Nat)(e:a<2^64)(d:b<2^64):OpM.ok {o with SR:=a,SS:=b}:=by refine⟨h.ints,?_,h.epoch,h.of,h.past,h.path,h.body,h.refs,h.guards,h.boxes,h.hist⟩;intro n c;simp only[cS,pP,or_false]at c;rcases c with rfl|rfl|rfl;exact h.nums _ k_;exact e;exact d
def aEc(s:Nat)(b:O3):I9 s b<2^64:=QQ (zM _ s_) (by decide:lT<2^64)
def BM{o:OpM}(h:o.ok):(cM o).ok:=by unfold cM;exact aG1 h _ _ (Cr _) (aEc _ _)
def aEd(a:O3)(g:a.length<=1000)(h0:a≠[])(f:∀m∈a,m<=1000):cardsOk (BL a):=by
 have b:∀c∈BL a,∃i,∃h:i<a.length,c=BK (i+1) a[i]:=by intro c d;obtain⟨i,h,rfl⟩:=List.mem_mapIdx.1 d;grind
 refine⟨by rw[Hk];exact g,?_,?_,?_,?_⟩;intro e;have:=Hk a;grind;intro c d;obtain⟨i,h,rfl⟩:=b c d;have:=f _ (eQ h);refine⟨⟨?_,?_⟩,⟨?_,?_⟩,?_,?_,?_⟩<;>simp only[BK];omega;omega;omega;omega;exact Cr _;exact Cr _;exact Cr _;grind[BK];grind[BK]
def aEe(a:O3)(p:a.length<=1000):aA PQ G xP [Sa a] [] λr T=>r=.own 0/\T=[some (.arr 5 ((BL a).map CardM.A))]:=by
 apply aC Na;simp only[go_sem];refine aQ a.length (λi=>⟨0,[(0,Sa a),(3,.own 0),(4,iv i)],[some (.arr 5 ((BL (a.take i)).map CardM.A))]⟩) (λ_=>True) ?_ trivial ?_ ?_;rfl;intro i e _;have d:decide ((i:Int)<(a.length:Int))=true:=decide_eq_true o_;have f:=fQ i o_;have b:(a.map λn:Nat=>[iv (n:Int)])[i]?=some [iv (a[i]:Int)]:=by simp[e]
 have c:(BL (a.take i)).length=i:=by grind[Hk]
 have o:=XY a i e;have j:=AI (G:=G) (bs [108,101,97,100]) ZC (i+1) K_ K_ (Az s_) s_ o_;have h:=AI (G:=G) (bs [107,101,101,112]) ZD (i+1) K_ K_ (Az s_) s_ o_;have g:=AI (G:=G) (bs [115,105,103,110]) vW (i+1) K_ K_ (Az s_) s_ o_;have m:=GJ (G:=G) (AG ZC (i+1)) (lG _ _);have l:=GJ (G:=G) (AG ZD (i+1)) (lG _ _);have k:=GJ (G:=G) (AG vW (i+1)) (lG _ _);simp only[go_sem,aP,d,b,f];apply cX j;simp only[go_sem,b];apply cX m;simp only[go_sem,b];apply cX h;simp only[go_sem,b];apply cX l;simp only[go_sem,b];apply cX g;simp only[go_sem,b];apply cX k;simp only[go_sem,aP,c,o,bZ,fG,uP,(g_:i+1<=maxLen),(o_:(i+1)*40<=140737488355328)];simp_all[CardM.A_def,BK,fu];intro _;have d:decide ((a.length:Int)<(a.length:Int))=false:=decide_eq_false o_;simp only[go_sem,aP,d,dE]
end Hud
namespace Hud
set_option maxRecDepth 99999
open Go
def aCW:=eVf (cF aMb [(49,none,1000),(86,none,1000)])
def aR2:=eVf (cF aPk [(5,none,1),(9,none,0),(57,none,1000)])
def aR3:=eVf (cF aOy [(11,none,1000)])
end Hud
