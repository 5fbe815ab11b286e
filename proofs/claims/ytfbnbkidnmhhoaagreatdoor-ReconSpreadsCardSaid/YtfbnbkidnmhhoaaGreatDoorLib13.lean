import Derived.Test.YtfbnbkidnmhhoaaGreatDoorLib12
set_option linter.all false
set_option maxHeartbeats 40000000
namespace Hud
open Go Go.Proofs Go.Sort Go.Shelf
section
variable{P:Program}{α:Type}[Inhabited α]{enc:α->O5}{k:Nat}
def aU5{w:World}{g m:Nat}{c:Array Value}{E:TypeId}{d:Array α}{os:Array Obj}(n:∀x,(enc x).length=k)(h:w.heap[g]?=some (.cells c E (0,0)))(l:d.size*k<=c.size):
 (∀b,b<w.heap.size->b≠g->(sortWorldK enc k w g 0 m d os).heap[b]?=w.heap[b]?) /\
 (∃a,(sortWorldK enc k w g 0 m d os).heap[g]?=some (.cells a E (0,0))/\a.size=c.size/\a.toList.take (d.size*k)=d.toList.flatMap enc/\a.toList.drop (d.size*k)=c.toList.drop (d.size*k))/\w.heap.size<=(sortWorldK enc k w g 0 m d os).heap.size:=by
 obtain⟨r,⟨a,h2,q,p⟩,o⟩:=UQ (m:=m) (os:=os) n h l;refine⟨r,⟨a,h2,q,p,?_⟩,o⟩;have i:g<w.heap.size:=by rcases eD g w.heap.size with j|j;exact j;rw[Hz j]at h;simp at h
 have e:(sortWorldK enc k w g 0 m d os).heap=w.heap.modify g (onCells (putCells id 0 (flatK enc k d)))++os:=rfl;rw[e,X5 (by simpa using i),YA,if_pos rfl,h]at h2;simp only[iX,onCells,O7,Obj.cells.injEq,and_true]at h2;subst h2;apply EW;intro t;rw[Hw,Hw];rcases eD (d.size*k+t) c.size with f|f;rw[jN (by simpa[putCells]using f),jN de];simp only[putCells,Array.getElem_toList,Array.getElem_mapIdx];rw[if_neg (by rw[size_flatK];omega)];rw[sX (by simpa[putCells]using f),sX de]
def aRH(c:∀x,(enc x).length=k)(l:List α)(n:Nat)(b:n<=l.length):(l.flatMap enc).take (n*k)=(l.take n).flatMap enc/\(l.flatMap enc).drop (n*k)=(l.drop n).flatMap enc:=by
 have e:l.flatMap enc=(l.take n).flatMap enc++(l.drop n).flatMap enc:=by rw[<-List.flatMap_append,LC]
 have a:((l.take n).flatMap enc).length=n*k:=by rw[MF c,eC,Kj b]
 rw[e];exact⟨TY a,List.drop_left' a⟩
def aUS {U:Ren} (L:SlLaysF0.n6 P U) (aE:∀w,(isAgg (U.t 24)).run P w=.ok true w) (zE:∀w,(Go.sizeOf (U.t 24)).run P w=.ok k w) (K:∀x,(enc x).length=k) (h1:∀x,∀v∈enc x,v.oneCell'=true) (ap:∀x,∀c∈cellsOf enc x,aX c=true)
 {cf:α->α->Int} (hO:SWO (ltOf cf)) (hT:∀x y,(ltOf cf) x y=false->(ltOf cf) y x=false->x=y) {g:Nat} (eg:∀q w,(callFunc g q).run P w=.ok (.enter g q) w) (eS:∀q w,(callFunc (U.f 6) q).run P w=.ok (.enter (U.f 6) q) w) {G:L_}
 (ah:∀x y,aA P G g [.ag (cellsOf enc x),.ag (cellsOf enc y)] [] λr T=>r=iv (cf x y)/\T=[]) (l:List α) (n:Nat) (hn:n<=l.length) (hl:l.length<2^62):
 aA P G (U.f 6) [.vw 0 k 0 n,.cl g []] [some (.arr k (l.map (cellsOf enc)))] λr T=>r=.tup []/\T=[some (.arr k ((((l.take n).mergeSort λx y=>!(ltOf cf) y x)++l.drop n).map (cellsOf enc)))]:=by
 intro h S w Z hG hI hA;refine .inl ⟨eS _ _,?_⟩;simp only[kR]at hA;obtain⟨u0,aw,aj,B,u1,av,rfl,ai,rfl⟩:=hA;simp only[Rp]at B ai;obtain⟨_,A1,c1,rfl,az,ay,B⟩:=B;obtain⟨us,rfl,ab⟩:=ai;simp only[kR]at ab;have aa:us=#[]:=by simpa using ab
 subst aa;obtain rfl:Z=#[.slice A1 n c1,.func (.func g) #[] #[]]:=by apply EY.1;simpa using aj
 obtain⟨hc,ad⟩:=hI.obj 0 _ rfl;have I:=H4 (l.take n) (λx y=>!(ltOf cf) y x);have z:(l.take n).length=n:=Y_;have p:((l.take n).mergeSort λx y=>!(ltOf cf) y x).length=n:=by rw[I.length_eq,z]
 by_cases h0:n=0;subst h0;refine(AnyF.slices_SortFunc_none L A1 c1 (.func (.func g) #[] #[]) w).mono ?_;rintro e w' ⟨rfl,rfl⟩;have au:(l.take 0).mergeSort (λx y=>!(ltOf cf) y x)=[]:=List.mergeSort_nil;rw[au,TZ,dM];exact⟨_,rfl,.tup [],_,h,S,⟨rfl,rfl⟩,Evo.refl,hI,O_⟩;rcases ad with⟨A0,e0,ae⟩|⟨b,c,C,E,e0,e1,e2,e3,e4,e5,e6⟩
 have:l=[]:=by simpa using ae
 subst this;simp at hn;exact absurd hn h0;obtain⟨gg,ll,cc,D,f2,f3⟩:=B.resolve_left h0;rw[e0]at D;injection D with D f4 f5;cases D;subst f2;rw[Nat.zero_mul];rw[aP]at e2 e6;have hb:b<w.heap.size:=by rcases eD b w.heap.size with M|M;exact M;rw[Hz M]at e1;simp at e1
 have R:=e6;rw[HZ]at R;have Q:=aRF R;obtain⟨t1,t2⟩:=aRH K l n hn;have ax:l.length*k<=C.size:=by rw[e4];exact aOo k e2
 have ak:n*k<=l.length*k:=aOo k hn;have Y:C.toList.take (n*k)=(l.take n).flatMap enc:=by rw[<-t1,<-Q,Mj,Kj ak]
 have ar:(C.toList.drop (n*k)).take ((l.length-n)*k)=(l.drop n).flatMap enc:=by rw[<-t2,<-Q,List.drop_take,Nat.sub_mul]
 have hH:=aCV (h:=h) (l:=l.take n) K e1 (by rw[z,HZ,Y];exact OC);have ac:n*k<=C.size:=o_;have an:∀A cs,h A=some cs->A≠b:=λA cs e he=>by rw[he,e5]at e;simp at e
 have hC:CmpLays P g #[] enc k cf b 0 (l.take n).toArray.size w:=by
  intro m os F ao x y;obtain⟨s1,⟨s,s2,s3,s4⟩,s5⟩:=UQ (m:=m) (os:=os) (d:=F) K e1 (by rw[ao,Gn,z];exact ac)
  have aq:Inv h S (sortWorldK enc k w b 0 m F os) []:=⟨λA cs e=>by
   obtain⟨E',fr,H⟩:=hI.gh A cs e;have N:A<w.heap.size:=by rcases eD A w.heap.size with M|M;exact M;rw[Hz M]at H;simp at H
   exact⟨E',fr,by rw[s1 A N (an A cs e)];exact H⟩,λi o e=>oO,λi j oi oj b e=>oO⟩
  have O:kR h S 0 [.ag (cellsOf enc x),.ag (cellsOf enc y)] (#[Value.agg (enc x).toArray,.agg (enc y).toArray]++#[]:Array Value).toList:=by
   have u:∀l:O5,kR h S 0 (l.map .v) l:=by
    intro l
    induction l with
    |nil=>simp[kR]|cons c l ih=>simp only[fG,kR];exact⟨c,l,rfl,x_,ih⟩
   simp only[kR];exact⟨_,_,rfl,by simp only[Rp];exact⟨_,rfl,u (enc x)⟩,_,_,rfl,by simp only[Rp];exact⟨_,rfl,u (enc y)⟩,rfl⟩
  rcases ah x y h S _ _ hG aq O with⟨_,hc⟩|⟨v,w',hc,_⟩
  apply hc.mono;rintro e w' ⟨v,rfl,r,T',h',φ',⟨rfl,rfl⟩,X,ba,hv⟩;simp only[Rp]at hv;subst hv;refine⟨rfl,w'.drawn-(sortWorldK enc k w b 0 m F os).drawn,w'.heap.extract (sortWorldK enc k w b 0 m F os).heap.size w'.heap.size,?_⟩;have hd:=X.drawn;have a:w'.heap=(sortWorldK enc k w b 0 m F os).heap++w'.heap.extract (sortWorldK enc k w b 0 m F os).heap.size w'.heap.size:=by apply Array.ext_getElem?;intro i;rcases eD i (sortWorldK enc k w b 0 m F os).heap.size with hi|hi;rw[X5 hi,X.frame i hi (λj o e=>oO)];rw[Array.getElem?_append_right hi];have:=X.size;rw[Array.getElem?_extract];split;congr 1;omega;rw[Hz o_]
  have R:=X.os;have Q:=X.tape;have Y:=X.output;revert hd a R Q Y;generalize sortWorldK enc k w b 0 m F os=W;intro hd a R Q Y;obtain⟨hp,tp,dr,o,op⟩:=w';simp only at a hd R Q Y;subst R;subst Q;subst Y;simp only[Go.Sort.grow,World.drewN];rw[<-a];congr 1;omega;rw[eg]at hc;simp at hc
 have u:=AnyQ.slices_SortFunc_total L k aE zE enc K h1 cf hO g #[] b 0 c1 (l.take n).toArray w eg hC hH hb (by rw[Gn,z];omega) hT;rw[Gn,z]at u;apply u.mono;rintro e w' ⟨rfl,m,os,rfl⟩;generalize((l.take n).mergeSort λx y=>!(ltOf cf) y x)=V at p;obtain⟨s1,⟨s,s2,s3,s4,s6⟩,s5⟩:=aU5 (m:=m) (os:=os) (d:=V.toArray) K e1 (by rw[Gn,p];exact ac);rw[Gn,p]at s4 s6;have J:(V++l.drop n).length=l.length:=by rw[dZ,p,vY];omega
 have af:s.toList.take (l.length*k)=(V++l.drop n).flatMap enc:=by
  rw[List.flatMap_append,<-ar,<-s6,<-LC (n*k) s.toList,s4];have am:(V.flatMap enc).length=n*k:=by rw[MF K,p]
  rw[show l.length*k=n*k+(l.length-n)*k by rw[Nat.sub_mul];omega,<-am,aGH];congr 2;rw[List.drop_left' rfl]
 have:=Fw (w':=sortWorldK enc k w b 0 m V.toArray os) (o':=.arr k ((V++l.drop n).map (cellsOf enc))) hI rfl rfl rfl s5 (i:=0) (o:=.arr k (l.map (cellsOf enc))) rfl
  (λA N al=>s1 A N (λe=>al (by rw[e0,e];rfl)))
  ⟨λx hx=>by
   obtain⟨y,_,rfl⟩:=dF.1 hx
   exact⟨by simp[cellsOf,K],ap y⟩,.inr ⟨b,c,s,E,by rw[aP,J];simpa using e0,s2,by rw[aP,J];exact e2,e3,by rw[s3];exact e4,e5,by
    rw[aP,HZ,J,af]
    exact OC⟩⟩
  (Nat.le_add_right _ _)
 exact⟨_,rfl,.tup [],_,h,S,⟨rfl,rfl⟩,this.2,this.1,O_⟩
end
end Hud
namespace Hud
open Go
variable{G:L_}
@[go_sem] def shA(args:O0)(T:aK)(I:O3):O0:=(List.range args.length).map λi=>bA (Ef ⟨T.length,aLJ 0 args,T⟩ I).s i
@[go_sem] def shT(args:O0)(T:aK)(I:O3):aK:=(Ef ⟨T.length,aLJ 0 args,T⟩ I).T
section
variable{P:Program}{G:L_}{f:FuncId}{args args':O0}{T:aK}
def aA.ofCall{K:AV->aK->Prop}(a:@aK8 P G f args T ⟨K⟩):aA P G f args T K:=λ_ _ _ _ b hI hA=>Ei a b hI hA
def aA.sh(I:O3){args2:O0}{T2:aK}{post:AV->aK->Prop}(hA:shA args T I=args2)(H:shT args T I=T2)(m:aA P G f args2 T2 post):aA P G f args T post:=by
 intro h φ w d K hI B;have t:SInv P G 0 h φ T w ⟨T.length,aLJ 0 args,T⟩ ⟨d,[]⟩ w:=by refine⟨rfl,(Jl 0 args).1,⟨h,φ,K,Evo.refl,hI,?_⟩,k_,by simp[Eo]⟩;have:=R7 (h:=h) (φ:=φ) (n:=T.length) 0 args [] d.toList [] rfl B;simpa only[dM,jO,YD]using this
 have J:∀(l:O3)(st:St),SInv P G 0 h φ T w st ⟨d,[]⟩ w->SInv P G 0 h φ T w (Ef st l) ⟨d,[]⟩ w:=by
  intro l
  induction l with
  |nil=>intro st h;exact h|cons i r ih=>intro st h;exact ih _ (h.shutI i)
 obtain⟨_,_,⟨h2,g,M,E,D,C⟩,_,_⟩:=J I _ t;have s:(Ef ⟨T.length,aLJ 0 args,T⟩ I).T=T2:=H;rw[s]at E D C;have x:kR h2 g T2.length args2 d.toList:=by
  have A:=B.length;refine kR.mk (by rw[<-hA];simp[shA,A]) λi c u m o=>?_;rw[<-hA]at m;have F:i<args.length:=by rcases eD i args.length with h|h;exact h;rw[A]at h;rw[sX h]at o;cases o
  simp only[shA,gE,aBQ F,iX,O7]at m;have:=C i;rw[m]at this;have q:d.getD i undef=u:=by rw[TR];rw[Array.getElem?_toList]at o;rw[o];rfl
  rw[q]at this;exact this
 have k:∀{v j},CS h2 g T2 w post v j->CS h φ T w post v j:=λ⟨r,Q,L,p,z,y,O,N⟩=>⟨r,Q,L,p,z,E.trans y,O,N⟩
 rcases m h2 g w d M D x with⟨a,b⟩|⟨v,j,a,b⟩
 exact .inl ⟨a,b.mono λe j ⟨v,z,y⟩=>⟨v,z,k y⟩⟩;exact .inr ⟨v,j,a,k b⟩
def Sb(L:O3){args2 args3:O0}{T2 b:aK}{R:AV}{K:AV->aK->Prop}(I:O3)(d:EK args args')(e:L.Nodup)(m:∀i∈L,i<T.length)(k:xF L args'=args2)(l:GX L T=T2)
 (o:shA args2 T2 I=args3) (n:shT args2 T2 I=b) (h:iZ args3=[]) (j:aA P G f args3 [] λr a=>r=R/\a=[]) (c:MM R=[]) (g:K R (IF L T.length T L b)):@aK8 P G f args T ⟨K⟩ :=
 aG L (post:=λr a=>r=R/\a=b) d e m k l (aA.sh I o n (aA.ofCall (aU (aB _) h j c ⟨rfl,rfl⟩))) λr a ⟨p,h2⟩=>by subst p;subst h2;rw[Yo c];exact g
end
def aN(a b:O6):O6:=sQ (a.filter λx=>!decide (x∈b))
def aFK(l:O6)(x:Id)(d:l.length<=1000000):aA PQ G aAD [ids l,.ag x.A] [] λr T=>(∃n:Int,r=iv n/\decide (n>=0)=decide (x∈l))/\T=[]:=by
 apply aC rB;simp only[go_sem,aP,Id.A_def];refine aQ l.length (λi=>⟨0,[(0,ids l),(3,.ptr 0 0),(7,iv l.length),(8,iv i)],[some (.box x.A)]⟩) (λi=>x∉l.take i) ?_ k_ ?_ ?_;rfl;intro i a b;simp only[go_sem,aT a,aO Id.A l i a,Id.A_def];refine aL (λh=>?_) (λh=>?_)<;>simp only[go_sem,fQ i o_];simp_all;refine⟨rfl,?_⟩;have e:x≠l[i]:=n_;intro c;rw[lq8 a]at c;grind;intro b;rw[dE]at b;simp only[go_sem,aS (bP _)];simp_all
def Dx(l:O6)(x:Id)(b:l.length<=1000000):aA PQ G bJ [ids l,.ag x.A] [] λr T=>r=.v (.bool (decide (x∈l)))/\T=[]:=by refine aC pI ?_;simp only[go_sem,Id.A_def];apply Jo (aFK l x b);rintro r c ⟨⟨n,rfl,a⟩,rfl⟩;simp only[go_sem,a]
def aPY(b:O6)(x:Id)(a:b.length<=1000000):aA PQ G aC1 [.ag x.A,.ptr 0 0] [some (.box [ids b])] λr T=>r=.v (.bool (decide (x∈b)))/\T=[some (.box [ids b])]:=by refine aC aOU ?_;simp only[go_sem,Id.A_def];apply cX (Dx b x a);simp only[go_sem]
def aSc(l b:O6)(f:l.length<=1000000)(e:b.length<=1000000):aA PQ G bB [.own 0,.cl aC1 [.ptr 1 0]] [some (.arr 3 (l.map Id.A)),some (.box [ids b])] λr T=>
 ((r=iv (-1)/\∀x∈l,x∉b)\/(∃j:Nat,j<l.length/\r=iv j/\(∀x∈l.take j,x∉b)/\∃h:j<l.length,l[j]∈b))/\T=[some (.arr 3 (l.map Id.A)),some (.box [ids b])]:=by
 apply aC cJ;simp only[go_sem,aP];refine aQ l.length (λi=>⟨2,[(0,.own 0),(1,.cl aC1 [.ptr 1 0]),(7,iv l.length),(8,iv i)],[some (.arr 3 (l.map Id.A)),some (.box [ids b])]⟩) (λi=>∀x∈l.take i,x∉b) ?_ k_ ?_ ?_;simp only[go_sem];intro i a c;simp only[go_sem,aP,aT a,a,aO Id.A l i a,Id.A_def];apply aG [1] (aB _) s_ k_ rfl rfl (aPY b l[i] e);rintro r g ⟨rfl,rfl⟩;simp only[go_sem];refine aL (λh=>?_) (λh=>?_)<;>simp only[go_sem,fQ i o_];grind;refine λx d=>?_;rw[lq8 a]at d;grind;intro c;rw[dE]at c;simp only[go_sem,aS (bP _)];exact .inl c
def aWd(l b:O6)(r:AV)(T:aK):Prop:=(r=.own 0/\(l.filter λx=>!decide (x∈b))=l/\T=[some (.arr 3 (l.map Id.A)),some (.box [ids b])]) \/
 ∃(L:O6)(n:Nat),n<=L.length/\L.length=l.length/\L.take n=(l.filter λx=>!decide (x∈b))/\r=.vw 0 3 0 n/\T=[some (.arr 3 (L.map Id.A)),some (.box [ids b])]
def Id.A_zero:[AV.v (.int .i64 0),AV.v (.int .i64 0),AV.v (.int .u64 0)]=Id.A ⟨0,0,0⟩:=rfl
def aRI (l b:O6) (B:l.length<=1000000) (w:b.length<=1000000):aA PQ G bE [.own 0,.cl aC1 [.ptr 1 0]] [some (.arr 3 (l.map Id.A)),some (.box [ids b])] (aWd l b):=by
 apply aC iD;simp only[go_sem];apply aG [0,1] (aB _) s_ k_ rfl rfl (aSc l b B w);rintro r F ⟨z,rfl⟩;rcases z with⟨rfl,d⟩|⟨c,q,rfl,d,_,t⟩
 simp only[go_sem];refine .inl ⟨rfl,?_,rfl⟩;simp_all;have E:((c:Int)==-1)=false:=K_;simp only[go_sem,E,fQ c o_];refine cO (λm s=>∃(i j:Nat)(L:O6),m=l.length-j/\i<j/\j<=l.length/\L.length=l.length/\L.take i=((l.take j).filter λx=>!decide (x∈b))/\L.drop j=l.drop j/\s=⟨2,[(0,.own 0),(1,.cl aC1 [.ptr 1 0]),(5,iv i),(6,iv j)],[some (.arr 3 (L.map Id.A)),some (.box [ids b])]⟩) (l.length-(c+1))
  ⟨c,c+1,l,rfl,o_,o_,rfl,?_,rfl,a_⟩ ?_
 rw[lq8 q,Mf,Gm.2 (λx y=>by simp[d x y])];simp[t];rintro m s ⟨i,j,L,rfl,C,H,k,n,u,rfl⟩;by_cases a:j<l.length;have p:j<L.length:=o_;have f:i<L.length:=o_;have D:L[j]=l[j]:=by
  have I:(L.drop j)[0]?=(l.drop j)[0]?:=by rw[u]
  grind
 have g:L.drop (j+1)=l.drop (j+1):=by have:=congrArg (List.drop 1) u;grind[List.drop_drop]
 simp only[go_sem,aP,k,aT a,a,aO Id.A L j p,Id.A_def];apply aG [1] (aB _) s_ k_ rfl rfl (aPY b L[j] w);rintro r F ⟨rfl,rfl⟩;simp only[go_sem];refine aL (λh=>?_) (λh=>?_);have o:L[j]∉b:=n_;simp only[go_sem,aP,k,(o_:i<l.length),aO Id.A L i f,Id.A_def,fQ i o_,fQ j o_];refine⟨l.length-(j+1),o_,i+1,j+1,L.set i L[j],rfl,o_,o_,sj,?_,?_,?_⟩;rw[lq8 de,lq8 a,Mf,<-n,YC,List.take_set_of_le (cN i)];simp_all;rw[List.drop_set_of_lt o_,g];rw[Ba];rfl;have o:L[j]∈b:=n_;simp only[go_sem,fQ j o_];refine⟨l.length-(j+1),o_,i,j+1,L,rfl,o_,o_,k,?_,g,rfl⟩;rw[lq8 a,Mf,<-n];simp_all;obtain rfl:j=l.length:=o_;rw[dE]at n;have e:i<=l.length:=o_;simp only[go_sem,aP,k,aS a,e,(o_:i+(l.length-i)=l.length),QE,eC,vY,Kj e,YN];refine .inr ⟨L.take i++List.replicate (l.length-i) ⟨0,0,0⟩,i,f_,f_,?_,rfl,?_⟩;grind;simp only[bZ,QN,YH,Id.A_zero];simp_all
def MO(a:O6)(b:a.length<=1000000):aA PQ G bF [ids a] [] λr T=>r=.own 0/\T=[some (.arr 3 (a.map Id.A))]:=by
 apply aC rA
 cases a with
 |nil=>simp only[go_sem,ids,(s_:0<=maxLen)]|cons x a=>
  have d:(a.length+1)*24<=140737488355328:=by simp at b;omega
  have c:a.length+1<=maxLen:=by simp at b;unfold maxLen;omega
  simp only[go_sem,ids,aP,d,c]
def aQc(l:O6)(n:Nat)(i:n<=l.length)(j:l.length<2^62):aA PQ G aMc [.vw 0 3 0 n] [some (.arr 3 (l.map Id.A))] λr T=>r=.vw 0 3 0 n/\T=[some (.arr 3 ((sQ (l.take n)++l.drop n).map Id.A))]:=by
 have a:∀x y:Id,Go.Proofs.ltOf Wi x y=x.lt y:=by grind[Go.Proofs.ltOf,Wi]
 have b:=aUS (k:=3) (enc:=Id.K) Go.Proofs.Tryz.laysSort Go.Proofs.Tryz.isAgg71 Go.Proofs.Tryz.sizeOf71 (λ_=>rfl) (λx v f=>by simp[Id.K]at f;rcases f with rfl|rfl|rfl<;>rfl)
  (λx c h=>by simp[cellsOf,Id.K]at h;rcases h with rfl|rfl|rfl<;>rfl) (cf:=Wi)
  ⟨λx=>by rw[a,Id.lt_irrefl],λx y z d h2=>by rw[a]at *;exact Id.lt_trans d h2,λx y z d h2=>by rw[a]at *;exact Id.nlt_trans d h2⟩
  (λx y d h2=>by rw[a]at *;exact Id.lt_total d h2) (g:=aGg) (Go.Proofs.enters_of Go.Proofs.Tryz.func287 r_ rfl) (Go.Proofs.enters_of Go.Proofs.Tryz.func144 r_ rfl) (G:=G) aOq l n i j
 have e:(λx y:Id=>!(Go.Proofs.ltOf Wi y x))=λx y=>!(y.lt x):=by funext x y;rw[a]
 rw[e]at b;apply aC aOa;simp only[go_sem];apply aG [0] (aB _) s_ k_ rfl rfl b;rintro r m ⟨rfl,rfl⟩;simp only[go_sem];rfl
theorem W9(l:O6):(sQ l).length=l.length:=(H4 l _).length_eq
def aSP(a b:O6)(c:a.length<=1000000)(h:b.length<=1000000):aA PQ G aJI [ids a,ids b] [] λr T=>(r=.own 0/\T=[some (.arr 3 ((aN a b).map Id.A))])\/∃(M N:O6)(n:Nat),n=M.length/\M=aN a b/\r=.vw 0 3 0 n/\T=[some (.arr 3 ((M++N).map Id.A))]:=by
 apply aC aPl;simp only[go_sem];apply aBF (MO a c);simp only[go_sem];apply aG [1,0] (aB _) s_ k_ rfl rfl (aRI a b c h);rintro r d e;rcases e with⟨rfl,g,rfl⟩|⟨L,n,f,j,i,rfl,rfl⟩
 simp only[go_sem];apply aG [1] (aB _) s_ k_ rfl rfl (aQD a o_);rintro r d ⟨rfl,rfl⟩;simp only[go_sem];left;rw[aN,g];simp only[go_sem];apply aG [1] (aB _) s_ k_ rfl rfl (aQc L n f o_);rintro r d ⟨rfl,rfl⟩;simp only[go_sem];grind[W9,List.length_take,aN]
def aRj(a b:O6)(e:a.length<=1000000)(d:b.length<=1000000):aA PQ G aJI [ids a,ids b] [] λr T=>r=ids (aN a b)/\T=[]:=by
 refine(aSP a b e d).fin [0] ?_;rintro r h (⟨rfl,rfl⟩|⟨M,N,n,rfl,f,rfl,rfl⟩);simp only[go_sem];have c:((M++N).map Id.A).take M.length=M.map Id.A:=k_;generalize g:(M++N).map Id.A=E at c;have h2:M.length<=E.length:=by rw[<-g];simp
 rw[<-f];simp only[go_sem,h2,c]
structure GM where
 Cards:List CardM
 L:List OpM
 I:List Id
 Up:List (List Nat)
 In:List (List Bool)
 deriving DecidableEq,Inhabited
abbrev Sa(l:List Nat):AV:=.ls 1 (l.map λn:Nat=>[iv (n:Int)])
abbrev wI(l:List Bool):AV:=.ls 1 (l.map λb=>[AV.v (.bool b)])
def GM.A(g:GM):O0:=[.ls 5 (g.Cards.map CardM.A),.ls 27 (g.L.map OpM.A),ids g.I,.ls 1 (g.Up.map λl=>[Sa l]),.ls 1 (g.In.map λl=>[wI l])]
def GM.A_def(g:GM):g.A=[.ls 5 (g.Cards.map CardM.A),.ls 27 (g.L.map OpM.A),ids g.I,.ls 1 (g.Up.map λl=>[Sa l]),.ls 1 (g.In.map λl=>[wI l])]:=fI rfl rfl
def GM.g0(g:GM):g.A[0]?=some (.ls 5 (g.Cards.map CardM.A)):=fI rfl rfl
def GM.g1(g:GM):g.A[1]?=some (.ls 27 (g.L.map OpM.A)):=fI rfl rfl
def GM.g2(g:GM):g.A[2]?=some (ids g.I):=fI rfl rfl
def GM.g3(g:GM):g.A[3]?=some (.ls 1 (g.Up.map λl=>[Sa l])):=fI rfl rfl
def GM.g4(g:GM):g.A[4]?=some (.ls 1 (g.In.map λl=>[wI l])):=fI rfl rfl
def GM.len(g:GM):g.A.length=5:=fI rfl rfl
def GM.t5(g:GM):g.A.take 5=g.A:=fI rfl rfl
def GM.ids0(g:GM):iZ g.A=[]:=fI rfl rfl
attribute [go_sem] GM.g0 GM.g1 GM.g2 GM.g3 GM.g4 GM.len GM.t5 GM.ids0
def GM.one0(g:GM):g.A.all gS=true:=by simp[GM.A,gS]
def GM.one(g:GM):g.A.all gS=true:=GM.one0 g
def GM.rn(L:O3)(g:GM):xF L g.A=g.A:=fI rfl rfl
def GM.bk(L:O3)(n:Nat)(g:GM):EJ L n g.A=g.A:=fI rfl rfl
def GM.sl(i k:Nat)(es:N_)(g:GM):IB i k es g.A=g.A:=fI rfl rfl
attribute [go_sem] GM.one GM.rn GM.bk GM.sl
structure GM.ok(g:GM):Prop where
 n:g.L.length<=1000
 cn:g.Cards.length<=1000
 cs:∀c∈g.Cards,c.ok
 ops:∀o∈g.L,o.ok
 i:g.I.length=g.L.length
 is:∀x∈g.I,x.ok
 un:g.Up.length=g.L.length
 up:∀u∈g.Up,u.length<=1000/\∀k∈u,k<g.L.length
 inn:g.In.length=g.L.length
 ins:∀r∈g.In,r.length=g.L.length
def aW(I:O6)(x:Id):Int:=qX (λy=>decide (y=x)) I
def gM(cs:List CardM)(d:Int):CardM×Bool:=match cs.find? (λc=>c.Device==d) with|some c=>(c,true)|none=>(default,false)
def OG(d:List O3)(c:O3)(a:List Bool)(i:Nat):List Bool :=
 if(if decide (i∈c) then a.set i true else a).getD i false then(d.getD i []).foldl (λb k=>b.set k true) (if decide (i∈c) then a.set i true else a) else(if decide (i∈c) then a.set i true else a)
def Kx(c:List O3)(b:O3):Nat->List Bool->List Bool|0,a=>a|i+1,a=>Kx c b i (OG c b a i)
def oL(g:GM)(a:O3):List Bool:=Kx g.Up a g.L.length (List.replicate g.L.length false)
def I0(o:OpM)(e:OpM×Bool):Bool:=e.2&&e.1.By==o.By
def FT(L:List OpM)(o:OpM)(a:List Bool):Bool :=
 (L.zip a).all (λe=>!(I0 o e)||decide (e.1.Seq<o.Seq))&&((o.Seq==1)||(L.zip a).any λe=>I0 o e&&e.1.Seq==o.Seq-1)
def Pu(I:O6)(l:O6):Option O3:=if l.all (λx=>decide (0<=aW I x)) then some (l.map λx=>(aW I x).toNat) else none
def J0(g:GM)(o:OpM)(a:O3):Bool:=a.all λi=>(a.all λk=>!((g.In.getD i []).getD k false))&&!decide (o.At<(g.L.getD i default).At)
def OpM.e1(o:OpM):(o.A.drop 1)[0]?=some (iv o.Seq):=fI rfl rfl
def OpM.e2(o:OpM):(o.A.drop 2)[0]?=some (iv o.Kind):=fI rfl rfl
def OpM.e3(o:OpM):(o.A.drop 3)[0]?=some (iv o.At):=fI rfl rfl
def OpM.e4(o:OpM):(o.A.drop 4)[0]?=some (ids o.Past):=fI rfl rfl
def OpM.e5(o:OpM):(o.A.drop 5)[0]?=some (iv o.Device):=fI rfl rfl
def OpM.e6(o:OpM):(o.A.drop 6)[0]?=some (iv o.Old):=fI rfl rfl
def OpM.e7(o:OpM):(o.A.drop 7)[0]?=some (iv o.Member):=fI rfl rfl
def OpM.e8(o:OpM):(o.A.drop 8)[0]?=some (iv o.Role):=fI rfl rfl
def OpM.e9(o:OpM):(o.A.drop 9)[0]?=some (.ls 2 (o.Path.map NodeM.A)):=fI rfl rfl
def OpM.e13(o:OpM):(o.A.drop 13)[0]?=some (iv o.N):=fI rfl rfl
def OpM.e14(o:OpM):(o.A.drop 14)[0]?=some (.ls 1 (bl o.Body)):=fI rfl rfl
def OpM.e15(o:OpM):(o.A.drop 15)[0]?=some (.ls 1 (ul o.Refs)):=fI rfl rfl
def OpM.e19(o:OpM):(o.A.drop 19)[0]?=some (rG o.Guards):=fI rfl rfl
def OpM.e20(o:OpM):(o.A.drop 20)[0]?=some (iv o.Need):=fI rfl rfl
def OpM.e21(o:OpM):(o.A.drop 21)[0]?=some (iv o.Wait):=fI rfl rfl
def OpM.e22(o:OpM):(o.A.drop 22)[0]?=some (F5 o.Boxes):=fI rfl rfl
def OpM.e23(o:OpM):(o.A.drop 23)[0]?=some (uv o.Pub):=fI rfl rfl
def OpM.e24(o:OpM):(o.A.drop 24)[0]?=some (.ls 4 (o.Hist.map SealM.A)):=fI rfl rfl
def OpM.e25(o:OpM):(o.A.drop 25)[0]?=some (uv o.SR):=fI rfl rfl
def OpM.e26(o:OpM):(o.A.drop 26)[0]?=some (uv o.SS):=fI rfl rfl
attribute [go_sem] OpM.e1 OpM.e2 OpM.e3 OpM.e4 OpM.e5 OpM.e6 OpM.e7 OpM.e8 OpM.e9 OpM.e13 OpM.e14 OpM.e15 OpM.e19 OpM.e20 OpM.e21 OpM.e22 OpM.e23 OpM.e24 OpM.e25 OpM.e26
theorem aY2:FP=PP:=rfl
abbrev fu(a:Fq):Value:=.int .u64 (a.val:Int)
def FU(a:Fq):a.val<2305843009213693951:=a.isLt
def aJX(a:Fq):aA PQ G gV [.v (fu a)] [] λr b=>r=.v (fu a)/\b=[]:=by have:=Gy G a.val (by have:=FU a;omega);rwa[EZ (show a.val<FP from a.isLt)]at this
def aJY(a b:Fq):aA PQ G Br [.v (fu a),.v (fu b)] [] λr c=>r=.v (fu (a+b))/\c=[]:=
 aJT G a.val b.val (by have:=FU a;omega) (by have:=FU b;omega)
def Ud(a b:Fq):aA PQ G qW [.v (fu a),.v (fu b)] [] λr c=>r=.v (fu (a*b))/\c=[]:=
 aJU G a.val b.val (by have:=FU a;omega) (by have:=FU b;omega)
def aRk(x y:Nat)(h:y<=x)(h2:x<2^64):bV .sub (.int .u64 (x:Int)) (.int .u64 (y:Int))=some (.int .u64 ((x-y:Nat):Int)):=by simp only[bV,if_true];rw[(o_:(x:Int)-(y:Int)=((x-y:Nat):Int)),bS _ o_]
def aU6(x:Nat)(h2:x<2305843009213693951):bV .add (.int .u64 (x:Int)) (.int .u64 2305843009213693951)=some (.int .u64 ((x+2305843009213693951:Nat):Int)):=by simp only[bV,if_true];rw[(o_:(x:Int)+2305843009213693951=((x+2305843009213693951:Nat):Int)),bS _ o_]
def aXp(a b:Fq):(a.val+2305843009213693951-b.val)%FP=(a-b).val:=by grind[Fin.sub_def,aY2]
def aSd(a b:Fq):aA PQ G aM3 [.v (fu a),.v (fu b)] [] λr f=>r=.v (fu (a-b))/\f=[]:=by refine aC aQt ?_;have c:=FU a;have g:=FU b;have e:=aU6 a.val c;have d:=aRk (a.val+2305843009213693951) b.val o_ o_;simp only[go_sem];apply cX (aJX a);simp only[↓e,go_sem];apply cX (aJX b);simp only[↓d,go_sem];apply cX (Gy G _ o_);simp only[go_sem,aXp]
def aUT(a:Fq):aA PQ G aMI [.v (fu a)] [] λr b=>r=.v (fu (0-a))/\b=[]:=by refine aC aQu ?_;simp only[go_sem];apply cX (aSd 0 a);simp only[go_sem]
def aAE(a n:Nat):aA PQ G yQ [.v (.int .u64 (a:Int)),.v (.int .u64 (n:Int))] [] λr b=>r=.cl vE [.ptr 0 0,.ptr 1 0]/\b=[some (.box [.v (.int .u64 (a:Int))]),some (.box [.v (.int .u64 (n:Int))])]:=by refine aC HX ?_;simp only[go_sem]
def aJZ(a:Fq):1*a=a:=Fin.one_mul a
def aHZ(a:Fq):a*1=a:=Fin.mul_one a
def aH0(a b c:Fq):a*b*c=a*(b*c):=Fin.mul_assoc a b c
def aH1(a b:Fq):a*b=b*a:=Fin.mul_comm a b
def aK0(a:Fq):a^1=a:=m_
def OH(a:Fq):a^0=1:=m_
def aAF(x:Nat)(c:x<2^64):bV .and (.int .u64 (x:Int)) (.int .u64 1)=some (.int .u64 ((x%2:Nat):Int)):=by
 have d:(BitVec.ofInt 64 (x:Int)).toNat=x:=e_;have h2:(BitVec.ofInt 64 1).toNat=2^1-1:=s_;have b:(BitVec.ofInt 64 (x:Int) &&& BitVec.ofInt 64 1).toNat=x%2:=k_;have a:bV .and (.int .u64 (x:Int)) (.int .u64 1)=some (.int .u64 (IntKind.u64.wrap ((BitVec.ofInt 64 (x:Int) &&& BitVec.ofInt 64 1).toNat:Int))):=K_;rw[a,b,bS _ o_]
def Qu(x:Nat):bV .shr (.int .u64 (x:Int)) (.int .u64 1)=some (.int .u64 ((x/2:Nat):Int)):=by
 have:(x:Int).fdiv (2^min 1 64)=((x/2:Nat):Int):=m_;rw[<-this];simp only[bV];rfl
def aD8 (a:Fq) (n:Nat) (k:n<2^64):aA PQ G xU [.v (fu a),.v (.int .u64 (n:Int))] [] λr t=>r=.v (fu (a^n))/\t=[]:=by
 apply aC N5;simp only[go_sem];apply aBF (aAE a.val n);simp only[go_sem];refine NX rfl (vZ yA) λr p h2 j h=>?_;simp only[go_sem];refine Ic [0,1,2,3] (aB _) s_ (λi o=>by simp at o⊢;omega) rfl rfl (aC yA ?_);simp only[go_sem];apply cX (aJX a);simp only[go_sem];refine cO (λm s=>∃out b:Fq,out*b^m=a^n/\m<2^64/\s=⟨4,[(0,.yl 3),(2,.ptr 2 0),(4,.v (fu b))],[some (.box [.v (fu out)]),some (.box [.v (fu a)]),some (.box [.v (.int .u64 (m:Int))]),some (.lp r [(5,.ptr 0 0)])]⟩) n ⟨1,a,aJZ _,k,?_⟩ ?_;simp only[go_sem];rfl;rintro m s ⟨out,b,d,l,rfl⟩;rcases JX m with rfl|c;have g:decide (((0:Nat):Int)>0)=false:=s_;simp only[go_sem,p,h2];have:out=a^n:=by rw[<-d,OH,aHZ]
 subst this;rfl;have g:decide ((m:Int)>0)=true:=oW;have q:=aAF m l;simp only[go_sem,g,↓q];apply j _ _ _ _ _ rfl rfl;simp only[go_sem];refine aL (λe=>?_) (λe=>?_);simp only[go_sem];apply cX (Ud out b);simp only[go_sem];apply cX (Ud b b);simp only[↓Qu,go_sem];refine⟨m/2,o_,out*b,b*b,?_,o_,rfl⟩;have f:m%2=1:=by simp at e;omega
 rw[<-d,MD b m,f,aH0,aK0,aH1 b];simp only[go_sem];apply cX (Ud b b);simp only[↓Qu,go_sem];refine⟨m/2,o_,out,b*b,?_,o_,rfl⟩;have f:m%2=0:=by simp at e;omega
 rw[<-d,MD b m,f,OH,aHZ]
def aTp(a:Fq):aA PQ G aMH [.v (fu a)] [] λr b=>r=.v (fu (inv a))/\b=[]:=by refine aC aQw ?_;simp only[go_sem];apply cX (aD8 a 2305843009213693949 s_);simp only[go_sem];rfl
def mD(x m:Nat)(h:m≠0):bV .rem (.int .u64 (x:Int)) (.int .u64 (m:Int))=some (.int .u64 ((x%m:Nat):Int)):=by grind[bV]
def Cp(x m:Nat)(h:m≠0)(a:x<2^64):bV .quo (.int .u64 (x:Int)) (.int .u64 (m:Int))=some (.int .u64 ((x/m:Nat):Int)):=by
 have:(m:Int)≠0:=o_;have h2:x/m<2^64:=QJ (Ml _ _) a;simp only[bV,if_true,if_neg this];rw[Int.tdiv_eq_ediv_of_nonneg o_,<-Int.natCast_ediv,bS _ h2]
def aPd(x:Nat):bV .rem (.int .u64 (x:Int)) (.int .u64 2305843009213693951)=some (.int .u64 ((x%2305843009213693951:Nat):Int)):=mD x 2305843009213693951 s_
def Wt(x:Nat):bV .rem (.int .u64 (x:Int)) (.int .u64 4294967296)=some (.int .u64 ((x%2^32:Nat):Int)):=mD x 4294967296 s_
def Wu(x:Nat):bV .rem (.int .u64 (x:Int)) (.int .u64 536870912)=some (.int .u64 ((x%536870912:Nat):Int)):=mD x 536870912 s_
def aAG(x:Nat):bV .rem (.int .u64 (x:Int)) (.int .u64 2)=some (.int .u64 ((x%2:Nat):Int)):=mD x 2 s_
def aSQ(x:Nat):bV .rem (.int .u64 (x:Int)) (.int .u64 1152921504606846976)=some (.int .u64 ((x%1152921504606846976:Nat):Int)):=mD x 1152921504606846976 s_
def OI(x:Nat)(a:x<2^64):bV .quo (.int .u64 (x:Int)) (.int .u64 4294967296)=some (.int .u64 ((x/2^32:Nat):Int)):=Cp x 4294967296 s_ a
def Wv(x:Nat)(a:x<2^64):bV .quo (.int .u64 (x:Int)) (.int .u64 536870912)=some (.int .u64 ((x/536870912:Nat):Int)):=Cp x 536870912 s_ a
def aAH(x:Nat)(a:x<2^64):bV .quo (.int .u64 (x:Int)) (.int .u64 2)=some (.int .u64 ((x/2:Nat):Int)):=Cp x 2 s_ a
def Ww(x:Nat)(h:x*2^32<2^64):bV .mul (.int .u64 (x:Int)) (.int .u64 4294967296)=some (.int .u64 ((x*2^32:Nat):Int)):=lE x 4294967296 h
def aAI(x:Nat)(h:8*x<2^64):bV .mul (.int .u64 8) (.int .u64 (x:Int))=some (.int .u64 ((8*x:Nat):Int)):=lE 8 x h
def aH2(a b:Fq):aA PQ G GB [.v (fu a),.v (fu b)] [] λr h=>r=.v (fu (a+b))/\h=[]:=by refine aC SN ?_;have f:=FU a;have e:=FU b;have d:a.val%2305843009213693951=a.val:=EZ f;have c:b.val%2305843009213693951=b.val:=EZ e;have g:=eY a.val b.val o_;simp only[↓aPd,d,c,↓g,go_sem];rfl
def aD9(x y:Nat)(l h m:Nat)(b:l=x%2^32*(y%2^32))(a:m=x/2^32*(y%2^32)+x%2^32*(y/2^32))(c:h=x/2^32*(y/2^32)):
 (l%2305843009213693951+m%536870912*2^32+m/536870912+8*h)%2305843009213693951=x*y%2305843009213693951:=by
 rw[Qm x y,<-b,<-a,<-c];omega
def Ue(a b:Fq):aA PQ G AX [.v (fu a),.v (fu b)] [] λr J=>r=.v (fu (a*b))/\J=[]:=by
 apply aC SL;have f:=FU a;have I:=FU b;have e:(a*b).val=a.val*b.val%2305843009213693951:=rfl;unfold fu;rw[e];generalize a.val=x at *
 generalize b.val=y at *
 have D:x%2305843009213693951=x:=EZ f;have B:y%2305843009213693951=y:=EZ I;have d:∀a c A C:Nat,a<=A->c<=C->a*c<=A*C:=λa c A C f H=>aJh f H;have N:=d (x%2^32) (y%2^32) 4294967295 4294967295 o_ o_;have M:=d (x/2^32) (y%2^32) 536870911 4294967295 o_ o_;have L:=d (x%2^32) (y/2^32) 4294967295 536870911 o_ o_;have K:=d (x/2^32) (y/2^32) 536870911 536870911 o_ o_;have q:=OI x o_;have p:=OI y o_;have z:=lE (x%2^32) (y%2^32) o_;have w:=lE (x/2^32) (y%2^32) o_;have u:=lE (x%2^32) (y/2^32) o_;have t:=lE (x/2^32) (y/2^32) o_;have s:=eY (x/2^32*(y%2^32)) (x%2^32*(y/2^32)) o_;have E:x/2^32*(y%2^32)+x%2^32*(y/2^32)<=4611686008763711490:=o_;have F:=aD9 x y _ _ _ rfl rfl rfl;generalize x%2^32*(y%2^32)=l at *
 generalize x/2^32*(y%2^32)+x%2^32*(y/2^32)=m at *
 generalize x/2^32*(y/2^32)=h at *
 have o:=Ww (m%536870912) o_;have n:=eY (l%2305843009213693951) (m%536870912*2^32) o_;have k:=Wv m o_;have j:=eY (l%2305843009213693951+m%536870912*2^32) (m/536870912) o_;have i:=aAI h o_;have g:=eY (l%2305843009213693951+m%536870912*2^32+m/536870912) (8*h) o_;simp only[↓aPd,D,B,↓Wt,↓q,↓p,↓z,↓w,↓u,↓t,↓s,↓Wu,↓o,↓n,↓k,↓j,↓i,↓g,go_sem,F]
def Uf (a:Fq) (n:Nat) (j:n<2^64):aA PQ G wD [.v (fu a),.v (.int .u64 (n:Int))] [] λr o=>r=.v (fu (a^n))/\o=[]:=by
 apply aC SO;have i:a.val%2305843009213693951=a.val:=EZ (FU a);simp only[↓aPd,i,go_sem];refine cO (λm s=>∃out b:Fq,out*b^m=a^n/\m<2^64/\s=⟨0,[(5,.v (fu out)),(6,.v (fu b)),(7,.v (.int .u64 (m:Int)))],[]⟩) n ⟨1,a,aJZ _,j,?_⟩ ?_;rfl;rintro m s ⟨out,b,f,k,rfl⟩;rcases JX m with rfl|c;have g:decide (((0:Nat):Int)>0)=false:=s_;have:out=a^n:=m_;subst this;simp only[go_sem];have g:decide ((m:Int)>0)=true:=oW;have l:=aAG m;have h:=aAH m k;simp only[go_sem,g,↓l];refine aL (λd=>?_) (λd=>?_);have e:m%2=1:=by simp at d;omega
 simp only[go_sem];apply cX (Ue out b);simp only[go_sem];apply cX (Ue b b);simp only[go_sem,↓h];refine⟨m/2,o_,out*b,b*b,?_,o_,rfl⟩;rw[<-f,MD b m,e,aH0,aK0,aH1 b];have e:m%2=0:=by simp at d;omega
 simp only[go_sem];apply cX (Ue b b);simp only[go_sem,↓h];refine⟨m/2,o_,out,b*b,?_,o_,rfl⟩;rw[<-f,MD b m,e,OH,aHZ]
@[go_sem] def aZa:IntKind.i64.wrap 0=0:=s_
@[go_sem] def aMl:IntKind.u64.wrap 0=0:=s_
@[go_sem] def aMm:IntKind.i64.wrap 1=1:=s_
@[go_sem] def aZb:IntKind.u64.wrap 1=1:=s_
@[go_sem] def aMo:IntKind.i64.wrap 2=2:=s_
@[go_sem] def aZc:IntKind.u64.wrap 2=2:=s_
@[go_sem] def aMq:IntKind.i64.wrap 3=3:=s_
@[go_sem] def aZd:IntKind.u64.wrap 3=3:=s_
@[go_sem] def aMs:IntKind.i64.wrap 4=4:=s_
@[go_sem] def aZe:IntKind.u64.wrap 4=4:=s_
@[go_sem] def aZf:IntKind.i64.wrap 5=5:=s_
@[go_sem] def aZg:IntKind.u64.wrap 5=5:=s_
@[go_sem] def aZh:IntKind.i64.wrap 6=6:=s_
@[go_sem] def aZi:IntKind.u64.wrap 6=6:=s_
@[go_sem] def aMy:IntKind.i64.wrap 7=7:=s_
@[go_sem] def aZj:IntKind.u64.wrap 7=7:=s_
@[go_sem] def aZk:IntKind.i64.wrap 8=8:=s_
@[go_sem] def aZl:IntKind.u64.wrap 8=8:=s_
@[go_sem] def aY3:IntKind.i64.wrap 16=16:=s_
@[go_sem] def aY4:IntKind.u64.wrap 16=16:=s_
@[go_sem] def aY5:IntKind.i64.wrap 24=24:=s_
@[go_sem] def aY6:IntKind.u64.wrap 24=24:=s_
@[go_sem] def aY7:IntKind.i64.wrap 32=32:=s_
@[go_sem] def aY8:IntKind.u64.wrap 32=32:=s_
@[go_sem] def aY9:IntKind.i64.wrap 64=64:=s_
@[go_sem] def aYa:IntKind.u64.wrap 64=64:=s_
def nG(s w:Fq)(k:Nat):Fq:=(37*s+(w+Fin.ofNat PP k))^17
def Qv(n:Nat)(h:n<PP):((Fin.ofNat PP n:Fq)).val=n:=EZ h
def aFv(w:Fq)(k:Nat)(h:k<PP):(w.val+k)%FP=(w+Fin.ofNat PP k).val:=by rw[Fin.val_add,Qv k h];rfl
def eW:Fq:=⟨1835363429,s_⟩
def aPL(s w:Fq)(k:Nat)(g:k<1000):aA PQ G jZ [.ptr 0 0,.own 1] [some (.box [.v (fu s),.v (.int .u64 (k:Int))]),some (.arr 1 [[.v (fu w)]])] λr d=>
 d=[some (.box [.v (fu (nG s w (k+1))),.v (.int .u64 ((k+1:Nat):Int))]),some (.arr 1 [[.v (fu w)]])]:=by
 apply aC FO;have f:=FU w;have a:=eY k 1 o_;have c:=eY w.val (k+1) o_;have e:=aFv w (k+1) S_;simp only[aHD]at a;have b:IntKind.u64.wrap ((w.val:Int)+((k+1:Nat):Int))=((w.val+(k+1):Nat):Int):=by rw[<-Int.natCast_add,bS _ o_]
 simp only[go_sem];refine aQ 1 (λi=>⟨2,[(0,.ptr 0 0),(6,.own 1),(7,iv 1),(8,iv i)],[some (.box [.v (fu (if i=0 then s else nG s w (k+1))),.v (.int .u64 ((k+i:Nat):Int))]),some (.arr 1 [[.v (fu w)]])]⟩) (λ_=>True) ?_ trivial ?_ ?_;simp only[go_sem];intro i h _;obtain rfl:i=0:=o_;simp only[go_sem,↓a,↓c];apply cX (Ud 37 s);simp only[go_sem,b];apply cX (Gy G (w.val+(k+1)) o_);simp only[go_sem,e];apply cX (aJY (37*s) (w+Fin.ofNat PP (k+1)));simp only[go_sem];apply cX (aD8 _ 17 s_);simp only[go_sem,nG];intro _;simp only[go_sem]
def Y5(es:N_):aA PQ G AB [.ls 1 es] [] λr a=>r=.cl nS [.ptr 0 0]/\a=[some (.box [.ls 1 es])]:=by refine aC LW ?_;simp only[go_sem]
def Y6(es:N_):aA PQ G aH9 [.ls 1 es,iv 7] [] λr a=>r=.cl kS [.ptr 0 0,.ptr 1 0]/\a=[some (.box [.ls 1 es]),some (.box [iv 7])]:=by refine aC yU ?_;simp only[go_sem]
def Dn:Fq->Nat->List Fq->Fq|s,_,[]=>s|s,k,w::l=>Dn (nG s w (k+1)) (k+1) l
def aTq(l:O3):Fq:=Dn 4 0 ([eW,Fin.ofNat PP l.length]++l.map (Fin.ofNat PP)++[0])
abbrev eB:List (List AV):=[[.v (.int .u8 101)],[.v (.int .u8 108)],[.v (.int .u8 101)],[.v (.int .u8 109)]]
def aYb:lJ (bs [101,108,101,109])=eB:=K_
def aYc:(bs [101,108,101,109]).size=4:=K_
def aYd:(4:Nat)<=maxLen:=s_
def aSR:Nat->Int|0=>0|1=>101|2=>27749|3=>6646885|_=>1835363429
def hI(a b c:Nat):Nat->Fq|0=>nG (nG 4 eW 1) (Fin.ofNat PP 3) 2|1=>nG (nG (nG 4 eW 1) (Fin.ofNat PP 3) 2) (Fin.ofNat PP a) 3|2=>nG (nG (nG (nG 4 eW 1) (Fin.ofNat PP 3) 2) (Fin.ofNat PP a) 3) (Fin.ofNat PP b) 4|_=>nG (nG (nG (nG (nG 4 eW 1) (Fin.ofNat PP 3) 2) (Fin.ofNat PP a) 3) (Fin.ofNat PP b) 4) (Fin.ofNat PP c) 5
def aZB(c b a:Nat)(J:c<2^64)(h2:b<2^64)(I:a<2^64):aA PQ G GA [.v (.string (bs [101,108,101,109])),.ls 1 [[.v (.int .u64 (c:Int))],[.v (.int .u64 (b:Int))],[.v (.int .u64 (a:Int))]]] [] λr e=>
 r=.v (fu (aTq [c,b,a]))/\e=[]:=by
 apply aC SM;simp only[go_sem,aYb,aYc,aYd];apply aBF (Y5 _);simp only[go_sem];refine NX rfl (vZ qG) λr C B H F=>?_;simp only[go_sem];refine Ic [0,1,2] (aB _) s_ (λi g=>by simp at g⊢;omega) rfl rfl (aC qG ?_);simp only[go_sem];apply aBF (Y6 _);simp only[go_sem];refine NX rfl (vZ fN) λl w u E D=>?_;simp only[go_sem];refine Ic [0,1,2,3,4,5,6] (aB _) s_ (λi g=>by simp at g⊢;omega) rfl rfl (aC fN ?_);simp only[go_sem]
 refine cO (λn s=>(n=1/\s=⟨7,[(0,.yl 6),(1,.ptr 4 0),(2,.ptr 5 0),(4,iv 0)],[some (.box [.v (fu 4),.v (.int .u64 0)]),some (.box [.ls 1 eB]),some (.lp r [(5,.ptr 0 0)]),some (.box [.yl 2]),some (.box [.ls 1 eB]),some (.box [iv 7]),some (.lp l [(2,.ptr 3 0)])]⟩) \/
  (n=0/\s=⟨7,[(0,.yl 6),(1,.ptr 4 0),(2,.ptr 5 0),(4,iv 7)],[some (.box [.v (fu (nG 4 eW 1)),.v (.int .u64 ((1:Nat):Int))]),some (.box [.ls 1 eB]),some (.lp r [(5,.ptr 0 0)]),some (.box [.yl 2]),some (.box [.ls 1 eB]),some (.box [iv 7]),some (.lp l [(2,.ptr 3 0)])]⟩)) 1 (.inl ⟨rfl,?_⟩) ?_
 simp only[go_sem];rfl;rintro n s (⟨rfl,rfl⟩|⟨rfl,rfl⟩);simp only[go_sem];apply E _ _ _ _ _ rfl rfl;simp only[go_sem];refine cO (λn s=>∃j,j<=4/\n=4-j/\s=⟨7,[(2,.ptr 3 0),(4,.v (.int .u64 (aSR j))),(10,.ls 1 eB),(11,iv 4),(12,iv j)],[some (.box [.v (fu 4),.v (.int .u64 0)]),some (.box [.ls 1 eB]),some (.lp r [(5,.ptr 0 0)]),some (.box [.yl 2]),some (.box [.ls 1 eB]),some (.box [iv 7]),none]⟩) 4 ⟨0,s_,rfl,?_⟩ ?_;simp only[go_sem,aSR];rintro n s ⟨j,P,rfl,rfl⟩;have h:j=0\/j=1\/j=2\/j=3\/j=4:=o_;have t:bV .shl (.int .u64 101) (.int .i64 0)=some (.int .u64 101):=K_;have q:bV .shl (.int .u64 108) (.int .i64 8)=some (.int .u64 27648):=K_;have p:bV .shl (.int .u64 101) (.int .i64 16)=some (.int .u64 6619136):=K_;have o:bV .shl (.int .u64 109) (.int .i64 24)=some (.int .u64 1828716544):=K_;have A:bV .or (.int .u64 0) (.int .u64 101)=some (.int .u64 101):=K_;have z:bV .or (.int .u64 101) (.int .u64 27648)=some (.int .u64 27749):=K_;have y:bV .or (.int .u64 27749) (.int .u64 6619136)=some (.int .u64 6646885):=K_;have x:bV .or (.int .u64 6646885) (.int .u64 1828716544)=some (.int .u64 1835363429):=K_;have m:IntKind.u64.wrap 101=101:=s_;have O:IntKind.u64.wrap 108=108:=s_;have N:IntKind.u64.wrap 109=109:=s_;rcases h with rfl|rfl|rfl|rfl|rfl;simp only[go_sem,aSR,m,↓t,↓A];exact⟨_,s_,1,s_,rfl,rfl⟩;simp only[go_sem,aSR,O,↓q,↓z];exact⟨_,s_,2,s_,rfl,rfl⟩;simp only[go_sem,aSR,m,↓p,↓y];exact⟨_,s_,3,s_,rfl,rfl⟩;simp only[go_sem,aSR,N,↓o,↓x];grind;simp only[go_sem,aSR];apply H _ _ _ _ _ rfl rfl;simp only[go_sem];apply aG [0,7] (aB _) s_ k_ rfl rfl (aPL 4 eW 0 s_);rintro f e d;subst d;simp only[go_sem];simp;simp only[go_sem,w,u,C,B];apply aG [0,3] (aB _) s_ k_ rfl rfl (aPL (nG 4 eW 1) (Fin.ofNat PP 3) 1 s_);rintro f e d;subst d;simp only[go_sem];have M:hI c b a 1=nG (hI c b a 0) (Fin.ofNat PP c) 3:=rfl;have L:hI c b a 2=nG (hI c b a 1) (Fin.ofNat PP b) 4:=rfl;have K:hI c b a 3=nG (hI c b a 2) (Fin.ofNat PP a) 5:=rfl;refine aQ 3 (λi=>⟨0,[(4,.v (.int .u64 0)),(5,.ptr 0 0),(15,.cl nS [.ptr 1 0]),(25,.ls 1 [[.v (.int .u64 (c:Int))],[.v (.int .u64 (b:Int))],[.v (.int .u64 (a:Int))]]),(26,iv 3),(27,iv i)],[some (.box [.v (fu (hI c b a i)),.v (.int .u64 ((2+i:Nat):Int))]),some (.box [.ls 1 eB])]⟩) (λ_=>True) ?_ trivial ?_ ?_;simp only[go_sem];rfl;intro i g _;have k:i=0\/i=1\/i=2:=o_;rcases k with rfl|rfl|rfl;simp only[go_sem];apply cX (Gy G c J);simp only[go_sem];apply aG [0,2] (aB _) s_ k_ rfl rfl (aPL (hI c b a 0) (Fin.ofNat PP c) 2 s_);rintro f e d;subst d;simp only[go_sem,<-M];simp only[go_sem];apply cX (Gy G b h2);simp only[go_sem];apply aG [0,2] (aB _) s_ k_ rfl rfl (aPL (hI c b a 1) (Fin.ofNat PP b) 3 s_);rintro f e d;subst d;simp only[go_sem,<-L];simp only[go_sem];apply cX (Gy G a I);simp only[go_sem];apply aG [0,2] (aB _) s_ k_ rfl rfl (aPL (hI c b a 2) (Fin.ofNat PP a) 4 s_);rintro f e d;subst d;simp only[go_sem,<-K];intro _;simp only[go_sem];apply aG [0,2] (aB _) s_ k_ rfl rfl (aPL (hI c b a 3) 0 5 s_);rintro f e d;subst d;simp only[go_sem];rfl
end Hud
namespace Hud
set_option maxRecDepth 99999
open Go
def aR8:=eVf (cF aNQ [])
def aPM:=eVf (cF aEQ [(4,none,1),(5,none,1)])
def aQE:=eVf (cF aFd [])
def aQd:=eVf (cF aNi [(2,none,1)])
def aQF:=eVf (cF aJd [(2,none,1)])
def aQe:=eVf (cF aNk [(2,none,1),(3,some 0,1)])
def aJJ:=eVf (cF Sl [(4,none,1)])
def aPN:=eVf (cF aMF [])
def aPA:=eVf (cF aMj [])
def aR9:=eVf (cF aNL [])
def aQf:=eVf (cF aNl [(6,none,1),(7,none,0)])
def aPB:=eVf (cF aMk [])
def aQg:=eVf (cF aMa [])
def aRa:=eVf (cF aNP [(4,none,1)])
end Hud
