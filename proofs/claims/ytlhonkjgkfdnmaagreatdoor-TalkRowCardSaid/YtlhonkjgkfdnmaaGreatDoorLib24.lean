import Derived.Test.YtlhonkjgkfdnmaaGreatDoorLib04
import Derived.Test.YtlhonkjgkfdnmaaGreatDoorLib17
import Derived.Shelf.SlSortCmp.NoneTotal
import Derived.Sort.OwnSorted
set_option linter.all false
set_option maxHeartbeats 40000000
namespace Hud
open Go Go.Proofs Go.Sort Go.Shelf
def cellsOf{α:Type}(enc:α->C_)(x:α):O_:=(enc x).map .v
def SU {α:Type} [Inhabited α] {enc:α->C_} {k:Nat} (c:∀x,(enc x).length=k):∀(l:List α)(t:Nat),t<l.length*k->(l.flatMap enc)[t]?=some ((enc l[t/k]!)[t%k]!)
 |[],t,h=>by simp at h
 | x::l,t,h=>by
  have d:0<k:=by rcases JX k with h0|h0;subst h0;simp at h;exact h0
  rw[List.flatMap_cons];rcases eD t k with a|b;rw[mY (by rw[c];exact a),Nat.div_eq_of_lt a,EZ a,aGF];have:t<(enc x).length:=by rw[c];exact a
  simp[this];rw[Mc (by rw[c];exact b),c];have h1:t-k<l.length*k:=by rw[sE,aFc,Km]at h;omega
  rw[SU c l (t-k) h1];have f:t/k=(t-k)/k+1:=by have:=Nat.add_div_right (t-k) d;rw[Nat.sub_add_cancel b]at this;exact this
  have e:t%k=(t-k)%k:=(Nat.mod_eq_sub_mod b)
  rw[f,<-e];simp
def MF{α:Type}{enc:α->C_}{k:Nat}(a:∀x,(enc x).length=k)(l:List α):(l.flatMap enc).length=l.length*k:=by
 induction l with
 |nil=>simp|cons x l ih=>rw[List.flatMap_cons,dZ,a,ih,sE,aFc,Km,Nat.add_comm]
def OB{α:Type}[Inhabited α](d:Array α)(i:Nat):d.toList[i]! = d[i]! := by by_cases h:i<d.size;rw[getElem!_pos d i h,getElem!_pos d.toList i x_];simp;rw[getElem!_neg d i h,getElem!_neg d.toList i x_]
def Wg{α:Type}[Inhabited α]{enc:α->C_}{k:Nat}(a:∀x,(enc x).length=k)(d:Array α):(flatK enc k d).toList=d.toList.flatMap enc:=by
 apply EW;intro t;rcases eD t (d.size*k) with h|h;have e:(flatK enc k d).toList[t]! = (enc d.toList[t/k]!)[t%k]! := by rw[OB (flatK enc k d),get_flatK enc k d t h,OB d]
 rw[SU a d.toList t x_,<-e,aGF,jN x_];rfl;rw[sX x_,sX (by rw[MF a];simpa using h)]
def SV{h:GH}:∀{vs us:C_},cK h (vs.map .v) us->us=vs|[],us,e=>by simpa[cK]using e|v::vs,us,e=>by simp only[fG,cK]at e;obtain⟨u,a,rfl,h1,h2⟩:=e;simp only[oB]at h1;rw[h1,SV h2]
def OC{h:GH}:∀{vs:C_},cK h (vs.map .v) vs|[]=>by simp[cK]|v::vs=>by simp only[fG,cK];exact⟨v,vs,rfl,by simp[oB],OC⟩
def HZ{α:Type}(enc:α->C_)(l:List α):(l.map (cellsOf enc)).flatten=(l.flatMap enc).map .v:=by
 induction l with
 |nil=>rfl|cons x l ih=>simp[cellsOf,ih]
section
variable{P:Program}{α:Type}[Inhabited α]{enc:α->C_}{k:Nat}
def Iu{w:World}{g o:Nat}{a:Array Value}{E:TypeId}(h:w.heap[g]?=some (.cells a E (0,0))):w.cell? ⟨g,o,none⟩=a[o]?/\w.frozen? ⟨g,o,none⟩=false:=by constructor;simp[World.cell?,h];simp[World.frozen?,h]
def aCV{h:GH}{w:World}{g:Nat}{a:Array Value}{E:TypeId}{l:List α}(i:∀x,(enc x).length=k)(f:w.heap[g]?=some (.cells a E (0,0)))(e:cK h (l.map (cellsOf enc)).flatten (a.toList.take (l.length*k))):
 HoldsK enc k w g 0 l.toArray:=by
 rw[HZ]at e;have c:=SV e;intro t d;rw[size_flatK]at d;have b:t<l.length*k:=kn;obtain⟨c1,c2⟩:=Iu (o:=0+t) f;refine⟨?_,c2⟩;rw[c1,pQ];have h1:a.toList[t]?=(l.flatMap enc)[t]?:=by rw[<-c,BT,if_pos b]
 rw[SU i l t b]at h1;rw[get_flatK _ _ _ _ d,<-OB];simpa using h1
def UQ{w:World}{g m:Nat}{c:Array Value}{E:TypeId}{d:Array α}{os:Array Obj}(p:∀x,(enc x).length=k)(i:w.heap[g]?=some (.cells c E (0,0)))(o:d.size*k<=c.size):
 (∀b,b<w.heap.size->b≠g->(sortWorldK enc k w g 0 m d os).heap[b]?=w.heap[b]?) /\
 (∃a,(sortWorldK enc k w g 0 m d os).heap[g]?=some (.cells a E (0,0))/\a.size=c.size/\a.toList.take (d.size*k)=d.toList.flatMap enc)/\w.heap.size<=(sortWorldK enc k w g 0 m d os).heap.size:=by
 have l:g<w.heap.size:=by rcases eD g w.heap.size with n|n;exact n;rw[Hz n]at i;simp at i
 have f:(sortWorldK enc k w g 0 m d os).heap=w.heap.modify g (onCells (putCells id 0 (flatK enc k d)))++os:=rfl;rw[f];refine⟨λb q j=>?_,⟨putCells id 0 (flatK enc k d) c,?_,?_,?_⟩,?_⟩;rw[X5 (by simpa using q),YA,if_neg (λe=>j e.symm)];rw[X5 oo,YA,if_pos rfl,i];rfl;simp[putCells];rw[<-Wg p];apply EW;intro t;rw[BT];split;rename_i h;have h1:t<c.size:=CV h o;have h2:t<(flatK enc k d).size:=by rw[size_flatK];exact h
 rw[jN (by simpa[putCells]using h1),jN d5];simp only[putCells,Array.getElem_toList,Array.getElem_mapIdx];rw[if_pos ⟨pR _,o_⟩,QO,id,getElem!_pos _ t h2];rename_i h;rw[sX x_];simp
def SW {I:Ren} (L:SlLaysF0.n6 P I) (aE:∀w,(isAgg (I.t 24)).run P w=.ok true w) (zE:∀w,(Go.sizeOf (I.t 24)).run P w=.ok k w) (U:∀x,(enc x).length=k) (h1:∀x,∀v∈enc x,v.oneCell'=true) (ae:∀x,∀c∈cellsOf enc x,aX c=true)
 {cf:α->α->Int} (hO:SWO (ltOf cf)) (hT:∀x y,(ltOf cf) x y=false->(ltOf cf) y x=false->x=y) {g:Nat} (eg:∀p w,(callFunc g p).run P w=.ok (.enter g p) w) (eS:∀p w,(callFunc (I.f 6) p).run P w=.ok (.enter (I.f 6) p) w) {G:L_}
 (V:∀x y,aA P G g [.ag (cellsOf enc x),.ag (cellsOf enc y)] [] λr T=>r=iv (cf x y)/\T=[]) (l:List α) (hl:l.length<4611686018427387904):
 aA P G (I.f 6) [.own 0,.cl g []] [some (.arr k (l.map (cellsOf enc)))] λr T=>r=.tup []/\T=[some (.arr k ((l.mergeSort λx y=>!(ltOf cf) y x).map (cellsOf enc)))]:=by
 intro h A w K hG hI hA;refine .inl ⟨eS _ _,?_⟩;simp only[cC]at hA;obtain⟨u0,ak,aa,Z,u1,aj,rfl,Y,rfl⟩:=hA;simp only[Rp]at Z Y;obtain⟨_,rfl,_⟩:=Z;obtain⟨us,rfl,O⟩:=Y;simp only[cC]at O;have N:us=#[]:=by simpa using O
 subst N;obtain rfl:K=#[A 0,.func (.func g) #[] #[]]:=by apply EY.1;simpa using aa
 obtain⟨X,R⟩:=hI.obj 0 _ rfl;have C:=H4 l (λx y=>!(ltOf cf) y x);have q:(l.mergeSort λx y=>!(ltOf cf) y x).length=l.length:=C.length_eq;rcases R with⟨A0,e0,S⟩|⟨b,c,ai,E,e0,e1,e2,e3,e4,e5,e6⟩
 have:l=[]:=by simpa using S
 subst this;rw[e0];refine(AnyF.slices_SortFunc_none L A0 0 (.func (.func g) #[] #[]) w).mono ?_;rintro e w' ⟨rfl,rfl⟩;have ah:([]:List α).mergeSort (λx y=>!(ltOf cf) y x)=[]:=List.mergeSort_nil;rw[ah];exact⟨_,rfl,.tup [],_,h,A,⟨rfl,rfl⟩,Evo.refl,hI,by simp only[Rp];exact⟨#[],rfl,by simp[cC]⟩⟩;rw [e0];rw[aP]at e2 e6⊢;have hb:b<w.heap.size:=by rcases eD b w.heap.size with D|D;exact D;rw[Hz D]at e1;simp at e1
 have hH:=aCV U e1 e6;have Q:l.length*k<=ai.size:=by rw[e4];exact H2 k e2
 have ac:∀s cs,h s=some cs->s≠b:=λs cs e he=>by rw[he,e5]at e;simp at e
 have hC:CmpLays P g #[] enc k cf b 0 l.toArray.size w:=by
  intro m os u ad x y;obtain⟨s1,⟨z,s2,s3,s4⟩,s5⟩:=UQ (m:=m) (os:=os) (d:=u) U e1 (by rw[ad];simpa using Q)
  have af:Inv h A (sortWorldK enc k w b 0 m u os) []:=⟨λs cs e=>by
   obtain⟨E',fr,B⟩:=hI.gh s cs e;have F:s<w.heap.size:=by rcases eD s w.heap.size with D|D;exact D;rw[Hz D]at B;simp at B
   exact⟨E',fr,by rw[s1 s F (ac s cs e)];exact B⟩,λi o e=>by simp at e,λi j oi oj b e=>by simp at e⟩
  have H:cC h A 0 [.ag (cellsOf enc x),.ag (cellsOf enc y)] (#[Value.agg (enc x).toArray,.agg (enc y).toArray]++#[]:Array Value).toList:=by
   have M:∀l:C_,cC h A 0 (l.map .v) l:=by
    intro l
    induction l with
    |nil=>simp[cC]|cons c l ih=>simp only[fG,cC];exact⟨c,l,rfl,by simp[Rp],ih⟩
   simp only[cC];exact⟨_,_,rfl,by simp only[Rp];exact⟨_,rfl,M (enc x)⟩,_,_,rfl,by simp only[Rp];exact⟨_,rfl,M (enc y)⟩,rfl⟩
  rcases V x y h A _ _ hG af H with⟨_,X⟩|⟨v,w',X,_⟩
  refine X.mono ?_;rintro e w' ⟨v,rfl,r,T',h',φ',⟨rfl,rfl⟩,J,al,hv⟩;simp only[Rp]at hv;subst hv;refine⟨rfl,w'.drawn-(sortWorldK enc k w b 0 m u os).drawn,w'.heap.extract (sortWorldK enc k w b 0 m u os).heap.size w'.heap.size,?_⟩;have hd:=J.drawn;have a:w'.heap=(sortWorldK enc k w b 0 m u os).heap++w'.heap.extract (sortWorldK enc k w b 0 m u os).heap.size w'.heap.size:=by apply Array.ext_getElem?;intro i;rcases eD i (sortWorldK enc k w b 0 m u os).heap.size with hi|hi;rw[X5 hi,J.frame i hi (λj o e=>by simp at e)];rw[Array.getElem?_append_right hi];have:=J.size;rw[Array.getElem?_extract];split;congr 1;omega;rw[Hz (by omega)]
  have e7:=J.os;have e8:=J.tape;have e9:=J.output;revert hd a e7 e8 e9;generalize sortWorldK enc k w b 0 m u os=W;intro hd a e7 e8 e9;obtain⟨hp,tp,dr,o,op⟩:=w';simp only at a hd e7 e8 e9;subst e7;subst e8;subst e9;simp only[Go.Sort.grow,World.drewN];rw[<-a];congr 1;omega;rw[eg]at X;simp at X
 refine(AnyQ.slices_SortFunc_total L k aE zE enc U h1 cf hO g #[] b 0 (c+1) l.toArray w eg hC hH hb (by simpa using hl) hT).mono ?_;rintro e w' ⟨rfl,n,os,rfl⟩;generalize(l.mergeSort λx y=>!(ltOf cf) y x)=l' at q;obtain⟨s1,⟨z,s2,s3,s4⟩,s5⟩:=UQ (m:=n) (os:=os) (d:=l'.toArray) U e1 (by simpa[q]using Q);have:=Fw (w':=sortWorldK enc k w b 0 n l'.toArray os) (o':=.arr k (l'.map (cellsOf enc))) hI rfl rfl rfl s5 (i:=0) (o:=.arr k (l.map (cellsOf enc))) rfl
  (λs F ab=>s1 s F (λe=>ab (by rw[e0,e];rfl)))
  ⟨λx hx=>by
   obtain⟨y,_,rfl⟩:=dF.1 hx
   exact⟨by simp[cellsOf,U],ae y⟩,.inr ⟨b,c,z,E,by rw[aP,q];simpa using e0,s2,by rw[aP,q];exact e2,e3,by rw[s3];exact e4,e5,by
    rw[aP,HZ];simp only[Gn]at s4;rw[s4]
    exact OC⟩⟩
  (Nat.le_add_right _ _)
 exact⟨_,rfl,.tup [],_,h,A,⟨rfl,rfl⟩,this.2,this.1,by simp only[Rp];exact⟨#[],rfl,by simp[cC]⟩⟩
end
end Hud
namespace Hud
open Go Go.Proofs Go.Sort Go.Shelf
section
variable{P:Program}{α:Type}[Inhabited α]{enc:α->C_}{k:Nat}
end
end Hud
namespace Hud
open Go
variable{G:L_}
section
variable{h h1:GH}{φ φ1:Nat->Value}{m n:Nat}
mutual
def aEf:∀{x:AV}{u u1:Value},Rp h φ m x u->Rp h1 φ1 n x u1->Rp h φ n x u
 |.v _,_,_,e,_=>by simpa[Rp]using e|.ls _ _,_,_,e,_=>by simp only[Rp]at *;exact e|.ag g,_,_,e,f=>by simp only[Rp]at *;obtain⟨d,a,b⟩:=e;obtain⟨_,_,c⟩:=f;exact⟨d,a,B4 b c⟩
 |.own _,_,_,e,f=>by simp only[Rp]at *;exact⟨f.1,e.2⟩|.ptr _ _,_,_,e,f=>by simp only[Rp]at *;exact⟨f.1,e.2⟩|.elt _ _ _ _,_,_,e,f=>by simp only[Rp]at *;exact⟨f.1,e.2⟩|.vw _ _ _ _,_,_,e,f=>by simp only[Rp]at *;exact⟨f.1,e.2⟩|.mp _,_,_,e,f=>by simp only[Rp]at *;exact⟨f.1,e.2⟩|.yl _,_,_,e,f=>by simp only[Rp]at *;exact⟨f.1,e.2⟩|.rp _,_,_,e,_=>by simp only[Rp]at *;exact e|.cl _ g,_,_,e,f=>by simp only[Rp]at *;obtain⟨d,a,b⟩:=e;obtain⟨_,_,c⟩:=f;exact⟨d,a,B4 b c⟩
 |.bm _ _ g,_,_,e,f=>by simp only[Rp]at *;obtain⟨d,a,b⟩:=e;obtain⟨_,_,c⟩:=f;exact⟨d,a,B4 b c⟩
 |.tup g,_,_,e,f=>by simp only[Rp]at *;obtain⟨d,a,b⟩:=e;obtain⟨_,_,c⟩:=f;exact⟨d,a,B4 b c⟩
 |.any,_,_,_,_=>z_
def B4:∀{cs:O_}{us vs:C_},cC h φ m cs us->cC h1 φ1 n cs vs->cC h φ n cs us
 |[],us,vs,e,_=>by simpa[cC]using e
 |c::cs,us,vs,e,f=>by
  simp only[cC]at *
  obtain⟨u,d,a,b,c⟩:=e;obtain⟨_,_,_,i,g⟩:=f;exact⟨u,d,a,aEf b i,B4 c g⟩
end
def GP{w w1:World}{i D:Nat}:∀{o:AObj},uF h φ m w i o->uF h1 φ1 n w1 D o->uF h φ n w i o
 |.box O,e,f=>by
  obtain⟨g,B,E,a,b,c,d⟩:=e;obtain⟨_,_,_,_,_,_,F⟩:=f;exact⟨g,B,E,a,b,c,B4 d F⟩
 |.arr _ _,e,_=>e
 |.arf k N,e,f=>by
  refine⟨e.1,e.2.imp id ?_⟩;rintro⟨g,c,y,E,t,q,j,u,v,z,J⟩;refine⟨g,c,y,E,t,q,j,u,v,z,?_⟩;rcases f.2 with⟨_,_,M⟩|⟨_,_,_,_,_,_,_,_,_,_,G⟩
  grind[cC];exact B4 J G
 |.lp r s,e,f=>by
  obtain⟨l,t,q,j,u,v⟩:=e;obtain⟨_,_,_,_,_,I⟩:=f;exact⟨l,t,q,j,u,λp A=>aEf (v p A) (I p A)⟩
 |.mit k a b c,e,f=>by
  obtain⟨g,C,t,q,j,u⟩:=e;obtain⟨_,_,_,_,_,Q⟩:=f;refine⟨g,C,t,q,j,?_⟩;grind
 |.map R L K bs P,e,f=>by obtain⟨g,x,t,q,j,u,v,z⟩:=e;obtain⟨_,_,_,_,_,_,_,H⟩:=f;exact⟨g,x,t,q,j,u,v,B4 z H⟩
end
def aA.keep{P:Program}{G:L_}{f:FuncId}{args:O_}{T:aK}{q:Value->Prop}(B:aA P G f args T λr d=>(∃J,d=T++J)/\∃v,r=.v v/\q v):
 aA P G f args T λr d=>(∃v,r=.v v/\q v)/\d=T:=by
 have n:∀{h:GH}{φ:Nat->Value}{w w':World}{v:Value},Inv h φ w T->CS h φ T w (λr d=>(∃J,d=T++J)/\∃v,r=.v v/\q v) v w'->CS h φ T w (λr d=>(∃v,r=.v v/\q v)/\d=T) v w':=by
  rintro h φ w w' v hI ⟨r,d,F,m,⟨⟨J,rfl⟩,x,rfl,z⟩,c,g,y⟩;have l:∀i o,T[i]?=some (some o)->(T++J)[i]?=some (some o):=λi o e=>by rw[mY];exact e;grind
  refine⟨.v x,T,F,m,⟨⟨x,rfl,z⟩,rfl⟩,?_,?_,by simpa[Rp]using y⟩;exact⟨c.os,c.tape,c.output,c.size,c.frame,c.le,c.gfr,c.phi,λi o b A C=>c.org i o b (l i o A) C,cN _,c.drawn⟩;exact⟨g.gh,λi o e=>GP (g.obj i o (l i o e)) (hI.obj i o e),λi j u t b s p=>g.dis i j u t b (l i u s) (l j t p)⟩
 intro h φ w k D hI E;rcases B h φ w k D hI E with⟨a,b⟩|⟨v,w',a,b⟩
 exact .inl ⟨a,b.mono λe w' ⟨v,s,p⟩=>⟨v,s,n hI p⟩⟩;grind
def eH{P:Program}{G:L_}{f:FuncId}{b:HFun}{H:List (Nat×Option Nat×Nat)}(e:tF P f H=some b){args:O_}{T:aK}{x:Value}
 (c:aF8 P G b args T λr a=>r=.v x/\a.take T.length=T):aA P G f args T λr a=>r=.v x/\a=T:=by
 refine(aA.keep (q:=λv=>v=x) ((fT e c).mono ?_)).mono ?_;rintro r a ⟨rfl,d⟩;exact⟨⟨a.drop T.length,by have:=(LC T.length a).symm;rwa[d]at this⟩,x,rfl,rfl⟩;simp
def pw(x i:Fq):Prop:=(x+i)^(NN/2)=1
instance (x i:Fq):Decidable (pw x i):=inferInstanceAs (Decidable (_=_))
def aOS{l:V_}(h:SR 0 l.length l):l.Pairwise (· <= ·):=by rw[QD];intro i j c a b;have:=h i j (pR _) o_ a;simp_all
section
variable{h:GH}{φ:Nat->Value}{n i k:Nat}{es:N_}
mutual
def aHa(a:n<=i):∀{x:AV}{u:Value},Rp h φ n x u->CB i k es x=x
 |.v _,_,_=>rfl|.ls _ _,_,_=>rfl|.rp _,_,_=>rfl|.any,_,_=>rfl|.ptr _ _,_,_=>rfl|.mp _,_,_=>rfl|.yl _,_,_=>rfl|.own j,_,e=>by simp only[Rp]at e;simp only[CB];rw[if_neg o_]|.elt j _ _ _,_,e=>by simp only[Rp]at e;simp only[CB];rw[if_neg o_]|.vw j _ _ _,_,e=>by simp only[Rp]at e;simp only[CB];rw[if_neg o_]|.ag d,_,e=>by simp only[Rp]at e;obtain⟨c,_,b⟩:=e;simp only[CB];rw[Fo a b]
 |.cl _ d,_,e=>by simp only[Rp]at e;obtain⟨c,_,b⟩:=e;simp only[CB];rw[Fo a b]
 |.bm _ _ d,_,e=>by simp only[Rp]at e;obtain⟨c,_,b⟩:=e;simp only[CB];rw[Fo a b]
 |.tup d,_,e=>by simp only[Rp]at e;obtain⟨c,_,b⟩:=e;simp only[CB];rw[Fo a b]
def Fo(a:n<=i):∀{cs:O_}{us:C_},cC h φ n cs us->IB i k es cs=cs|[],_,_=>rfl|c::cs,_,e=>by simp only[cC]at e;obtain⟨u,d,_,b,c⟩:=e;simp only[IB];rw[aHa a b,Fo a c]
end
def RI:∀{a b:O_}{us:C_},cC h φ n (a++b) us->(∃d,cC h φ n a d)/\∃f,cC h φ n b f|[],_,us,e=>⟨⟨[],by simp[cC]⟩,us,e⟩|c::a,b,us,e=>by simp only[jC,cC]at e;obtain⟨u,g,_,l,k⟩:=e;obtain⟨⟨d,j⟩,i⟩:=RI k;exact⟨⟨u::d,by simp only[cC];exact⟨u,d,rfl,l,j⟩⟩,i⟩
def aEl(d:n<=i):∀{c:N_}{us:C_},cC h φ n c.flatten us->Zk i k es c=c|[],_,_=>rfl|e::c,us,f=>by rw[zK]at f;obtain⟨⟨j,a⟩,g,b⟩:=RI f;simp only[Zk];rw[Fo d a,aEl d b]
def aIs{l:List (Nat×AV)}{f:Nat->Value}(c:n<=i)(a:∀p∈l,Rp h φ n p.2 (f p.1)):QR i k es l=l:=by
 induction l with
 |nil=>rfl|cons p l ih=>
  obtain⟨j,x⟩:=p;simp only[QR];rw[aHa c (a (j,x) EV),ih λp b=>a p (GU _ b)]
def aEm{w:World}{j:Nat}(a:n<=i):∀{o:AObj},uF h φ n w j o->Vq i k es o=some o
 |.box y,e=>by
  obtain⟨_,_,_,_,_,_,d⟩:=e;simp only[Vq];rw[Fo a d]
 |.arr _ _,_=>rfl|.mit _ _ _ _,_=>rfl| .arf q g,e=>by
  have v:Zk i k es g=g:=by
   rcases e.2 with⟨_,_,p⟩|⟨_,_,_,_,_,_,_,_,_,_,b⟩
   subst p;rfl;exact aEl a b
  have l:(g.all λx=>x.all gS)=true:=oD.2 λx m=>oD.2 λc t=>(e.1 x m).2 c t;grind[Vq]
 |.lp r s,e=>by
  obtain⟨_,_,_,_,_,u⟩:=e;simp only[Vq];rw[aIs (f:=λq=>r.tmps.getD q undef) a u]
 |.map _ _ _ _ _,e=>by obtain⟨_,_,_,_,_,_,_,d⟩:=e;simp only[Vq];rw[Fo a d]
end
def aA.keepLs {P:Program} {G:L_} {f:FuncId} {args:O_} {T:aK} {q:Nat->N_->Prop} (M:aA P G f args T λr d=>d.take T.length=T/\∃i k c,r=.own i/\T.length<=i/\d[i]?=some (some (.arr k c))/\q k c):
 aA P G f args T λr d=>(∃k c,q k c/\r=.ls k c)/\d=T:=by
 have A:∀{h:GH}{φ:Nat->Value}{w w':World}{v:Value},tU G h->Inv h φ w T->CS h φ T w (λr d=>d.take T.length=T/\∃i k c,r=.own i/\T.length<=i/\d[i]?=some (some (.arr k c))/\q k c) v w'->CS h φ T w (λr d=>(∃k c,q k c/\r=.ls k c)/\d=T) v w':=by
  rintro h φ w w' v u hI ⟨r,d,R,z,⟨W,i,k,c,rfl,B,I,K⟩,J,C,X⟩;have O:SInv P G 0 h φ T w ⟨T.length,[(0,.own i)],d⟩ ⟨#[v],[]⟩ w':=by refine⟨rfl,?_,⟨R,z,u.mono J.le,J,C,λi=>?_⟩,s_,by simp[Eo]⟩;intro i x y I V;simp_all;simp only[bA];split;simp_all;simp[Rp]
  have L:cR d i=some (.arr k c):=by simp[cR,I]
  have n:=O.shutI i;unfold Hud.shutI at n;simp only[L]at n;obtain⟨_,_,⟨h2,p,_,g,D,S⟩,_,_⟩:=n;have l:=S 0;have U:bA (QR i k c [(0,AV.own i)]) 0=.ls k c:=by simp[QR,bA,CB]
  rw[U]at l;replace l:Rp h2 p ((QS i k c d).set i none).length (.ls k c) v:=l;have m:∀j o,T[j]?=some (some o)->((QS i k c d).set i none)[j]?=some (some o):=λj o e=>by
   have Y:j<T.length:=(sV.1 e).1;rw[List.getElem?_set_ne o_,Ry];have t:d[j]?=some (some o):=m_;rw[t];show some (Vq i k c o)=some (some o);rw[aEm B (hI.obj j o e)]
  refine⟨.ls k c,T,h2,p,⟨⟨k,c,K,rfl⟩,rfl⟩,?_,?_,by simpa only[Rp]using l⟩;exact⟨g.os,g.tape,g.output,g.size,g.frame,g.le,g.gfr,g.phi,λi o b B N=>g.org i o b (m i o B) N,cN _,g.drawn⟩;exact⟨D.gh,λi o e=>GP (D.obj i o (m i o e)) (hI.obj i o e),λi j H F b t E=>D.dis i j H F b (m i H t) (m j F E)⟩
 intro h φ w s u hI Q;rcases M h φ w s u hI Q with⟨a,b⟩|⟨v,w',a,b⟩
 exact .inl ⟨a,b.mono λe w' ⟨v,t,E⟩=>⟨v,t,A u hI E⟩⟩;grind
def O6{J a:St->Prop}{Q:Ex->St->Prop}(h:∀s,J s->a s):∀e s,@Kv ⟨J⟩ ⟨Q⟩ e s->@Kv ⟨a⟩ ⟨Q⟩ e s:=by
 intro e s
 cases e with
 |normal=>exact h _|exit i=>exact id|ret=>exact id
def O7{P:Program}{G:L_}{st:St}{d:V_}{a:HC}{Q:Ex->St->Prop}(N:Nat)(S:Nat->St)(J:Nat->Prop)(h0:st=S 0)(e:J 0)(f:∀i,i<N->J i->@cW P G a (S i) ⟨@Kv ⟨λc=>c=S (i+1)/\J (i+1)⟩ ⟨Q⟩⟩)
 (j:J N->@cW P G a (S N) ⟨@Kv ⟨λ_=>False⟩ ⟨Q⟩⟩):@cW P G (.loop d a) st ⟨Q⟩:=by
 apply kL (λn s=>∃i,i<=N/\n=N-i/\s=S i/\J i) N ⟨0,pR _,s_,h0,e⟩;rintro n s ⟨i,k,rfl,rfl,g⟩;rcases eD i N with b|h;exact oN (O6 λs ⟨h1,h2⟩=>⟨N-(i+1),o_,i+1,o_,rfl,h1,h2⟩) (f i b g);grind
end Hud
namespace Hud
set_option maxRecDepth 99999
open Go
open W
def aJ7:cF aGT []=some ⟨158,[(8,none)],S [R0 8 1 [M F],R0 18 1 [c0 aHf,J 9 (s 5 (al zS5) (t 18))],D 19 5 [] [L 5 t9,J 21 (l (f 2 t9)),J 20 (K [zl 22 21,zf 21 9 2,zv 19 5 9] (c1 aF0 w3)),J 23 (s 5 t9 (c3 aBF (t 19) (t 20) (t 22)))],R0 24 8 [L 3 (i 3 (l (f 2 t9)) (sb (n (l (f 2 t9))) w1)),J 10 (s 3 (al zI) (t 31))],R 32 3 [0] [A 11 (ad w1 (c2 uV v0 (w 4)))],R 35 3 [1] [A 12 (ad w1 (c2 uV v1 (w 4)))],R 38 5 [2] [A 13 (l (i 1 (j3 [.string (Hud.bs []),.string (Hud.bs []),.string (Hud.bs [])] (kc (.const (.string (Hud.bs [97])))) (kc (.const (.string (Hud.bs [98])))) (kc (.const (.string (Hud.bs [97,98]))))) (c2 uV v2 w3)))],R 43 5 [3] [A 14 (l (i 1 (j3 [.string (Hud.bs []),.string (Hud.bs []),.string (Hud.bs [])] (kc (.const (.string (Hud.bs [97])))) (kc (.const (.string (Hud.bs [98])))) (kc (.const (.string (Hud.bs [97,98]))))) (c2 uV v3 w3)))],R0 48 9 [L 5 t9,v11,L 3 (t 10),v13,x (.s2b (zt 51)),s 5 t9 (c3 aBF (t 48) (x (.bld zO [(0,(1,zt 49)),(2,(1,zw 7)),(16,(3,zt 50)),(14,(1,zt 52))])) (l (f 2 t9)))],R 57 9 [10] [L 5 t9,v12,L 3 (t 10),v14,x (.s2b (zt 60)),s 5 t9 (c3 aBF (t 57) (x (.bld zO [(0,(1,zt 58)),(2,(1,zw 7)),(16,(3,zt 59)),(14,(1,zt 61))])) (l (f 2 t9)))],R0 66 2 [A 15 (c1 aE4 (L 5 t9))],S [R0 68 7 [v15,O (x (.nilS false 0 (zt 68))) (ne (n (l (f 2 t9))) (w 7))],If 75 [15,9,13,14,12,11] (S [E0 [A 8 F],.ret])],R 76 4 [15,9] [A 16 (c2 aBC v15 (l (f 2 t9)))],S [R0 80 2 [ne (n v16) w1],If 82 [11,12,16,14,13] (S [E0 [A 8 F],.ret])],R 83 19 [11,12] [A 17 (O (O (eq v11 v12) (N (eq v11 w1) (eq v12 (w 4)))) (N (eq v11 (w 4)) (eq v12 w1)))],S [R 102 5 [17] [N v17 (eq v13 v14)],If 107 [14] (S [R 108 19 [16,13] [A 8 (N (N (eq (n (l (f 4 (i 5 v16 w0)))) w1) (eq (l (i 1 (l (f 4 (i 5 v16 w0))) w0)) v13)) (c0 aE5))],.ret])],S [R0 127 5 [ne (n (l (f 4 (i 5 v16 w0)))) w2],If 132 [16,13,14] (S [E0 [A 8 F],.ret])],R 133 25 [16,13,14] [A 8 (N (N (eq (l (i 1 (l (f 4 (i 5 v16 w0))) w0)) (mm false v13 v14)) (eq (l (i 1 (l (f 4 (i 5 v16 w0))) w1)) (mm true v13 v14))) (c0 aE5))],.ret]⟩:=k_
def aJJ:=eVf (cF aIX [])
def aLL:=eVf (cF aE4 [(3,some 2,35)])
def aLM:=eVf (cF aE5 [])
def aM2:=eVf (cF aHf [(26,none,1000)])
def aM3:=eVf (cF aBF [])
def aK7:=eVf (cF aF0 [])
def aM4:=eVf (cF aHG [])
def aLN:=eVf (cF aJ5 [])
end Hud
namespace Hud
open Go Go.Proofs Go.Sort Go.Shelf
abbrev stV(s:List UInt8):Value:=.string ⟨s.toArray⟩
abbrev stE(s:List UInt8):List AV:=[.v (stV s)]
def aEU(l:List (List UInt8)):List (List UInt8):=l.mergeSort λx y=>decide (x<=y)
def aMI(l:List (List UInt8)):(l.map stE).flatten=(l.map encStr).map .v:=by
 induction l with
 |nil=>rfl|cons x l ih=>simp[ih]
def aOT {P:Program} {u:Ren} (L:SlLaysM.n6 P u) (Q:∀d w,(callFunc (u.f 6) d).run P w=.ok (.enter (u.f 6) d) w) {G:L_} (l:List (List UInt8)) (N:l.length<2^62):
 aA P G (u.f 6) [.own 0] [some (.arr 1 (l.map stE))] λr T=>r=.tup []/\T=[some (.arr 1 ((aEU l).map stE))]:=by
 intro h t w j Y hI I;refine .inl ⟨Q _ _,?_⟩;simp only[cC]at I;obtain⟨u0,K,v,q,rfl⟩:=I;simp only[Rp]at q;obtain⟨_,rfl,_⟩:=q;obtain rfl:j=#[t 0]:=by apply EY.1;simpa using v
 obtain⟨H,k⟩:=hI.obj 0 _ rfl;have a:(aEU l).length=l.length:=(H4 l _).length_eq;rcases k with⟨X,s,m⟩|⟨b,c,V,E,s,D,J,U,S,R,C⟩
 have:l=[]:=by simpa using m
 subst this;rw[s];refine(AnyM.slices_Sort_string_none L X 0 w).mono ?_;rintro e w' ⟨rfl,rfl⟩;have F:aEU []=[]:=List.mergeSort_nil;rw[F];exact⟨_,rfl,.tup [],_,h,t,⟨rfl,rfl⟩,Evo.refl,hI,J_⟩;rw [s];rw[aP]at J C⊢;have O:b<w.heap.size:=(aGI.1 D).1;rw[aMI,Bb]at C;have p:=SV C;refine(AnyM.slices_Sort_string L b 0 (c+1) l w (holds_of_block D p) O N).mono ?_;rintro e w' ⟨rfl,n,os,rfl⟩;have A:kI (t 0)=some b:=by rw[s];rfl
 have:=Fw (w':=grow (putRow encStr (Sort.ahead w n) b 0 (aEU l).toArray) os) (o':=.arr 1 ((aEU l).map stE)) hI rfl rfl rfl (by simp[putRow,mapBlock,Sort.ahead]) (i:=0) (o:=.arr 1 (l.map stE)) rfl
  (λW B z=>(grownBy_sorted (w:=w) (g:=b) (n:=n) (os:=os) (aEU l).toArray).block W B (λe=>z (by rw[A,e])))
  ⟨λx M=>by
   obtain⟨y,_,rfl⟩:=dF.1 M
   exact⟨rfl,λc H=>by rw[cA.1 H];rfl⟩,.inr ⟨b,c,_,E,by rw[aP,a];simpa using s,heap_sorted _ D,by rw[aP,a];exact J,U,by simp[putCells,S],R,by
    rw[aP,aMI,Bb,take_putCells _ _ o_]
    exact OC⟩⟩
  (Nat.le_add_right _ _)
 exact⟨_,rfl,.tup [],_,h,t,⟨rfl,rfl⟩,this.2,this.1,J_⟩
def aOz{P:Program}{c:Ren}(L:SlLaysM.n6 P c)(k:∀a w,(callFunc (c.f 6) a).run P w=.ok (.enter (c.f 6) a) w){G:L_}{T:aK}:aA P G (c.f 6) [.v (.slice none 0 0)] T λr l=>r=.tup []/\l=T:=by
 intro h i w b n hI g;refine .inl ⟨k _ _,?_⟩;simp only[cC,Rp]at g;obtain⟨u0,j,d,rfl,rfl⟩:=g;obtain rfl:b=#[.slice none 0 0]:=by apply EY.1;simpa using d
 refine(AnyM.slices_Sort_string_none L none 0 w).mono ?_;rintro e m ⟨rfl,rfl⟩;exact⟨_,rfl,.tup [],_,h,i,⟨rfl,rfl⟩,Evo.refl,hI,J_⟩
section
variable{G:L_}
def aPs(l:List (List UInt8))(a:l.length<2^62):aA PQ G aAO [.own 0] [some (.arr 1 (l.map stE))] λr T=>r=.tup []/\T=[some (.arr 1 ((aEU l).map stE))]:=
 aOT Go.Proofs.Tryz.laysS (Go.Proofs.enters_of Go.Proofs.Tryz.func58 k_ rfl) l a
def aJK{T:aK}:aA PQ G aAO [.v (.slice none 0 0)] T λr a=>r=.tup []/\a=T :=
 aOz Go.Proofs.Tryz.laysS (Go.Proofs.enters_of Go.Proofs.Tryz.func58 k_ rfl)
end
end Hud
