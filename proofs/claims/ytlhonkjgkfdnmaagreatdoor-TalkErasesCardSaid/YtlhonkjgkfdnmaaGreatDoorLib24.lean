import Derived.Test.YtlhonkjgkfdnmaaGreatDoorLib04
import Derived.Test.YtlhonkjgkfdnmaaGreatDoorLib17
import Derived.Shelf.SlSortCmp.NoneTotal
import Derived.Sort.OwnSorted
set_option linter.all false
set_option maxHeartbeats 40000000
namespace Hud
set_option maxRecDepth 99999
open Go
def N1:=eVf (cF oK [])
def SK:=eVf (cF wC [])
def LT:=eVf (cF rO [(2,none,3),(3,none,3),(6,none,3)])
def LU:=eVf (cF zX [])
def FM:=eVf (cF jW [])
def Cl:=eVf (cF qV [])
def Po:=eVf (cF DR [])
end Hud
namespace Hud
open Go Go.Proofs Go.Sort Go.Shelf
def cellsOf{α:Type}(enc:α->C_)(x:α):O_:=(enc x).map .v
def SU {α:Type} [Inhabited α] {enc:α->C_} {k:Nat} (c:∀x,(enc x).length=k):∀(l:List α)(t:Nat),t<l.length*k->(l.flatMap enc)[t]?=some ((enc l[t/k]!)[t%k]!)
 |[],t,h=>by simp at h
 | x::l,t,h=>by
  have d:0<k:=by rcases JX k with h0|h0;subst h0;simp at h;exact h0
  rw[List.flatMap_cons];rcases eD t k with a|b;rw[mY (by rw[c];exact a),Nat.div_eq_of_lt a,EZ a,aGF];have:t<(enc x).length:=by rw[c];exact a
  simp[this];rw[Mc (by rw[c];exact b),c];have h1:t-k<l.length*k:=by rw[sE,aGg,Km]at h;omega
  rw[SU c l (t-k) h1];have f:t/k=(t-k)/k+1:=by have:=Nat.add_div_right (t-k) d;rw[Nat.sub_add_cancel b]at this;exact this
  have e:t%k=(t-k)%k:=(Nat.mod_eq_sub_mod b)
  rw[f,<-e];simp
def MF{α:Type}{enc:α->C_}{k:Nat}(a:∀x,(enc x).length=k)(l:List α):(l.flatMap enc).length=l.length*k:=by
 induction l with
 |nil=>simp|cons x l ih=>rw[List.flatMap_cons,dZ,a,ih,sE,aGg,Km,Nat.add_comm]
def OB{α:Type}[Inhabited α](d:Array α)(i:Nat):d.toList[i]! = d[i]! := by by_cases h:i<d.size;rw[getElem!_pos d i h,getElem!_pos d.toList i w_];simp;rw[getElem!_neg d i h,getElem!_neg d.toList i w_]
def Wg{α:Type}[Inhabited α]{enc:α->C_}{k:Nat}(a:∀x,(enc x).length=k)(d:Array α):(flatK enc k d).toList=d.toList.flatMap enc:=by
 apply EW;intro t;rcases eD t (d.size*k) with h|h;have e:(flatK enc k d).toList[t]! = (enc d.toList[t/k]!)[t%k]! := by rw[OB (flatK enc k d),get_flatK enc k d t h,OB d]
 rw[SU a d.toList t w_,<-e,aGF,jN w_];rfl;rw[sX w_,sX (by rw[MF a];simpa using h)]
def SV{h:GH}:∀{vs us:C_},cK h (vs.map .v) us->us=vs|[],us,e=>by simpa[cK]using e|v::vs,us,e=>by simp only[fG,cK]at e;obtain⟨u,a,rfl,h1,h2⟩:=e;simp only[oB]at h1;rw[h1,SV h2]
def OC{h:GH}:∀{vs:C_},cK h (vs.map .v) vs|[]=>by simp[cK]|v::vs=>by simp only[fG,cK];exact⟨v,vs,rfl,by simp[oB],OC⟩
def HZ{α:Type}(enc:α->C_)(l:List α):(l.map (cellsOf enc)).flatten=(l.flatMap enc).map .v:=by
 induction l with
 |nil=>rfl|cons x l ih=>simp[cellsOf,ih]
section
variable{P:Program}{α:Type}[Inhabited α]{enc:α->C_}{k:Nat}
def Iu{w:World}{g o:Nat}{a:Array Value}{E:TypeId}(h:w.heap[g]?=some (.cells a E (0,0))):w.cell? ⟨g,o,none⟩=a[o]?/\w.frozen? ⟨g,o,none⟩=false:=by constructor;simp[World.cell?,h];simp[World.frozen?,h]
def aCV{h:GH}{w:World}{g:Nat}{a:Array Value}{E:TypeId}{l:List α}(i:∀x,(enc x).length=k)(f:w.heap[g]?=some (.cells a E (0,0)))(e:cK h (l.map (cellsOf enc)).flatten (a.toList.take (l.length*k))):
 HoldsK enc k w g 0 l.toArray:=by
 rw[HZ]at e;have c:=SV e;intro t d;rw[size_flatK]at d;have b:t<l.length*k:=ke;obtain⟨c1,c2⟩:=Iu (o:=0+t) f;refine⟨?_,c2⟩;rw[c1,pQ];have h1:a.toList[t]?=(l.flatMap enc)[t]?:=by rw[<-c,BT,if_pos b]
 rw[SU i l t b]at h1;rw[get_flatK _ _ _ _ d,<-OB];simpa using h1
def UQ{w:World}{g m:Nat}{c:Array Value}{E:TypeId}{d:Array α}{os:Array Obj}(p:∀x,(enc x).length=k)(i:w.heap[g]?=some (.cells c E (0,0)))(o:d.size*k<=c.size):
 (∀b,b<w.heap.size->b≠g->(sortWorldK enc k w g 0 m d os).heap[b]?=w.heap[b]?) /\
 (∃a,(sortWorldK enc k w g 0 m d os).heap[g]?=some (.cells a E (0,0))/\a.size=c.size/\a.toList.take (d.size*k)=d.toList.flatMap enc)/\w.heap.size<=(sortWorldK enc k w g 0 m d os).heap.size:=by
 have l:g<w.heap.size:=by rcases eD g w.heap.size with n|n;exact n;rw[Hz n]at i;simp at i
 have f:(sortWorldK enc k w g 0 m d os).heap=w.heap.modify g (onCells (putCells id 0 (flatK enc k d)))++os:=rfl;rw[f];refine⟨λb q j=>?_,⟨putCells id 0 (flatK enc k d) c,?_,?_,?_⟩,?_⟩;rw[X5 (by simpa using q),YA,if_neg (λe=>j e.symm)];rw[X5 Z_,YA,if_pos rfl,i];rfl;simp[putCells];rw[<-Wg p];apply EW;intro t;rw[BT];split;rename_i h;have h1:t<c.size:=CV h o;have h2:t<(flatK enc k d).size:=by rw[size_flatK];exact h
 rw[jN (by simpa[putCells]using h1),jN d6];simp only[putCells,Array.getElem_toList,Array.getElem_mapIdx];rw[if_pos ⟨pR _,o_⟩,QO,id,getElem!_pos _ t h2];rename_i h;rw[sX w_];simp
def SW {I:Ren} (L:SlLaysF0.n6 P I) (aE:∀w,(isAgg (I.t 24)).run P w=.ok true w) (zE:∀w,(Go.sizeOf (I.t 24)).run P w=.ok k w) (U:∀x,(enc x).length=k) (h1:∀x,∀v∈enc x,v.oneCell'=true) (ae:∀x,∀c∈cellsOf enc x,aX c=true)
 {cf:α->α->Int} (hO:SWO (ltOf cf)) (hT:∀x y,(ltOf cf) x y=false->(ltOf cf) y x=false->x=y) {g:Nat} (eg:∀p w,(callFunc g p).run P w=.ok (.enter g p) w) (eS:∀p w,(callFunc (I.f 6) p).run P w=.ok (.enter (I.f 6) p) w) {G:L_}
 (V:∀x y,aA P G g [.ag (cellsOf enc x),.ag (cellsOf enc y)] [] λr T=>r=iv (cf x y)/\T=[]) (l:List α) (hl:l.length<4611686018427387904):
 aA P G (I.f 6) [.own 0,.cl g []] [some (.arr k (l.map (cellsOf enc)))] λr T=>r=.tup []/\T=[some (.arr k ((l.mergeSort λx y=>!(ltOf cf) y x).map (cellsOf enc)))]:=by
 intro h A w K hG hI hA;refine .inl ⟨eS _ _,?_⟩;simp only[cC]at hA;obtain⟨u0,ak,aa,Z,u1,aj,rfl,Y,rfl⟩:=hA;simp only[Rp]at Z Y;obtain⟨_,rfl,_⟩:=Z;obtain⟨us,rfl,O⟩:=Y;simp only[cC]at O;have N:us=#[]:=by simpa using O
 subst N;obtain rfl:K=#[A 0,.func (.func g) #[] #[]]:=by apply EY.1;simpa using aa
 obtain⟨X,R⟩:=hI.obj 0 _ rfl;have C:=H4 l (λx y=>!(ltOf cf) y x);have q:(l.mergeSort λx y=>!(ltOf cf) y x).length=l.length:=C.length_eq;rcases R with⟨A0,e0,S⟩|⟨b,c,ai,E,e0,e1,e2,e3,e4,e5,e6⟩
 have:l=[]:=by simpa using S
 subst this;rw[e0];refine(AnyF.slices_SortFunc_none L A0 0 (.func (.func g) #[] #[]) w).mono ?_;rintro e w' ⟨rfl,rfl⟩;have ah:([]:List α).mergeSort (λx y=>!(ltOf cf) y x)=[]:=List.mergeSort_nil;rw[ah];exact⟨_,rfl,.tup [],_,h,A,⟨rfl,rfl⟩,Evo.refl,hI,by simp only[Rp];exact⟨#[],rfl,by simp[cC]⟩⟩;rw [e0];rw[aP]at e2 e6⊢;have hb:b<w.heap.size:=by rcases eD b w.heap.size with D|D;exact D;rw[Hz D]at e1;simp at e1
 have hH:=aCV U e1 e6;have Q:l.length*k<=ai.size:=by rw[e4];exact H2 k e2
 have ac:∀s cs,h s=some cs->s≠b:=λs cs e he=>by rw[he,e5]at e;simp at e
 have hC:CmpLays P g #[] enc k cf b 0 l.toArray.size w:=by
  intro m os u ad x y;obtain⟨s1,⟨z,s2,s3,s4⟩,s5⟩:=UQ (m:=m) (os:=os) (d:=u) U e1 (by rw[ad];simpa using Q)
  have af:Inv h A (sortWorldK enc k w b 0 m u os) []:=⟨λs cs e=>by
   obtain⟨E',fr,B⟩:=hI.gh s cs e;have F:s<w.heap.size:=by rcases eD s w.heap.size with D|D;exact D;rw[Hz D]at B;simp at B
   exact⟨E',fr,by rw[s1 s F (ac s cs e)];exact B⟩,λi o e=>by simp at e,λi j oi oj b e=>by simp at e⟩
  have H:cC h A 0 [.ag (cellsOf enc x),.ag (cellsOf enc y)] (#[Value.agg (enc x).toArray,.agg (enc y).toArray]++#[]:Array Value).toList:=by
   have M:∀l:C_,cC h A 0 (l.map .v) l:=by
    intro l
    induction l with
    |nil=>simp[cC]|cons c l ih=>simp only[fG,cC];exact⟨c,l,rfl,by simp[Rp],ih⟩
   simp only[cC];exact⟨_,_,rfl,by simp only[Rp];exact⟨_,rfl,M (enc x)⟩,_,_,rfl,by simp only[Rp];exact⟨_,rfl,M (enc y)⟩,rfl⟩
  rcases V x y h A _ _ hG af H with⟨_,X⟩|⟨v,w',X,_⟩
  refine X.mono ?_;rintro e w' ⟨v,rfl,r,T',h',φ',⟨rfl,rfl⟩,J,al,hv⟩;simp only[Rp]at hv;subst hv;refine⟨rfl,w'.drawn-(sortWorldK enc k w b 0 m u os).drawn,w'.heap.extract (sortWorldK enc k w b 0 m u os).heap.size w'.heap.size,?_⟩;have hd:=J.drawn;have a:w'.heap=(sortWorldK enc k w b 0 m u os).heap++w'.heap.extract (sortWorldK enc k w b 0 m u os).heap.size w'.heap.size:=by apply Array.ext_getElem?;intro i;rcases eD i (sortWorldK enc k w b 0 m u os).heap.size with hi|hi;rw[X5 hi,J.frame i hi (λj o e=>by simp at e)];rw[Array.getElem?_append_right hi];have:=J.size;rw[Array.getElem?_extract];split;congr 1;omega;rw[Hz (by omega)]
  have e7:=J.os;have e8:=J.tape;have e9:=J.output;revert hd a e7 e8 e9;generalize sortWorldK enc k w b 0 m u os=W;intro hd a e7 e8 e9;obtain⟨hp,tp,dr,o,op⟩:=w';simp only at a hd e7 e8 e9;subst e7;subst e8;subst e9;simp only[Go.Sort.grow,World.drewN];rw[<-a];congr 1;omega;rw[eg]at X;simp at X
 refine(AnyQ.slices_SortFunc_total L k aE zE enc U h1 cf hO g #[] b 0 (c+1) l.toArray w eg hC hH hb (by simpa using hl) hT).mono ?_;rintro e w' ⟨rfl,n,os,rfl⟩;generalize(l.mergeSort λx y=>!(ltOf cf) y x)=l' at q;obtain⟨s1,⟨z,s2,s3,s4⟩,s5⟩:=UQ (m:=n) (os:=os) (d:=l'.toArray) U e1 (by simpa[q]using Q);have:=Fw (w':=sortWorldK enc k w b 0 n l'.toArray os) (o':=.arr k (l'.map (cellsOf enc))) hI rfl rfl rfl s5 (i:=0) (o:=.arr k (l.map (cellsOf enc))) rfl
  (λs F ab=>s1 s F (λe=>ab (by rw[e0,e];rfl)))
  ⟨λx hx=>by
   obtain⟨y,_,rfl⟩:=dF.1 hx
   exact⟨by simp[cellsOf,U],ae y⟩,.inr ⟨b,c,z,E,by rw[aP,q];simpa using e0,s2,by rw[aP,q];exact e2,e3,by rw[s3];exact e4,e5,by
    rw[aP,HZ];simp only[Gn]at s4;rw[s4]
    exact OC⟩⟩
  (Nat.le_add_right _ _)
 exact⟨_,rfl,.tup [],_,h,A,⟨rfl,rfl⟩,this.2,this.1,by simp only[Rp];exact⟨#[],rfl,by simp[cC]⟩⟩
end
end Hud
namespace Hud
open Go Go.Proofs Go.Sort Go.Shelf
section
variable{P:Program}{α:Type}[Inhabited α]{enc:α->C_}{k:Nat}
end
end Hud
namespace Hud
open Go
variable{G:L_}
def pw(x i:Fq):Prop:=(x+i)^(NN/2)=1
instance (x i:Fq):Decidable (pw x i):=inferInstanceAs (Decidable (_=_))
def aOJ{l:V_}(h:SR 0 l.length l):l.Pairwise (· <= ·):=by rw[QD];intro i j c a b;have:=h i j (pR _) o_ a;simp_all
end Hud
namespace Hud
open Go Go.Proofs Go.Sort Go.Shelf
abbrev stV(s:List UInt8):Value:=.string ⟨s.toArray⟩
abbrev stE(s:List UInt8):List AV:=[.v (stV s)]
def aJ5(l:List (List UInt8)):List (List UInt8):=l.mergeSort λx y=>decide (x<=y)
def aMx(l:List (List UInt8)):(l.map stE).flatten=(l.map encStr).map .v:=by
 induction l with
 |nil=>rfl|cons x l ih=>simp[ih]
def aOL {P:Program} {u:Ren} (L:SlLaysM.n6 P u) (Q:∀d w,(callFunc (u.f 6) d).run P w=.ok (.enter (u.f 6) d) w) {G:L_} (l:List (List UInt8)) (N:l.length<2^62):
 aA P G (u.f 6) [.own 0] [some (.arr 1 (l.map stE))] λr T=>r=.tup []/\T=[some (.arr 1 ((aJ5 l).map stE))]:=by
 intro h t w j Y hI I;refine .inl ⟨Q _ _,?_⟩;simp only[cC]at I;obtain⟨u0,K,v,q,rfl⟩:=I;simp only[Rp]at q;obtain⟨_,rfl,_⟩:=q;obtain rfl:j=#[t 0]:=by apply EY.1;simpa using v
 obtain⟨H,k⟩:=hI.obj 0 _ rfl;have a:(aJ5 l).length=l.length:=(H4 l _).length_eq;rcases k with⟨X,s,m⟩|⟨b,c,V,E,s,D,J,U,S,R,C⟩
 have:l=[]:=by simpa using m
 subst this;rw[s];refine(AnyM.slices_Sort_string_none L X 0 w).mono ?_;rintro e w' ⟨rfl,rfl⟩;have F:aJ5 []=[]:=List.mergeSort_nil;rw[F];exact⟨_,rfl,.tup [],_,h,t,⟨rfl,rfl⟩,Evo.refl,hI,G_⟩;rw [s];rw[aP]at J C⊢;have O:b<w.heap.size:=(aGI.1 D).1;rw[aMx,Bb]at C;have p:=SV C;refine(AnyM.slices_Sort_string L b 0 (c+1) l w (holds_of_block D p) O N).mono ?_;rintro e w' ⟨rfl,n,os,rfl⟩;have A:kI (t 0)=some b:=by rw[s];rfl
 have:=Fw (w':=grow (putRow encStr (Sort.ahead w n) b 0 (aJ5 l).toArray) os) (o':=.arr 1 ((aJ5 l).map stE)) hI rfl rfl rfl (by simp[putRow,mapBlock,Sort.ahead]) (i:=0) (o:=.arr 1 (l.map stE)) rfl
  (λW B z=>(grownBy_sorted (w:=w) (g:=b) (n:=n) (os:=os) (aJ5 l).toArray).block W B (λe=>z (by rw[A,e])))
  ⟨λx M=>by
   obtain⟨y,_,rfl⟩:=dF.1 M
   exact⟨rfl,λc H=>by rw[cA.1 H];rfl⟩,.inr ⟨b,c,_,E,by rw[aP,a];simpa using s,heap_sorted _ D,by rw[aP,a];exact J,U,by simp[putCells,S],R,by
    rw[aP,aMx,Bb,take_putCells _ _ o_]
    exact OC⟩⟩
  (Nat.le_add_right _ _)
 exact⟨_,rfl,.tup [],_,h,t,⟨rfl,rfl⟩,this.2,this.1,G_⟩
def aOg{P:Program}{c:Ren}(L:SlLaysM.n6 P c)(k:∀a w,(callFunc (c.f 6) a).run P w=.ok (.enter (c.f 6) a) w){G:L_}{T:aK}:aA P G (c.f 6) [.v (.slice none 0 0)] T λr l=>r=.tup []/\l=T:=by
 intro h i w b n hI g;refine .inl ⟨k _ _,?_⟩;simp only[cC,Rp]at g;obtain⟨u0,j,d,rfl,rfl⟩:=g;obtain rfl:b=#[.slice none 0 0]:=by apply EY.1;simpa using d
 refine(AnyM.slices_Sort_string_none L none 0 w).mono ?_;rintro e m ⟨rfl,rfl⟩;exact⟨_,rfl,.tup [],_,h,i,⟨rfl,rfl⟩,Evo.refl,hI,G_⟩
section
variable{G:L_}
def aPq(l:List (List UInt8))(a:l.length<2^62):aA PQ G aAO [.own 0] [some (.arr 1 (l.map stE))] λr T=>r=.tup []/\T=[some (.arr 1 ((aJ5 l).map stE))]:=
 aOL Go.Proofs.Tryz.laysS (Go.Proofs.enters_of Go.Proofs.Tryz.func58 k_ rfl) l a
def aJM{T:aK}:aA PQ G aAO [.v (.slice none 0 0)] T λr a=>r=.tup []/\a=T :=
 aOg Go.Proofs.Tryz.laysS (Go.Proofs.enters_of Go.Proofs.Tryz.func58 k_ rfl)
end
end Hud
namespace Hud
set_option maxRecDepth 99999
open Go
def aJH:=eVf (cF aJ7 [])
def aH5:=eVf (cF aCE [])
def aKJ:=eVf (cF aE5 [])
def aLP:=eVf (cF aHf [(4,none,3),(5,none,3)])
def aLQ:=eVf (cF aF0 [(6,none,3)])
end Hud
