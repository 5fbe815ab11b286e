import Derived.Test.YtlhonkjgkfdnmaaGreatDoorLib04
import Derived.Test.YtlhonkjgkfdnmaaGreatDoorLib21
import Derived.Sort.OwnSorted
set_option linter.all false
namespace Hud
open Go Go.Proofs Go.Sort Go.Shelf
abbrev stV(s:List UInt8):Value:=.string ⟨s.toArray⟩
abbrev stE(s:List UInt8):List AV:=[.v (stV s)]
def aFd(l:List (List UInt8)):List (List UInt8):=l.mergeSort λx y=>decide (x<=y)
def aKJ(l:List (List UInt8)):(l.map stE).flatten=(l.map encStr).map .v:=by
 induction l with
 |nil=>rfl|cons x l ih=>simp[ih]
def aMp {P:Program} {u:Ren} (L:SlLaysM.n6 P u) (Q:∀d w,(callFunc (u.f 6) d).run P w=.ok (.enter (u.f 6) d) w) {G:L_} (l:List (List UInt8)) (N:l.length<2^62):
 aA P G (u.f 6) [.own 0] [some (.arr 1 (l.map stE))] λr T=>r=.tup []/\T=[some (.arr 1 ((aFd l).map stE))]:=by
 intro h t w j Y hI I;refine .inl ⟨Q _ _,?_⟩;simp only[cC]at I;obtain⟨u0,K,v,q,rfl⟩:=I;simp only[Rp]at q;obtain⟨_,rfl,_⟩:=q;obtain rfl:j=#[t 0]:=by apply EY.1;simpa using v
 obtain⟨H,k⟩:=hI.obj 0 _ rfl;have a:(aFd l).length=l.length:=(H4 l _).length_eq;rcases k with⟨X,s,m⟩|⟨b,c,V,E,s,D,J,U,S,R,C⟩
 have:l=[]:=by simpa using m
 subst this;rw[s];refine(AnyM.slices_Sort_string_none L X 0 w).mono ?_;rintro e w' ⟨rfl,rfl⟩;have F:aFd []=[]:=List.mergeSort_nil;rw[F];exact⟨_,rfl,.tup [],_,h,t,⟨rfl,rfl⟩,Evo.refl,hI,I_⟩;rw [s];rw[aP]at J C⊢;have O:b<w.heap.size:=(aGI.1 D).1;rw[aKJ,Bb]at C;have p:=SV C;refine(AnyM.slices_Sort_string L b 0 (c+1) l w (holds_of_block D p) O N).mono ?_;rintro e w' ⟨rfl,n,os,rfl⟩;have A:kI (t 0)=some b:=by rw[s];rfl
 have:=Fw (w':=grow (putRow encStr (Sort.ahead w n) b 0 (aFd l).toArray) os) (o':=.arr 1 ((aFd l).map stE)) hI rfl rfl rfl (by simp[putRow,mapBlock,Sort.ahead]) (i:=0) (o:=.arr 1 (l.map stE)) rfl
  (λW B z=>(grownBy_sorted (w:=w) (g:=b) (n:=n) (os:=os) (aFd l).toArray).block W B (λe=>z (by rw[A,e])))
  ⟨λx M=>by
   obtain⟨y,_,rfl⟩:=dF.1 M
   exact⟨rfl,λc H=>by rw[cA.1 H];rfl⟩,.inr ⟨b,c,_,E,by rw[aP,a];simpa using s,heap_sorted _ D,by rw[aP,a];exact J,U,by simp[putCells,S],R,by
    rw[aP,aKJ,Bb,take_putCells _ _ o_]
    exact OC⟩⟩
  (Nat.le_add_right _ _)
 exact⟨_,rfl,.tup [],_,h,t,⟨rfl,rfl⟩,this.2,this.1,I_⟩
def aM4{P:Program}{c:Ren}(L:SlLaysM.n6 P c)(k:∀a w,(callFunc (c.f 6) a).run P w=.ok (.enter (c.f 6) a) w){G:L_}{T:aK}:aA P G (c.f 6) [.v (.slice none 0 0)] T λr l=>r=.tup []/\l=T:=by
 intro h i w b n hI g;refine .inl ⟨k _ _,?_⟩;simp only[cC,Rp]at g;obtain⟨u0,j,d,rfl,rfl⟩:=g;obtain rfl:b=#[.slice none 0 0]:=by apply EY.1;simpa using d
 refine(AnyM.slices_Sort_string_none L none 0 w).mono ?_;rintro e m ⟨rfl,rfl⟩;exact⟨_,rfl,.tup [],_,h,i,⟨rfl,rfl⟩,Evo.refl,hI,I_⟩
section
variable{G:L_}
def aNh(l:List (List UInt8))(a:l.length<2^62):aA PQ G aAD [.own 0] [some (.arr 1 (l.map stE))] λr T=>r=.tup []/\T=[some (.arr 1 ((aFd l).map stE))]:=
 aMp Go.Proofs.Tryz.laysS (Go.Proofs.enters_of Go.Proofs.Tryz.func58 a_ rfl) l a
def aIG{T:aK}:aA PQ G aAD [.v (.slice none 0 0)] T λr a=>r=.tup []/\a=T :=
 aM4 Go.Proofs.Tryz.laysS (Go.Proofs.enters_of Go.Proofs.Tryz.func58 a_ rfl)
end
end Hud
