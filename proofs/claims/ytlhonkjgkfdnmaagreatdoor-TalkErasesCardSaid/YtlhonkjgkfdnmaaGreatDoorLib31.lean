import Derived.Test.YtlhonkjgkfdnmaaGreatDoorLib27
set_option linter.all false
set_option maxHeartbeats 40000000
namespace Hud
open Go
variable{G:L_}
abbrev nl(l:List Nat):List (List AV):=l.map λn:Nat=>[iv (n:Int)]
def Xa(l:V_)(i:Nat)(h:i<l.length):(nl l)[i]?=some [iv ((l.getD i 0:Nat):Int)]:=by simp only[nl,gE,jN h,iX,rH,Mi]
def aG5(l:V_)(i j:Nat):((nl l).set i [iv ((l.getD j 0:Nat):Int)]).set j [iv ((l.getD i 0:Nat):Int)]=nl (iO l i j):=by simp only[nl,iO,Ba]
def aKp(l:V_)(i j:Nat)(x:Value)(a:j<l.length):∃y,((nl l).set i [.v x])[j]?=some [.v y]:=by rw[Hx];split;exact⟨x,by rw[if_pos M_]⟩;exact⟨_,Xa l j a⟩
def aG6(x:Nat):aA PQ G kH [iv x] [] λr a=>r=.v (.bool false)/\a=[]:=by refine aC Aw ?_;simp only[go_sem,bne_self_eq_false]
def aIp(x y:Nat):aA PQ G vC [iv x,iv y] [] λr a=>r=.v (.bool (decide ((x:Int)<(y:Int))))/\a=[]:=by refine aC Iq ?_;simp only[go_sem];apply cX (aG6 x);simp only[go_sem]
abbrev KP(l:List Nat)(K:AV->List Nat->Prop):AV->aK->Prop:=λr b=>∃a,K r a/\b=[some (.arr 1 (nl a))]
def aKq (l:V_) (a b:Nat) (I:a<=b) (M:b<=l.length) (L:l.length<=1000000000):
 aA PQ G iA [.own 0,iv a,iv b] [some (.arr 1 (nl l))] (KP l λ_ g=>PR a b l g/\SR a b g):=by
 apply aC sT;have B:IntKind.i64.wrap ((a:Int)+1)=((a+1:Nat):Int):=pC o_;simp only[go_sem,B];refine cO (λn s=>∃(i:Nat)(g:V_),n=b-i/\a<i/\i<=max b (a+1)/\PR a b l g/\SR a i g/\s=⟨1,[(0,.own 0),(1,iv a),(2,iv b),(6,iv i)],[some (.arr 1 (nl g))]⟩) (b-(a+1))
  ⟨a+1,l,rfl,o_,o_,PR.refl a b l,SR.small o_,i_⟩ ?_
 rintro n s ⟨i,x,K,H,E,k,z,rfl⟩;have D:=k.1;by_cases A:i<b;simp only[go_sem,aT A];refine cO (λm s=>∃(l2:V_),a<=m/\m<=i/\PR a b l l2/\(∀p q,a<=p->p<q->q<=i->q≠m->l2.getD p 0<=l2.getD q 0)/\s=⟨1,[(0,.own 0),(1,iv a),(2,iv b),(6,iv i),(7,iv m)],[some (.arr 1 (nl l2))]⟩) i
  ⟨x,o_,cN _,k,Ir z,i_⟩ ?_
 rintro j s ⟨l2,F,f,c,d,rfl⟩;have C:=c.1;have w:=fQ i o_;by_cases o:a<j;have w1:IntKind.i64.wrap ((j:Int)-1)=((j-1:Nat):Int):=a_;have u:=Xa l2 j o_;have t:=Xa l2 (j-1) o_;have h:decide ((j:Int)>(a:Int))=true:=by simpa using o
 simp only[go_sem,h,aP,(o_:j<l2.length),(o_:j-1<l2.length),w1,u,t];apply cX (aIp _ _);simp only[go_sem,h,aP,(o_:j<l2.length),(o_:j-1<l2.length),w1,u,t];refine aL (λr=>?_) (λr=>?_);have e:l2.getD j 0<l2.getD (j-1) 0:=kw;obtain⟨y,J⟩:=aKp l2 j (j-1) (.int .i64 ((l2.getD (j-1) 0:Nat):Int)) o_;simp only[go_sem,aP,cL,(o_:j<l2.length),(o_:j-1<l2.length),w1,u,t,J,aG5];exact⟨j-1,o_,iO l2 j (j-1),o_,o_,c.trans (gW o_ o_ o_ o_ o_),N8 o_ o f d e,rfl⟩;have e:l2.getD (j-1) 0<=l2.getD j 0:=kw;simp only[go_sem,w];exact⟨b-(i+1),o_,i+1,l2,rfl,o_,o_,c,Ax f d (.inr e),rfl⟩;have h:decide ((j:Int)>(a:Int))=false:=by simpa using o
 simp only[go_sem,h,w];exact⟨b-(i+1),o_,i+1,l2,rfl,o_,o_,c,Ax f d (.inl o_),rfl⟩;simp only[go_sem,aS A];exact⟨x,⟨k,λp q h1 h2 h3=>z p q h1 h2 o_⟩,rfl⟩
def aKr(l:V_)(k:Int)(e:l.length<=12):aA PQ G eE [.own 0,iv 0,iv l.length,iv k] [some (.arr 1 (nl l))] (KP l λ_ a=>PR 0 l.length l a/\SR 0 l.length a):=by
 apply aC wK;have w0:IntKind.i64.wrap ((l.length:Int)-0)=(l.length:Int):=a_;have d:decide ((l.length:Int)<=12)=true:=decide_eq_true o_;simp only[go_sem];refine cO (λm s=>s=⟨1,[(0,.own 0),(1,iv 0),(2,iv l.length),(3,iv k),(8,.v (.bool true)),(9,.v (.bool true))],[some (.arr 1 (nl l))]⟩) 0 ?_ ?_;simp only[go_sem];rintro m s rfl;simp only[go_sem,w0,d];apply aG (args2:=[.own 0,iv (0:Nat),iv l.length]) (T2:=[some (.arr 1 (nl l))]) [0] (aB _) d_ s_ rfl i_ (aKq l 0 l.length (pR _) (cN _) o_);rintro r f ⟨b,c,rfl⟩;simp only[go_sem];exact⟨b,c,rfl⟩
def aEi(l:V_)(g:l.length<=12):aA PQ G kO [.own 0] [some (.arr 1 (nl l))] (KP l λ_ b=>b.Perm l/\b.Pairwise (· <= ·)):=by refine aC BZ ?_;simp only[go_sem,aP,bS l.length o_];apply Jo (aD6 l.length o_);rintro r h ⟨⟨k,f,h1,h2,h3⟩,a⟩;subst f;subst a;simp only[go_sem];apply aG (T2:=[some (.arr 1 (nl l))]) [0] (aB _) d_ s_ rfl i_ (aKr l k g);rintro r h ⟨d,⟨c,e⟩,a⟩;subst a;simp only[go_sem];refine⟨d,⟨c.2.2,aOJ ?_⟩,rfl⟩;rw[c.1];exact e
end Hud
