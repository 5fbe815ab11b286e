import Derived.Test.YtlhonkjgkfdnmaaGreatDoorLib00
set_option linter.all false
namespace Hud
def PR(a b:Nat)(l c:V_):Prop:=c.length=l.length/\(∀i,i<a\/b<=i->c.getD i 0=l.getD i 0)/\c.Perm l
def SR(a b:Nat)(l:V_):Prop:=∀i j,a<=i->i<=j->j<b->l.getD i 0<=l.getD j 0
def SQ(a b:Nat)(l:V_):Prop:=a=0\/∀i,a<=i->i<b->l.getD (a-1) 0<=l.getD i 0
def iO(l:V_)(i j:Nat):V_:=(l.set i (l.getD j 0)).set j (l.getD i 0)
def PR.refl(a b:Nat)(l:V_):PR a b l l:=⟨rfl,λ_ _=>rfl,.refl _⟩
def PR.trans{a b:Nat}{l m n:V_}(h:PR a b l m)(k:PR a b m n):PR a b l n:=⟨by rw[k.1,h.1],λi c=>by rw[k.2.1 i c,h.2.1 i c],k.2.2.trans h.2.2⟩
def PR.wide{a b a' b':Nat}{l c:V_}(h:PR a b l c)(f:a'<=a)(e:b<=b'):PR a' b' l c:=⟨h.1,λi d=>h.2.1 i o_,h.2.2⟩
def GD(l:V_)(i j:Nat):(iO l i j).length=l.length:=by simp[iO]
def rU(l:V_)(i j:Nat)(b:i<l.length)(a:j<l.length)(k:Nat):(iO l i j).getD k 0=if k=j then l.getD i 0 else if k=i then l.getD j 0 else l.getD k 0:=by simp only[iO,rH,Hx,cL];by_cases h1:k=j;subst h1;simp[a];rw[if_neg (λh=>h1 h.symm),if_neg h1];by_cases h2:k=i;subst h2;simp[b];rw[if_neg (λh=>h2 h.symm),if_neg h2]
def gW{a b:Nat}{l:V_}{i j:Nat}(g:a<=i)(d:i<b)(f:a<=j)(c:j<b)(h:b<=l.length):PR a b l (iO l i j):=by
 refine⟨GD l i j,λk e=>?_,?_⟩;rw[rU l i j o_ o_,if_neg o_,if_neg o_];have h1:l.getD j 0=l[j]'o_:=by rw[rH,jN o_];rfl
 have h2:l.getD i 0=l[i]'o_:=by rw[rH,jN o_];rfl
 rw[iO,h1,h2];exact List.set_set_perm o_ o_
def Pp{l:V_}{a b i:Nat}(e:a<=i)(d:i<b)(c:b<=l.length):l.getD i 0∈(l.drop a).take (b-a):=by rw[rH,jN o_,Mi];rw[TT];refine⟨i-a,c_,?_⟩;simp[(o_:a+(i-a)=i)]
def Pq{l:V_}{a b x:Nat}(d:b<=l.length)(h:x∈(l.drop a).take (b-a)):∃i,a<=i/\i<b/\l.getD i 0=x:=by rw[TT]at h;obtain⟨k,c,e⟩:=h;simp at c e;refine⟨a+k,o_,o_,?_⟩;rw[rH,jN o_,Mi];exact e
def PR.mid{a b:Nat}{l c:V_}(h:PR a b l c)(j:a<=b)(k:b<=l.length):((c.drop a).take (b-a)).Perm ((l.drop a).take (b-a)):=by
 have h1:c.take a=l.take a:=by apply EW λi=>?_;rw[BT,BT];split;rename_i f;have:=h.2.1 i (.inl f);have g:=h.1;simp only[rH]at this;rw[jN o_,jN o_]at this⊢;simpa using this;rfl
 have h2:c.drop b=l.drop b:=by apply EW λi=>?_;rw[Hw,Hw];have g:=h.1;have:=h.2.1 (b+i) (.inr o_);simp only[rH]at this;by_cases f:b+i<l.length;rw[jN o_,jN o_]at this⊢;simpa using this;rw[sX o_,sX o_]
 have d:∀l:V_,l=l.take a++((l.drop a).take (b-a)++l.drop b):=λl=>by
  have e:l.drop b=(l.drop a).drop (b-a):=by rw[Kg];congr 1;omega
  rw[e,LC,LC]
 have h3:=h.2.2;rw[d l,d c,h1,h2]at h3;exact(List.perm_append_right_iff _).1 ((List.perm_append_left_iff _).1 h3)
def PR.all{a b:Nat}{l d:V_}(h:PR a b l d)(c:b<=l.length){Q:Nat->Prop}(e:∀i,a<=i->i<b->Q (l.getD i 0)):∀i,a<=i->i<b->Q (d.getD i 0):=by intro i h1 h2;obtain⟨j,h3,g,f⟩:=Pq c ((h.mid o_ c).mem_iff.1 (Pp h1 h2 (by rw[h.1];exact c)));rw[<-f];exact e j h3 g
def SQ.sub{a b c:Nat}{l:V_}(h:SQ a b l)(d:c<=b):SQ a c l:=h.imp id λk i h1 h2=>k i h1 o_
def SQ.pr{a b:Nat}{l c:V_}(h:SQ a b l)(d:PR a b l c)(e:b<=l.length):SQ a b c:=by by_cases h0:a=0;exact .inl h0;rcases h with h|h;exact absurd h h0;refine .inr ?_;rw[d.2.1 (a-1) (.inl o_)];exact d.all e (Q:=λx=>l.getD (a-1) 0<=x) h
def SR.outside{a b c d:Nat}{l e:V_}(h:SR a b l)(f:PR c d l e)(g:b<=c\/d<=a):SR a b e:=by intro i j h1 h2 h3;rw[f.2.1 i o_,f.2.1 j o_];exact h i j h1 h2 h3
def SR.small{a b:Nat}{l:V_}(h:b<=a+1):SR a b l:=by
 intro i j h1 h2 h3;have:i=j:=o_;subst this;exact cN _
def N8{a i j:Nat}{l:V_}(e:i<l.length)(k:a<j)(g:j<=i)(h:∀p q,a<=p->p<q->q<=i->q≠j->l.getD p 0<=l.getD q 0)(f:l.getD j 0<l.getD (j-1) 0):
 ∀p q,a<=p->p<q->q<=i->q≠j-1->(iO l j (j-1)).getD p 0<=(iO l j (j-1)).getD q 0:=by
 intro p q h1 h2 h3 m;rw[rU l j (j-1) o_ o_,rU l j (j-1) o_ o_];rw[if_neg m];by_cases d:p=j-1;rw[if_pos d];by_cases b:q=j;rw[if_pos b];omega;rw[if_neg b];exact h j q o_ o_ h3 b;rw[if_neg d];by_cases c:p=j;rw[if_pos c,if_neg o_];exact h (j-1) q o_ o_ h3 o_;rw[if_neg c];by_cases b:q=j;rw[if_pos b];exact h p (j-1) h1 o_ o_ o_;rw[if_neg b];exact h p q h1 h2 h3 b
def Ax {a i j:Nat} {l:V_} (e:j<=i) (h:∀p q,a<=p->p<q->q<=i->q≠j->l.getD p 0<=l.getD q 0) (b:j<=a\/l.getD (j-1) 0<=l.getD j 0):SR a (i+1) l:=by intro p q h1 h2 h3;rcases Nat.eq_or_lt_of_le h2 with rfl|h2;exact cN _;by_cases c:q=j;subst c;rcases b with b|b;omega;by_cases d:p=q-1;rw[d];exact b;exact uR (h p (q-1) h1 o_ o_ o_) b;exact h p q h1 h2 o_ c
def Ir{a i:Nat}{l:V_}(h:SR a i l):∀p q,a<=p->p<q->q<=i->q≠i->l.getD p 0<=l.getD q 0:=λp q h1 h2 h3 b=>h p q h1 o_ o_
def HP(f lo a:Nat)(l:V_):Prop:=∀p c,lo<=p->(c=2*p+1\/c=2*p+2)->c<a->l.getD (f+c) 0<=l.getD (f+p) 0
def HQ(f lo a r:Nat)(l:V_):Prop:=(∀p c,lo<=p->p≠r->(c=2*p+1\/c=2*p+2)->c<a->l.getD (f+c) 0<=l.getD (f+p) 0) /\
 ∀p c,lo<=p->(r=2*p+1\/r=2*p+2)->(c=2*r+1\/c=2*r+2)->c<a->l.getD (f+c) 0<=l.getD (f+p) 0
def aFm{f lo a:Nat}{l:V_}(h:HP f (lo+1) a l):HQ f lo a lo l :=
 ⟨λp c h1 h2 h3 b=>h p c o_ h3 b,λp c h1 h2=>o_⟩
def ME{f lo a r:Nat}{l:V_}(h:HQ f lo a r l)(d:∀c,(c=2*r+1\/c=2*r+2)->c<a->l.getD (f+c) 0<=l.getD (f+r) 0):HP f lo a l:=by intro p c h1 h2 h3;by_cases b:p=r;subst b;exact d c h2 h3;exact h.1 p c h1 b h2 h3
def ST {f lo b r d:Nat} {l:V_} (h:HQ f lo b r l) (s:lo<=r) (t:f+b<=l.length) (q:d=2*r+1\/d=2*r+2) (j:d<b) (a:∀c,(c=2*r+1\/c=2*r+2)->c<b->l.getD (f+c) 0<=l.getD (f+d) 0)
 (o:l.getD (f+r) 0<l.getD (f+d) 0):HQ f lo b d (iO l (f+r) (f+d)):=by
 have e:=rU l (f+r) (f+d) o_ o_;refine⟨λp c h1 h2 h3 g=>?_,λp c h1 h2 h3 g=>?_⟩;rw[e,e];rw[if_neg (o_:¬f+p=f+d)];by_cases m:p=r;subst m;rw[if_pos rfl];by_cases n:c=d;subst n;rw[if_pos rfl];omega;rw[if_neg o_,if_neg o_];exact a c h3 g;rw[if_neg (o_:¬f+p=f+r)];by_cases n:c=d;omega;rw[if_neg o_];by_cases k:c=r;subst k;rw[if_pos rfl];exact h.2 p d h1 h3 q j;rw[if_neg o_];exact h.1 p c h1 m h3 g;have i:p=r:=o_;subst i;rw[e,e,if_neg o_,if_neg o_,if_neg o_,if_pos rfl];exact h.1 d c o_ o_ h3 g
def aHS{f a:Nat}{l:V_}(h:HP f 0 a l):∀k,k<a->l.getD (f+k) 0<=l.getD f 0:=by
 intro k
 induction k using Nat.strongRecOn with
 |_ k ih=>
  intro b;rcases JX k with rfl|c;exact cN _;exact uR (h ((k-1)/2) k (pR _) o_ b) (ih ((k-1)/2) o_ o_)
end Hud
