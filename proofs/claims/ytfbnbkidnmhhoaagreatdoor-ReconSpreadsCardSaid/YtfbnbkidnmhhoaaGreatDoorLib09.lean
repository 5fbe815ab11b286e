import Derived.Test.YtfbnbkidnmhhoaaGreatDoorLib08
import Derived.Shelf.SlSortCmp.NoneTotal
import Derived.Test.YtfbnbkidnmhhoaaGreatDoorProg
set_option linter.all false
set_option maxHeartbeats 40000000
namespace Hud
open Go
abbrev FP:Nat:=2305843009213693951
def bS(n:Nat)(h:n<2^64):IntKind.u64.wrap (n:Int)=(n:Int):=by grind[IntKind.wrap,IntKind.bits,IntKind.signed]
def aAp(x:Nat)(d:x<2^64):bV .and (.int .u64 (x:Int)) (.int .u64 2305843009213693951)=some (.int .u64 ((x%2305843009213693952:Nat):Int)):=by
 have c:(BitVec.ofInt 64 (x:Int)).toNat=x:=e_;have h2:(BitVec.ofInt 64 2305843009213693951).toNat=2^61-1:=s_;have b:(BitVec.ofInt 64 (x:Int) &&& BitVec.ofInt 64 2305843009213693951).toNat=x%2305843009213693952:=by rw[YI,c,h2,aGE]
 have a:bV .and (.int .u64 (x:Int)) (.int .u64 2305843009213693951)=some (.int .u64 (IntKind.u64.wrap ((BitVec.ofInt 64 (x:Int) &&& BitVec.ofInt 64 2305843009213693951).toNat:Int))):=K_;rw[a,b,bS _ o_]
def We(x:Nat):bV .shr (.int .u64 (x:Int)) (.int .u64 61)=some (.int .u64 ((x/2305843009213693952:Nat):Int)):=by
 have:(x:Int).fdiv (2^min 61 64)=((x/2305843009213693952:Nat):Int):=m_;rw[<-this];simp only[bV];rfl
def eY(x y:Nat)(h:x+y<2^64):bV .add (.int .u64 (x:Int)) (.int .u64 (y:Int))=some (.int .u64 ((x+y:Nat):Int)):=by simp only[bV,if_true];rw[<-Int.natCast_add,bS _ h]
def aAq(x:Nat)(h:2305843009213693951<=x)(h2:x<2^64):bV .sub (.int .u64 (x:Int)) (.int .u64 2305843009213693951)=some (.int .u64 ((x-2305843009213693951:Nat):Int)):=by simp only[bV,if_true];rw[(o_:(x:Int)-2305843009213693951=((x-2305843009213693951:Nat):Int)),bS _ o_]
def HY(x:Nat)(d:x<2^64):bV .and (.int .u64 (x:Int)) (.int .u64 4294967295)=some (.int .u64 ((x%2^32:Nat):Int)):=by
 have c:(BitVec.ofInt 64 (x:Int)).toNat=x:=e_;have h2:(BitVec.ofInt 64 4294967295).toNat=2^32-1:=s_;have b:(BitVec.ofInt 64 (x:Int) &&& BitVec.ofInt 64 4294967295).toNat=x%2^32:=by rw[YI,c,h2,aGE]
 have a:bV .and (.int .u64 (x:Int)) (.int .u64 4294967295)=some (.int .u64 (IntKind.u64.wrap ((BitVec.ofInt 64 (x:Int) &&& BitVec.ofInt 64 4294967295).toNat:Int))):=K_;rw[a,b,bS _ o_]
def Wf(x:Nat):bV .shr (.int .u64 (x:Int)) (.int .u64 32)=some (.int .u64 ((x/2^32:Nat):Int)):=by
 have:(x:Int).fdiv (2^min 32 64)=((x/2^32:Nat):Int):=m_;rw[<-this];simp only[bV];rfl
def lE(x y:Nat)(h:x*y<2^64):bV .mul (.int .u64 (x:Int)) (.int .u64 (y:Int))=some (.int .u64 ((x*y:Nat):Int)):=by simp only[bV,if_true];rw[<-Int.natCast_mul,bS _ h]
def aAr(x y:Nat):bV .mul (.int .u64 (x:Int)) (.int .u64 (y:Int))=some (.int .u64 ((x*y%2^64:Nat):Int)):=K_
def Gy(G:L_)(x:Nat)(c:x<2^64):aA PQ G gV [.v (.int .u64 (x:Int))] [] λr g=>r=.v (.int .u64 ((x%FP:Nat):Int))/\g=[]:=by
 apply aC N4;have f:=aAp x c;have e:=eY (x%2305843009213693952) (x/2305843009213693952) o_;simp only[↓f,↓We,↓e,go_sem];refine aL (λb=>?_) (λb=>?_);have a:2305843009213693951<=x%2305843009213693952+x/2305843009213693952:=by have:=of_decide_eq_true b;omega
 have d:=aAq _ a o_;simp only[↓d,go_sem];have:x%2305843009213693952+x/2305843009213693952-2305843009213693951=x%FP:=H_;simp only[this];have a:x%2305843009213693952+x/2305843009213693952<2305843009213693951:=by have:=of_decide_eq_false b;omega
 simp only[go_sem];have:x%2305843009213693952+x/2305843009213693952=x%FP:=H_;simp only[this]
def aJT(G:L_)(x y:Nat)(b:x<2^64)(a:y<2^64):aA PQ G Br [.v (.int .u64 (x:Int)),.v (.int .u64 (y:Int))] [] λr d=>r=.v (.int .u64 (((x+y)%FP:Nat):Int))/\d=[]:=by refine aC aQv ?_;have c:=eY (x%FP) (y%FP) H_;simp only[go_sem];apply cX (Gy G x b);simp only[go_sem];apply cX (Gy G y a);simp only[↓c,go_sem];apply cX (Gy G _ H_);simp only[go_sem,<-Tc]
def Qm(x y:Nat):x*y=(x/2^32*(y/2^32))*2^64+(x/2^32*(y%2^32)+x%2^32*(y/2^32))*2^32+x%2^32*(y%2^32):=by have b:=QL x 4294967296;have a:=QL y 4294967296;grind
def aHR(x y:Nat):x/2^32*(y/2^32)+(x/2^32*(y%2^32)+x%2^32*(y%2^32)/2^32)/2^32+((x/2^32*(y%2^32)+x%2^32*(y%2^32)/2^32)%2^32+x%2^32*(y/2^32))/2^32=x*y/2^64:=by rw[Qm x y];omega
def aFl(G:L_)(x y:Nat)(h:x<2^64)(g:y<2^64):aA PQ G vD [.v (.int .u64 (x:Int)),.v (.int .u64 (y:Int))] [] λr t=>
 r=.tup [.v (.int .u64 ((x*y/2^64:Nat):Int)),.v (.int .u64 ((x*y%2^64:Nat):Int))]/\t=[]:=by
 apply aC FN;have b:∀a c:Nat,a<2^32->c<2^32->a*c<=18446744065119617025:=λa c D C=>aJh (o_:a<=4294967295) (o_:c<=4294967295);have A:=b (x%2^32) (y%2^32) o_ o_;have z:=b (x/2^32) (y%2^32) o_ o_;have w:=b (x%2^32) (y/2^32) o_ o_;have u:=b (x/2^32) (y/2^32) o_ o_;have i:=aHR x y;have B:x*y/2^64<2^64:=Nat.div_lt_of_lt_mul (Nat.mul_lt_mul'' h g);have s:=HY x h;have q:=HY y g;have p:=lE _ _ (o_:x%2^32*(y%2^32)<2^64);have o:=lE _ _ (o_:x/2^32*(y%2^32)<2^64);have n:=eY (x/2^32*(y%2^32)) (x%2^32*(y%2^32)/2^32) o_;have m:=HY (x/2^32*(y%2^32)+x%2^32*(y%2^32)/2^32) o_;have l:=lE _ _ (o_:x%2^32*(y/2^32)<2^64);have k:=eY ((x/2^32*(y%2^32)+x%2^32*(y%2^32)/2^32)%2^32) (x%2^32*(y/2^32)) o_;have j:=lE _ _ (o_:x/2^32*(y/2^32)<2^64);have f:=eY (x/2^32*(y/2^32)) ((x/2^32*(y%2^32)+x%2^32*(y%2^32)/2^32)/2^32) o_;have e:=eY (x/2^32*(y/2^32)+(x/2^32*(y%2^32)+x%2^32*(y%2^32)/2^32)/2^32) (((x/2^32*(y%2^32)+x%2^32*(y%2^32)/2^32)%2^32+x%2^32*(y/2^32))/2^32) o_;have d:=aAr x y;simp only[↓s,↓q,↓Wf,↓p,↓o,↓n,↓m,↓l,↓k,↓j,↓f,↓e,↓d,go_sem,i]
def aAs(x:Nat)(h:x*8<2^64):bV .shl (.int .u64 (x:Int)) (.int .u64 3)=some (.int .u64 ((x*8:Nat):Int)):=by
 have:IntKind.u64.wrap ((x:Int)*2^(min 3 64))=((x*8:Nat):Int):=by rw[(k_:(x:Int)*2^(min 3 64)=((x*8:Nat):Int)),bS _ h]
 rw[<-this];simp only[bV];rfl
def aJU(G:L_)(x y:Nat)(d:x<2^64)(b:y<2^64):aA PQ G qW [.v (.int .u64 (x:Int)),.v (.int .u64 (y:Int))] [] λr j=>r=.v (.int .u64 ((x*y%FP:Nat):Int))/\j=[]:=by
 apply aC aQs;have c:x%FP<2305843009213693951:=H_;have a:y%FP<2305843009213693951:=H_;have f:x*y%FP=(x%FP)*(y%FP)%FP:=CY _ _ _;have g:(x%FP)*(y%FP)<=5316911983139663487003542222693990401:=aJh (o_:x%FP<=2305843009213693951) (o_:y%FP<=2305843009213693951);rw[f];simp only[go_sem];apply cX (Gy G x d);simp only[go_sem];apply cX (Gy G y b);simp only[go_sem];apply cX (aFl G _ _ o_ o_);generalize(x%FP)*(y%FP)=z at g;have i:=aAs (z/2^64) o_;simp only[go_sem];apply cX (Gy G _ o_);have h:=eY (z%2^64%FP) (z/2^64*8) H_;simp only[↓i,↓h,go_sem];apply cX (Gy G _ H_);have e:(z%2^64%FP+z/2^64*8)%FP=z%FP:=H_;simp only[go_sem,e]
end Hud
namespace Hud
def PR(a b:Nat)(l c:O3):Prop:=c.length=l.length/\(∀i,i<a\/b<=i->c.getD i 0=l.getD i 0)/\c.Perm l
def SR(a b:Nat)(l:O3):Prop:=∀i j,a<=i->i<=j->j<b->l.getD i 0<=l.getD j 0
def SQ(a b:Nat)(l:O3):Prop:=a=0\/∀i,a<=i->i<b->l.getD (a-1) 0<=l.getD i 0
def iO(l:O3)(i j:Nat):O3:=(l.set i (l.getD j 0)).set j (l.getD i 0)
def PR.refl(a b:Nat)(l:O3):PR a b l l:=⟨rfl,λ_ _=>rfl,.refl _⟩
def PR.trans{a b:Nat}{l m n:O3}(h:PR a b l m)(k:PR a b m n):PR a b l n:=⟨by rw[k.1,h.1],λi c=>by rw[k.2.1 i c,h.2.1 i c],k.2.2.trans h.2.2⟩
def PR.wide{a b e d:Nat}{l c:O3}(h:PR a b l c)(j:e<=a)(g:b<=d):PR e d l c:=⟨h.1,λi f=>h.2.1 i o_,h.2.2⟩
def GD(l:O3)(i j:Nat):(iO l i j).length=l.length:=by simp[iO]
def rU(l:O3)(i j:Nat)(c:i<l.length)(b:j<l.length)(k:Nat):(iO l i j).getD k 0=if k=j then l.getD i 0 else if k=i then l.getD j 0 else l.getD k 0:=by simp only[iO,rH,Hx,cL];by_cases a:k=j;subst a;simp[b];rw[if_neg (λh=>a h.symm),if_neg a];by_cases h2:k=i;subst h2;simp[c];rw[if_neg (λh=>h2 h.symm),if_neg h2]
def gW{a b:Nat}{l:O3}{i j:Nat}(h:a<=i)(d:i<b)(g:a<=j)(c:j<b)(m:b<=l.length):PR a b l (iO l i j):=by
 refine⟨GD l i j,λk f=>?_,?_⟩;rw[rU l i j o_ o_,if_neg o_,if_neg o_];have e:l.getD j 0=l[j]'o_:=by rw[rH,jN o_];rfl
 have h2:l.getD i 0=l[i]'o_:=by rw[rH,jN o_];rfl
 rw[iO,e,h2];exact List.set_set_perm o_ o_
def Pp{l:O3}{a b i:Nat}(e:a<=i)(d:i<b)(c:b<=l.length):l.getD i 0∈(l.drop a).take (b-a):=by rw[rH,jN o_,Mi];rw[TT];refine⟨i-a,f_,?_⟩;simp[(o_:a+(i-a)=i)]
def Pq{l:O3}{a b x:Nat}(d:b<=l.length)(h:x∈(l.drop a).take (b-a)):∃i,a<=i/\i<b/\l.getD i 0=x:=by rw[TT]at h;obtain⟨k,c,e⟩:=h;simp at c e;refine⟨a+k,o_,o_,?_⟩;rw[rH,jN o_,Mi];exact e
def PR.mid{a b:Nat}{l c:O3}(h:PR a b l c)(k:a<=b)(n:b<=l.length):((c.drop a).take (b-a)).Perm ((l.drop a).take (b-a)):=by
 have m:c.take a=l.take a:=by apply EW λi=>?_;rw[BT,BT];split;rename_i f;have:=h.2.1 i (.inl f);have j:=h.1;simp only[rH]at this;rw[jN o_,jN o_]at this⊢;simpa using this;rfl
 have h2:c.drop b=l.drop b:=by apply EW λi=>?_;rw[Hw,Hw];have j:=h.1;have:=h.2.1 (b+i) (.inr o_);simp only[rH]at this;by_cases f:b+i<l.length;rw[jN o_,jN o_]at this⊢;simpa using this;rw[sX o_,sX o_]
 have d:∀l:O3,l=l.take a++((l.drop a).take (b-a)++l.drop b):=λl=>by
  have e:l.drop b=(l.drop a).drop (b-a):=by rw[Kg];congr 1;omega
  rw[e,LC,LC]
 have g:=h.2.2;rw[d l,d c,m,h2]at g;exact(List.perm_append_right_iff _).1 ((List.perm_append_left_iff _).1 g)
def PR.all{a b:Nat}{l d:O3}(h:PR a b l d)(c:b<=l.length){Q:Nat->Prop}(e:∀i,a<=i->i<b->Q (l.getD i 0)):∀i,a<=i->i<b->Q (d.getD i 0):=by intro i m h2;obtain⟨j,k,g,f⟩:=Pq c ((h.mid o_ c).mem_iff.1 (Pp m h2 (by rw[h.1];exact c)));rw[<-f];exact e j k g
def SQ.sub{a b c:Nat}{l:O3}(h:SQ a b l)(e:c<=b):SQ a c l:=h.imp id λk i d h2=>k i d o_
def SQ.pr{a b:Nat}{l c:O3}(h:SQ a b l)(d:PR a b l c)(f:b<=l.length):SQ a b c:=by by_cases e:a=0;exact .inl e;rcases h with h|h;exact absurd h e;refine .inr ?_;rw[d.2.1 (a-1) (.inl o_)];exact d.all f (Q:=λx=>l.getD (a-1) 0<=x) h
def SR.outside{a b c d:Nat}{l e:O3}(h:SR a b l)(f:PR c d l e)(m:b<=c\/d<=a):SR a b e:=by intro i j k h2 g;rw[f.2.1 i o_,f.2.1 j o_];exact h i j k h2 g
def SR.small{a b:Nat}{l:O3}(h:b<=a+1):SR a b l:=by
 intro i j d h2 c;have:i=j:=o_;subst this;exact cN _
def N8{a i j:Nat}{l:O3}(f:i<l.length)(n:a<j)(m:j<=i)(h:∀p q,a<=p->p<q->q<=i->q≠j->l.getD p 0<=l.getD q 0)(k:l.getD j 0<l.getD (j-1) 0):
 ∀p q,a<=p->p<q->q<=i->q≠j-1->(iO l j (j-1)).getD p 0<=(iO l j (j-1)).getD q 0:=by
 intro p q g h2 d o;rw[rU l j (j-1) o_ o_,rU l j (j-1) o_ o_];rw[if_neg o];by_cases e:p=j-1;rw[if_pos e];by_cases b:q=j;rw[if_pos b];omega;rw[if_neg b];exact h j q o_ o_ d b;rw[if_neg e];by_cases c:p=j;rw[if_pos c,if_neg o_];exact h (j-1) q o_ o_ d o_;rw[if_neg c];by_cases b:q=j;rw[if_pos b];exact h p (j-1) g o_ o_ o_;rw[if_neg b];exact h p q g h2 d b
def Ax {a i j:Nat} {l:O3} (f:j<=i) (h:∀p q,a<=p->p<q->q<=i->q≠j->l.getD p 0<=l.getD q 0) (b:j<=a\/l.getD (j-1) 0<=l.getD j 0):SR a (i+1) l:=by intro p q d h2 g;rcases Nat.eq_or_lt_of_le h2 with rfl|h2;exact cN _;by_cases c:q=j;subst c;rcases b with b|b;omega;by_cases e:p=q-1;rw[e];exact b;exact uR (h p (q-1) d o_ o_ o_) b;exact h p q d h2 o_ c
def Ir{a i:Nat}{l:O3}(h:SR a i l):∀p q,a<=p->p<q->q<=i->q≠i->l.getD p 0<=l.getD q 0:=λp q b h2 d c=>h p q b o_ o_
def HP(f a b:Nat)(l:O3):Prop:=∀p c,a<=p->(c=2*p+1\/c=2*p+2)->c<b->l.getD (f+c) 0<=l.getD (f+p) 0
def HQ(f a b r:Nat)(l:O3):Prop:=(∀p c,a<=p->p≠r->(c=2*p+1\/c=2*p+2)->c<b->l.getD (f+c) 0<=l.getD (f+p) 0) /\
 ∀p c,a<=p->(r=2*p+1\/r=2*p+2)->(c=2*r+1\/c=2*r+2)->c<b->l.getD (f+c) 0<=l.getD (f+p) 0
def aFm{f a b:Nat}{l:O3}(h:HP f (a+1) b l):HQ f a b a l :=
 ⟨λp c g h2 e d=>h p c o_ e d,λp c g h2=>o_⟩
def ME{f b a r:Nat}{l:O3}(h:HQ f b a r l)(g:∀c,(c=2*r+1\/c=2*r+2)->c<a->l.getD (f+c) 0<=l.getD (f+r) 0):HP f b a l:=by intro p c i h2 e;by_cases d:p=r;subst d;exact g c h2 e;exact h.1 p c i d h2 e
def ST {f j b r d:Nat} {l:O3} (h:HQ f j b r l) (v:j<=r) (w:f+b<=l.length) (u:d=2*r+1\/d=2*r+2) (m:d<b) (a:∀c,(c=2*r+1\/c=2*r+2)->c<b->l.getD (f+c) 0<=l.getD (f+d) 0)
 (t:l.getD (f+r) 0<l.getD (f+d) 0):HQ f j b d (iO l (f+r) (f+d)):=by
 have g:=rU l (f+r) (f+d) o_ o_;refine⟨λp c o h2 e i=>?_,λp c o h2 e i=>?_⟩;rw[g,g];rw[if_neg (o_:¬f+p=f+d)];by_cases q:p=r;subst q;rw[if_pos rfl];by_cases s:c=d;subst s;rw[if_pos rfl];omega;rw[if_neg o_,if_neg o_];exact a c e i;rw[if_neg (o_:¬f+p=f+r)];by_cases s:c=d;omega;rw[if_neg o_];by_cases n:c=r;subst n;rw[if_pos rfl];exact h.2 p d o e u m;rw[if_neg o_];exact h.1 p c o q e i;have k:p=r:=o_;subst k;rw[g,g,if_neg o_,if_neg o_,if_neg o_,if_pos rfl];exact h.1 d c o_ o_ e i
def aHS{f a:Nat}{l:O3}(h:HP f 0 a l):∀k,k<a->l.getD (f+k) 0<=l.getD f 0:=by
 intro k
 induction k using Nat.strongRecOn with
 |_ k ih=>
  intro b;rcases JX k with rfl|c;exact cN _;exact uR (h ((k-1)/2) k (pR _) o_ b) (ih ((k-1)/2) o_ o_)
end Hud
namespace Hud
open Go
def aGY{a b:Nat}(h:b<=a):decide ((a:Int)>=(b:Int))=true:=decide_eq_true o_
def aGZ{a b:Nat}(h:a<b):decide ((a:Int)>=(b:Int))=false:=decide_eq_false o_
def aCT{a b:Nat}(h:b<a):decide ((a:Int)>(b:Int))=true:=decide_eq_true o_
def aCU{a b:Nat}(h:a<=b):decide ((a:Int)>(b:Int))=false:=decide_eq_false o_
def N9{a b:Nat}(h:a<=b):decide ((a:Int)<=(b:Int))=true:=decide_eq_true o_
def OA{a b:Nat}(h:b<a):decide ((a:Int)<=(b:Int))=false:=decide_eq_false o_
def fA(l:O3)(i:Nat)(h:i<l.length):(ul l)[i]?=some [.v (.int .u64 ((l.getD i 0:Nat):Int))]:=e_
def aFc(l:O3)(i j:Nat):((ul l).set i [.v (.int .u64 ((l.getD j 0:Nat):Int))]).set j [.v (.int .u64 ((l.getD i 0:Nat):Int))]=ul (iO l i j):=by simp only[ul,iO,Ba]
def aMw(l:O3)(i j:Nat)(x:Value)(a:j<l.length):∃y,((ul l).set i [.v x])[j]?=some [.v y]:=by rw[Hx];split;simp_all;simp_all
section
variable{G:L_}
def aWb(x:Nat):aA PQ G oT [.v (.int .u64 (x:Int))] [] λr a=>r=.v (.bool false)/\a=[]:=by refine aC EQ ?_;simp only[go_sem,bne_self_eq_false]
def aK3(x y:Nat):aA PQ G aV [.v (.int .u64 (x:Int)),.v (.int .u64 (y:Int))] [] λr a=>r=.v (.bool (decide ((x:Int)<(y:Int))))/\a=[]:=by refine aC aOV ?_;simp only[go_sem];apply cX (aWb x);simp only[go_sem]
abbrev aLO(l:List Nat)(K:AV->List Nat->Prop):AV->aK->Prop:=λr b=>∃a,K r a/\b=[some (.arr 1 (ul a))]
def aY1 (l:O3) (a b:Nat) (J:a<=b) (O:b<=l.length) (N:l.length<=1000000000):
 aA PQ G X2 [.own 0,iv a,iv b] [some (.arr 1 (ul l))] (aLO l λ_ g=>PR a b l g/\SR a b g):=by
 apply aC aK6;have C:IntKind.i64.wrap ((a:Int)+1)=((a+1:Nat):Int):=pC o_;simp only[go_sem,C];refine cO (λn s=>∃(i:Nat)(g:O3),n=b-i/\a<i/\i<=max b (a+1)/\PR a b l g/\SR a i g/\s=⟨1,[(0,.own 0),(1,iv a),(2,iv b),(6,iv i)],[some (.arr 1 (ul g))]⟩) (b-(a+1))
  ⟨a+1,l,rfl,o_,o_,PR.refl a b l,SR.small o_,a_⟩ ?_
 rintro n s ⟨i,w,M,I,F,h,x,rfl⟩;have E:=h.1;by_cases z:i<b;simp only[go_sem,aT z];refine cO (λm s=>∃(l2:O3),a<=m/\m<=i/\PR a b l l2/\(∀p q,a<=p->p<q->q<=i->q≠m->l2.getD p 0<=l2.getD q 0)/\s=⟨1,[(0,.own 0),(1,iv a),(2,iv b),(6,iv i),(7,iv m)],[some (.arr 1 (ul l2))]⟩) i
  ⟨w,o_,cN _,h,Ir x,a_⟩ ?_
 rintro j s ⟨l2,H,f,c,d,rfl⟩;have D:=c.1;have t:=fQ i o_;by_cases k:a<j;have u:IntKind.i64.wrap ((j:Int)-1)=((j-1:Nat):Int):=d_;have B:=fA l2 j o_;have A:=fA l2 (j-1) o_;have r:decide ((j:Int)>(a:Int))=true:=sj;simp only[go_sem,r,aP,(o_:j<l2.length),(o_:j-1<l2.length),u,B,A];apply cX (aK3 _ _);simp only[go_sem];refine aL (λo=>?_) (λo=>?_);have e:l2.getD j 0<l2.getD (j-1) 0:=by simpa using o
 obtain⟨y,L⟩:=aMw l2 j (j-1) (.int .u64 ((l2.getD (j-1) 0:Nat):Int)) o_;simp only[go_sem,aP,cL,(o_:j<l2.length),(o_:j-1<l2.length),u,B,A,L,aFc];exact⟨j-1,o_,iO l2 j (j-1),o_,o_,c.trans (gW o_ o_ o_ o_ o_),N8 o_ k f d e,rfl⟩;have e:l2.getD (j-1) 0<=l2.getD j 0:=by simpa using o
 simp only[go_sem,t];exact⟨b-(i+1),o_,i+1,l2,rfl,o_,o_,c,Ax f d (.inr e),rfl⟩;have r:decide ((j:Int)>(a:Int))=false:=sj;simp only[go_sem,r,t];exact⟨b-(i+1),o_,i+1,l2,rfl,o_,o_,c,Ax f d (.inl o_),rfl⟩;simp only[go_sem,aS z];exact⟨w,⟨h,λp q K h2 P=>x p q K h2 o_⟩,rfl⟩
def aUQ (l:O3) (h e f:Nat) (J:HP f (h+1) e l) (A:h<=1000000000) (O:f+e<=l.length) (N:l.length<=1000000000):
 aA PQ G X0 [.own 0,iv h,iv e,iv f] [some (.arr 1 (ul l))] (aLO l λ_ q=>PR (f+h) (f+e) l q/\HP f h e q):=by
 apply aC aLY;simp only[go_sem];refine cO (λn s=>∃(r:Nat)(q:O3),n=e-r/\h<=r/\r<=1000000000/\PR (f+h) (f+e) l q/\HQ f h e r q/\s=⟨1,[(0,.own 0),(2,iv e),(3,iv f),(8,iv r)],[some (.arr 1 (ul q))]⟩) (e-h)
  ⟨h,l,rfl,cN _,A,PR.refl _ _ l,aFm J,a_⟩ ?_
 rintro n s ⟨r,a,M,z,H,j,p,rfl⟩;have I:=j.1;have F:IntKind.i64.wrap (2*(r:Int))=((2*r:Nat):Int):=d_;have E:=pC (o_:2*r<2^63-1);simp only[go_sem,F,E];by_cases B:e<=2*r+1;simp only[go_sem,aGY B];exact⟨a,⟨j,ME p λc t h2=>o_⟩,rfl⟩;simp only[go_sem,aGZ (H8 B)];have w:=pC (o_:2*r+1<2^63-1);have D:IntKind.i64.wrap ((f:Int)+((2*r+1:Nat):Int))=((f+(2*r+1):Nat):Int):=d_;have C:=pC (o_:f+(2*r+1)<2^63-1);have L:=fA a (f+(2*r+1)) o_;by_cases h2:2*r+1+1<e;have K:=fA a (f+(2*r+1)+1) o_;simp only[go_sem,aP,aT h2,w,D,C,(o_:f+(2*r+1)<a.length),(o_:f+(2*r+1)+1<a.length),L,K];apply cX (aK3 _ _);simp only[go_sem];refine aL (λx=>?_) (λx=>?_);have o:a.getD (f+(2*r+1)) 0<a.getD (f+(2*r+1)+1) 0:=by simpa using x
 have b:∀c,(c=2*r+1\/c=2*r+2)->c<e->a.getD (f+c) 0<=a.getD (f+(2*r+1+1)) 0:=by rintro c (rfl|rfl) _;exact H9 o;exact cN _
 simp only[go_sem,w];have m:=fA a (f+r) o_;have k:=fA a (f+(2*r+1+1)) o_;have i:IntKind.i64.wrap ((f:Int)+(r:Int))=((f+r:Nat):Int):=d_;have v2:IntKind.i64.wrap ((f:Int)+(((2*r+1+1):Nat):Int))=((f+(2*r+1+1):Nat):Int):=d_;simp only[go_sem,aP,i,v2,(o_:f+r<a.length),(o_:f+(2*r+1+1)<a.length),m,k];apply cX (aK3 _ _);simp only[go_sem];refine aL (λg=>?_) (λg=>?_);have d:a.getD (f+(2*r+1+1)) 0<=a.getD (f+r) 0:=dg;simp only[go_sem];exact⟨a,⟨j,ME p λc t h2=>uR (b c t h2) d⟩,rfl⟩;have d:a.getD (f+r) 0<a.getD (f+(2*r+1+1)) 0:=dg;obtain⟨y,u⟩:=aMw a (f+r) (f+(2*r+1+1)) (.int .u64 ((a.getD (f+(2*r+1+1)) 0:Nat):Int)) o_;simp only[go_sem,aP,cL,i,v2,(o_:f+r<a.length),(o_:f+(2*r+1+1)<a.length),m,k,u,aFc];exact⟨e-((2*r+1+1)),o_,(2*r+1+1),_,rfl,o_,o_,j.trans (gW o_ o_ o_ o_ o_),ST p z o_ o_ o_ b d,rfl⟩;have o:a.getD (f+(2*r+1)+1) 0<=a.getD (f+(2*r+1)) 0:=by simpa using x
 have b:∀c,(c=2*r+1\/c=2*r+2)->c<e->a.getD (f+c) 0<=a.getD (f+(2*r+1)) 0:=by rintro c (rfl|rfl) _;exact cN _;exact o
 simp only[go_sem];have m:=fA a (f+r) o_;have k:=fA a (f+(2*r+1)) o_;have i:IntKind.i64.wrap ((f:Int)+(r:Int))=((f+r:Nat):Int):=d_;have v2:IntKind.i64.wrap ((f:Int)+(((2*r+1):Nat):Int))=((f+(2*r+1):Nat):Int):=d_;simp only[go_sem,aP,i,v2,(o_:f+r<a.length),(o_:f+(2*r+1)<a.length),m,k];apply cX (aK3 _ _);simp only[go_sem];refine aL (λg=>?_) (λg=>?_);have d:a.getD (f+(2*r+1)) 0<=a.getD (f+r) 0:=dg;simp only[go_sem];exact⟨a,⟨j,ME p λc t h2=>uR (b c t h2) d⟩,rfl⟩;have d:a.getD (f+r) 0<a.getD (f+(2*r+1)) 0:=dg;obtain⟨y,u⟩:=aMw a (f+r) (f+(2*r+1)) (.int .u64 ((a.getD (f+(2*r+1)) 0:Nat):Int)) o_;simp only[go_sem,aP,cL,i,v2,(o_:f+r<a.length),(o_:f+(2*r+1)<a.length),m,k,u,aFc];exact⟨e-((2*r+1)),o_,(2*r+1),_,rfl,o_,o_,j.trans (gW o_ o_ o_ o_ o_),ST p z o_ o_ o_ b d,rfl⟩;have b:∀c,(c=2*r+1\/c=2*r+2)->c<e->a.getD (f+c) 0<=a.getD (f+(2*r+1)) 0:=by rintro c (rfl|rfl) _;exact cN _;omega
 simp only[go_sem,w,aS h2];have m:=fA a (f+r) o_;have k:=fA a (f+(2*r+1)) o_;have i:IntKind.i64.wrap ((f:Int)+(r:Int))=((f+r:Nat):Int):=d_;have v2:IntKind.i64.wrap ((f:Int)+(((2*r+1):Nat):Int))=((f+(2*r+1):Nat):Int):=d_;simp only[go_sem,aP,i,v2,(o_:f+r<a.length),(o_:f+(2*r+1)<a.length),m,k];apply cX (aK3 _ _);simp only[go_sem];refine aL (λg=>?_) (λg=>?_);have d:a.getD (f+(2*r+1)) 0<=a.getD (f+r) 0:=dg;simp only[go_sem];exact⟨a,⟨j,ME p λc t h2=>uR (b c t h2) d⟩,rfl⟩;have d:a.getD (f+r) 0<a.getD (f+(2*r+1)) 0:=dg;obtain⟨y,u⟩:=aMw a (f+r) (f+(2*r+1)) (.int .u64 ((a.getD (f+(2*r+1)) 0:Nat):Int)) o_;simp only[go_sem,aP,cL,i,v2,(o_:f+r<a.length),(o_:f+(2*r+1)<a.length),m,k,u,aFc];exact⟨e-((2*r+1)),o_,(2*r+1),_,rfl,o_,o_,j.trans (gW o_ o_ o_ o_ o_),ST p z o_ o_ o_ b d,rfl⟩
end
end Hud
namespace Hud
open Go Go.Proofs Go.Sort Go.Shelf
def cellsOf{α:Type}(enc:α->O5)(x:α):O0:=(enc x).map .v
def SU {α:Type} [Inhabited α] {enc:α->O5} {k:Nat} (c:∀x,(enc x).length=k):∀(l:List α)(t:Nat),t<l.length*k->(l.flatMap enc)[t]?=some ((enc l[t/k]!)[t%k]!)
 |[],t,h=>by simp at h
 | x::l,t,h=>by
  have d:0<k:=by rcases JX k with e|e;subst e;simp at h;exact e
  rw[List.flatMap_cons];rcases eD t k with a|b;rw[mY (by rw[c];exact a),Nat.div_eq_of_lt a,EZ a,aGF];have:t<(enc x).length:=by rw[c];exact a
  simp[this];rw[Mc (by rw[c];exact b),c];have f:t-k<l.length*k:=by rw[sE,xE,Km]at h;omega
  rw[SU c l (t-k) f];have i:t/k=(t-k)/k+1:=by have:=Nat.add_div_right (t-k) d;rw[Nat.sub_add_cancel b]at this;exact this
  have g:t%k=(t-k)%k:=(Nat.mod_eq_sub_mod b)
  rw[i,<-g];simp
def MF{α:Type}{enc:α->O5}{k:Nat}(a:∀x,(enc x).length=k)(l:List α):(l.flatMap enc).length=l.length*k:=by
 induction l with
 |nil=>simp|cons x l ih=>rw[List.flatMap_cons,dZ,a,ih,sE,xE,Km,Nat.add_comm]
def OB{α:Type}[Inhabited α](d:Array α)(i:Nat):d.toList[i]! = d[i]! := by by_cases h:i<d.size;rw[getElem!_pos d i h,getElem!_pos d.toList i n_];simp;rw[getElem!_neg d i h,getElem!_neg d.toList i n_]
def Wg{α:Type}[Inhabited α]{enc:α->O5}{k:Nat}(a:∀x,(enc x).length=k)(d:Array α):(flatK enc k d).toList=d.toList.flatMap enc:=by
 apply EW;intro t;rcases eD t (d.size*k) with h|h;have e:(flatK enc k d).toList[t]! = (enc d.toList[t/k]!)[t%k]! := by rw[OB (flatK enc k d),get_flatK enc k d t h,OB d]
 rw[SU a d.toList t n_,<-e,aGF,jN n_];rfl;rw[sX n_,sX (by rw[MF a];simpa using h)]
def aRF{h:GH}:∀{vs us:O5},cK h (vs.map .v) us->us=vs|[],us,e=>by simpa[cK]using e|v::vs,us,e=>by simp only[fG,cK]at e;obtain⟨u,b,rfl,a,h2⟩:=e;simp only[oB]at a;rw[a,aRF h2]
def OC{h:GH}:∀{vs:O5},cK h (vs.map .v) vs|[]=>by simp[cK]|v::vs=>by simp only[fG,cK];exact⟨v,vs,rfl,by simp[oB],OC⟩
def HZ{α:Type}(enc:α->O5)(l:List α):(l.map (cellsOf enc)).flatten=(l.flatMap enc).map .v:=by
 induction l with
 |nil=>rfl|cons x l ih=>simp[cellsOf,ih]
section
variable{P:Program}{α:Type}[Inhabited α]{enc:α->O5}{k:Nat}
def Iu{w:World}{g o:Nat}{a:Array Value}{E:TypeId}(h:w.heap[g]?=some (.cells a E (0,0))):w.cell? ⟨g,o,none⟩=a[o]?/\w.frozen? ⟨g,o,none⟩=false:=by constructor;simp[World.cell?,h];simp[World.frozen?,h]
def aCV{h:GH}{w:World}{g:Nat}{a:Array Value}{E:TypeId}{l:List α}(j:∀x,(enc x).length=k)(i:w.heap[g]?=some (.cells a E (0,0)))(e:cK h (l.map (cellsOf enc)).flatten (a.toList.take (l.length*k))):
 HoldsK enc k w g 0 l.toArray:=by
 rw[HZ]at e;have c:=aRF e;intro t d;rw[size_flatK]at d;have b:t<l.length*k:=d8;obtain⟨n,m⟩:=Iu (o:=0+t) i;refine⟨?_,m⟩;rw[n,pQ];have f:a.toList[t]?=(l.flatMap enc)[t]?:=by rw[<-c,BT,if_pos b]
 rw[SU j l t b]at f;rw[get_flatK _ _ _ _ d,<-OB];simpa using f
def UQ{w:World}{g m:Nat}{c:Array Value}{E:TypeId}{d:Array α}{os:Array Obj}(p:∀x,(enc x).length=k)(i:w.heap[g]?=some (.cells c E (0,0)))(o:d.size*k<=c.size):
 (∀b,b<w.heap.size->b≠g->(sortWorldK enc k w g 0 m d os).heap[b]?=w.heap[b]?) /\
 (∃a,(sortWorldK enc k w g 0 m d os).heap[g]?=some (.cells a E (0,0))/\a.size=c.size/\a.toList.take (d.size*k)=d.toList.flatMap enc)/\w.heap.size<=(sortWorldK enc k w g 0 m d os).heap.size:=by
 have l:g<w.heap.size:=by rcases eD g w.heap.size with n|n;exact n;rw[Hz n]at i;simp at i
 have f:(sortWorldK enc k w g 0 m d os).heap=w.heap.modify g (onCells (putCells id 0 (flatK enc k d)))++os:=rfl;rw[f];refine⟨λb q j=>?_,⟨putCells id 0 (flatK enc k d) c,?_,?_,?_⟩,?_⟩;rw[X5 (by simpa using q),YA,if_neg (λe=>j e.symm)];rw[X5 (by simpa using l),YA,if_pos rfl,i];rfl;simp[putCells];rw[<-Wg p];apply EW;intro t;rw[BT];split;rename_i h;have r:t<c.size:=CV h o;have h2:t<(flatK enc k d).size:=by rw[size_flatK];exact h
 rw[jN (by simpa[putCells]using r),jN dx];simp only[putCells,Array.getElem_toList,Array.getElem_mapIdx];rw[if_pos ⟨pR _,o_⟩,QO,id,getElem!_pos _ t h2];rename_i h;rw[sX n_];simp
def SW {I:Ren} (L:SlLaysF0.n6 P I) (aE:∀w,(isAgg (I.t 24)).run P w=.ok true w) (zE:∀w,(Go.sizeOf (I.t 24)).run P w=.ok k w) (U:∀x,(enc x).length=k) (h1:∀x,∀v∈enc x,v.oneCell'=true) (ae:∀x,∀c∈cellsOf enc x,aX c=true)
 {cf:α->α->Int} (hO:SWO (ltOf cf)) (hT:∀x y,(ltOf cf) x y=false->(ltOf cf) y x=false->x=y) {g:Nat} (eg:∀p w,(callFunc g p).run P w=.ok (.enter g p) w) (eS:∀p w,(callFunc (I.f 6) p).run P w=.ok (.enter (I.f 6) p) w) {G:L_}
 (V:∀x y,aA P G g [.ag (cellsOf enc x),.ag (cellsOf enc y)] [] λr T=>r=iv (cf x y)/\T=[]) (l:List α) (hl:l.length<4611686018427387904):
 aA P G (I.f 6) [.own 0,.cl g []] [some (.arr k (l.map (cellsOf enc)))] λr T=>r=.tup []/\T=[some (.arr k ((l.mergeSort λx y=>!(ltOf cf) y x).map (cellsOf enc)))]:=by
 intro h A w K hG hI hA;refine .inl ⟨eS _ _,?_⟩;simp only[kR]at hA;obtain⟨u0,ak,aa,Z,u1,aj,rfl,Y,rfl⟩:=hA;simp only[Rp]at Z Y;obtain⟨_,rfl,_⟩:=Z;obtain⟨us,rfl,O⟩:=Y;simp only[kR]at O;have N:us=#[]:=by simpa using O
 subst N;obtain rfl:K=#[A 0,.func (.func g) #[] #[]]:=by apply EY.1;simpa using aa
 obtain⟨X,R⟩:=hI.obj 0 _ rfl;have C:=H4 l (λx y=>!(ltOf cf) y x);have q:(l.mergeSort λx y=>!(ltOf cf) y x).length=l.length:=C.length_eq;rcases R with⟨A0,e0,S⟩|⟨b,c,ai,E,e0,e1,e2,e3,e4,e5,e6⟩
 have:l=[]:=by simpa using S
 subst this;rw[e0];refine(AnyF.slices_SortFunc_none L A0 0 (.func (.func g) #[] #[]) w).mono ?_;rintro e w' ⟨rfl,rfl⟩;have ah:([]:List α).mergeSort (λx y=>!(ltOf cf) y x)=[]:=List.mergeSort_nil;rw[ah];exact⟨_,rfl,.tup [],_,h,A,⟨rfl,rfl⟩,Evo.refl,hI,by simp only[Rp];exact⟨#[],rfl,by simp[kR]⟩⟩;rw [e0];rw[aP]at e2 e6⊢;have hb:b<w.heap.size:=by rcases eD b w.heap.size with D|D;exact D;rw[Hz D]at e1;simp at e1
 have hH:=aCV U e1 e6;have Q:l.length*k<=ai.size:=by rw[e4];exact aOo k e2
 have ac:∀s cs,h s=some cs->s≠b:=λs cs e he=>by rw[he,e5]at e;simp at e
 have hC:CmpLays P g #[] enc k cf b 0 l.toArray.size w:=by
  intro m os u ad x y;obtain⟨s1,⟨z,s2,s3,s4⟩,s5⟩:=UQ (m:=m) (os:=os) (d:=u) U e1 (by rw[ad];simpa using Q)
  have af:Inv h A (sortWorldK enc k w b 0 m u os) []:=⟨λs cs e=>by
   obtain⟨E',fr,B⟩:=hI.gh s cs e;have F:s<w.heap.size:=by rcases eD s w.heap.size with D|D;exact D;rw[Hz D]at B;simp at B
   exact⟨E',fr,by rw[s1 s F (ac s cs e)];exact B⟩,λi o e=>by simp at e,λi j oi oj b e=>by simp at e⟩
  have H:kR h A 0 [.ag (cellsOf enc x),.ag (cellsOf enc y)] (#[Value.agg (enc x).toArray,.agg (enc y).toArray]++#[]:Array Value).toList:=by
   have M:∀l:O5,kR h A 0 (l.map .v) l:=by
    intro l
    induction l with
    |nil=>simp[kR]|cons c l ih=>simp only[fG,kR];exact⟨c,l,rfl,by simp[Rp],ih⟩
   simp only[kR];exact⟨_,_,rfl,by simp only[Rp];exact⟨_,rfl,M (enc x)⟩,_,_,rfl,by simp only[Rp];exact⟨_,rfl,M (enc y)⟩,rfl⟩
  rcases V x y h A _ _ hG af H with⟨_,X⟩|⟨v,w',X,_⟩
  refine X.mono ?_;rintro e w' ⟨v,rfl,r,T',h',φ',⟨rfl,rfl⟩,J,al,hv⟩;simp only[Rp]at hv;subst hv;refine⟨rfl,w'.drawn-(sortWorldK enc k w b 0 m u os).drawn,w'.heap.extract (sortWorldK enc k w b 0 m u os).heap.size w'.heap.size,?_⟩;have hd:=J.drawn;have a:w'.heap=(sortWorldK enc k w b 0 m u os).heap++w'.heap.extract (sortWorldK enc k w b 0 m u os).heap.size w'.heap.size:=by apply Array.ext_getElem?;intro i;rcases eD i (sortWorldK enc k w b 0 m u os).heap.size with hi|hi;rw[X5 hi,J.frame i hi (λj o e=>by simp at e)];rw[Array.getElem?_append_right hi];have:=J.size;rw[Array.getElem?_extract];split;congr 1;omega;rw[Hz (by omega)]
  have e7:=J.os;have e8:=J.tape;have e9:=J.output;revert hd a e7 e8 e9;generalize sortWorldK enc k w b 0 m u os=W;intro hd a e7 e8 e9;obtain⟨hp,tp,dr,o,op⟩:=w';simp only at a hd e7 e8 e9;subst e7;subst e8;subst e9;simp only[Go.Sort.grow,World.drewN];rw[<-a];congr 1;omega;rw[eg]at X;simp at X
 refine(AnyQ.slices_SortFunc_total L k aE zE enc U h1 cf hO g #[] b 0 (c+1) l.toArray w eg hC hH hb (by simpa using hl) hT).mono ?_;rintro e w' ⟨rfl,n,os,rfl⟩;generalize(l.mergeSort λx y=>!(ltOf cf) y x)=l' at q;obtain⟨s1,⟨z,s2,s3,s4⟩,s5⟩:=UQ (m:=n) (os:=os) (d:=l'.toArray) U e1 (by simpa[q]using Q);have:=Fw (w':=sortWorldK enc k w b 0 n l'.toArray os) (o':=.arr k (l'.map (cellsOf enc))) hI rfl rfl rfl s5 (i:=0) (o:=.arr k (l.map (cellsOf enc))) rfl
  (λs F ab=>s1 s F (λe=>ab (by rw[e0,e];rfl)))
  ⟨λx hx=>by
   obtain⟨y,_,rfl⟩:=dF.1 hx
   exact⟨by simp[cellsOf,U],ae y⟩,.inr ⟨b,c,z,E,by rw[aP,q];simpa using e0,s2,by rw[aP,q];exact e2,e3,by rw[s3];exact e4,e5,by
    rw[aP,HZ];simp only[Gn]at s4;rw[s4]
    exact OC⟩⟩
  (Nat.le_add_right _ _)
 exact⟨_,rfl,.tup [],_,h,A,⟨rfl,rfl⟩,this.2,this.1,by simp only[Rp];exact⟨#[],rfl,by simp[kR]⟩⟩
end
end Hud
namespace Go.Proofs
open Go.Shelf
def Tryz.laysSort_ren:Go.Shelf.Ren:=⟨fun|6=>144|15=>202|14=>215|28=>256|29=>257|20=>277|21=>278|22=>279|23=>280|24=>281|25=>282|26=>283|27=>284|46=>330|47=>315|48=>316|49=>331|50=>332|57=>363|n=>n,fun|22=>27|24=>71|25=>194|3=>3|39=>159|0=>0|53=>297|55=>22|4=>4|46=>291|45=>290|50=>186|5=>5|9=>9|66=>331|70=>334|76=>364|77=>365|n=>n,fun|n=>n⟩
def Tryz.laysSort:Go.Proofs.SlLaysF0.n6 Tryz.prog Tryz.laysSort_ren:={
 mixed:=by kernel_rfl
 f6:=⟨Tryz.f144.name,by decide,Tryz.func144.trans (congrArg some (by kernel_rfl))⟩
 f14:=⟨Tryz.f215.name,by decide,Tryz.func215.trans (congrArg some (by kernel_rfl))⟩
 f15:=Tryz.func202.trans (congrArg some (by kernel_rfl))
 f20:=⟨Tryz.f277.name,by decide,Tryz.func277.trans (congrArg some (by kernel_rfl))⟩
 f21:=⟨Tryz.f278.name,by decide,Tryz.func278.trans (congrArg some (by kernel_rfl))⟩
 f22:=⟨Tryz.f279.name,by decide,Tryz.func279.trans (congrArg some (by kernel_rfl))⟩
 f23:=⟨Tryz.f280.name,by decide,Tryz.func280.trans (congrArg some (by kernel_rfl))⟩
 f24:=⟨Tryz.f281.name,by decide,Tryz.func281.trans (congrArg some (by kernel_rfl))⟩
 f25:=⟨Tryz.f282.name,by decide,Tryz.func282.trans (congrArg some (by kernel_rfl))⟩
 f26:=⟨Tryz.f283.name,by decide,Tryz.func283.trans (congrArg some (by kernel_rfl))⟩
 f27:=⟨Tryz.f284.name,by decide,Tryz.func284.trans (congrArg some (by kernel_rfl))⟩
 f28:=Tryz.func256.trans (congrArg some (by kernel_rfl))
 f29:=Tryz.func257.trans (congrArg some (by kernel_rfl))
 f46:=⟨Tryz.f330.name,by decide,Tryz.func330.trans (congrArg some (by kernel_rfl))⟩
 f47:=Tryz.func315.trans (congrArg some (by kernel_rfl))
 f48:=Tryz.func316.trans (congrArg some (by kernel_rfl))
 f49:=⟨Tryz.f331.name,by decide,Tryz.func331.trans (congrArg some (by kernel_rfl))⟩
 f50:=⟨Tryz.f332.name,by decide,Tryz.func332.trans (congrArg some (by kernel_rfl))⟩
 f57:=⟨Tryz.f363.name,by decide,Tryz.func363.trans (congrArg some (by kernel_rfl))⟩
 t0:=Tryz.underlying0
 a0:=Tryz.isAgg0
 z0:=Tryz.sizeOf0
 v0:=Tryz.zeroValue0
 t3:=Tryz.underlying3
 a3:=Tryz.isAgg3
 z3:=Tryz.sizeOf3
 v3:=Tryz.zeroValue3
 t4:=Tryz.underlying4
 a4:=Tryz.isAgg4
 z4:=Tryz.sizeOf4
 v4:=Tryz.zeroValue4
 t5:=Tryz.underlying5
 a5:=Tryz.isAgg5
 z5:=Tryz.sizeOf5
 v5:=Tryz.zeroValue5
 t9:=Tryz.underlying9
 a9:=Tryz.isAgg9
 z9:=Tryz.sizeOf9
 v9:=Tryz.zeroValue9
 t22:=Tryz.underlying27
 a22:=Tryz.isAgg27
 z22:=Tryz.sizeOf27
 v22:=Tryz.zeroValue27
 t25:=Tryz.underlying194
 a25:=Tryz.isAgg194
 z25:=Tryz.sizeOf194
 v25:=Tryz.zeroValue194
 t39:=Tryz.underlying159
 a39:=Tryz.isAgg159
 z39:=Tryz.sizeOf159
 v39:=Tryz.zeroValue159
 t45:=Tryz.underlying290
 a45:=Tryz.isAgg290
 z45:=Tryz.sizeOf290
 v45:=Tryz.zeroValue290
 t46:=Tryz.underlying291
 a46:=Tryz.isAgg291
 z46:=Tryz.sizeOf291
 v46:=Tryz.zeroValue291
 t50:=Tryz.underlying186
 a50:=Tryz.isAgg186
 z50:=Tryz.sizeOf186
 v50:=Tryz.zeroValue186
 t53:=Tryz.underlying297
 a53:=Tryz.isAgg297
 z53:=Tryz.sizeOf297
 v53:=Tryz.zeroValue297
 t55:=Tryz.underlying22
 a55:=Tryz.isAgg22
 z55:=Tryz.sizeOf22
 v55:=Tryz.zeroValue22
 t66:=Tryz.underlying331
 a66:=Tryz.isAgg331
 z66:=Tryz.sizeOf331
 v66:=Tryz.zeroValue331
 t70:=Tryz.underlying334
 a70:=Tryz.isAgg334
 z70:=Tryz.sizeOf334
 v70:=Tryz.zeroValue334
 t76:=Tryz.underlying364
 a76:=Tryz.isAgg364
 z76:=Tryz.sizeOf364
 v76:=Tryz.zeroValue364
 t77:=Tryz.underlying365
 a77:=Tryz.isAgg365
 z77:=Tryz.sizeOf365
 v77:=Tryz.zeroValue365}
def Tryz.laysSortC_ren:Go.Shelf.Ren:=⟨fun|6=>132|15=>202|14=>201|28=>256|29=>257|20=>248|21=>249|22=>250|23=>251|24=>252|25=>253|26=>254|27=>255|46=>314|47=>315|48=>316|49=>317|50=>318|57=>358|n=>n,fun|22=>25|24=>107|25=>181|3=>3|39=>159|0=>0|53=>297|55=>22|4=>4|46=>291|45=>290|50=>186|5=>5|9=>9|66=>331|70=>334|76=>364|77=>365|n=>n,fun|n=>n⟩
def Tryz.laysSortC:Go.Proofs.SlLaysF0.n6 Tryz.prog Tryz.laysSortC_ren:={
 mixed:=by kernel_rfl
 f6:=⟨Tryz.f132.name,by decide,Tryz.func132.trans (congrArg some (by kernel_rfl))⟩
 f14:=⟨Tryz.f201.name,by decide,Tryz.func201.trans (congrArg some (by kernel_rfl))⟩
 f15:=Tryz.func202.trans (congrArg some (by kernel_rfl))
 f20:=⟨Tryz.f248.name,by decide,Tryz.func248.trans (congrArg some (by kernel_rfl))⟩
 f21:=⟨Tryz.f249.name,by decide,Tryz.func249.trans (congrArg some (by kernel_rfl))⟩
 f22:=⟨Tryz.f250.name,by decide,Tryz.func250.trans (congrArg some (by kernel_rfl))⟩
 f23:=⟨Tryz.f251.name,by decide,Tryz.func251.trans (congrArg some (by kernel_rfl))⟩
 f24:=⟨Tryz.f252.name,by decide,Tryz.func252.trans (congrArg some (by kernel_rfl))⟩
 f25:=⟨Tryz.f253.name,by decide,Tryz.func253.trans (congrArg some (by kernel_rfl))⟩
 f26:=⟨Tryz.f254.name,by decide,Tryz.func254.trans (congrArg some (by kernel_rfl))⟩
 f27:=⟨Tryz.f255.name,by decide,Tryz.func255.trans (congrArg some (by kernel_rfl))⟩
 f28:=Tryz.func256.trans (congrArg some (by kernel_rfl))
 f29:=Tryz.func257.trans (congrArg some (by kernel_rfl))
 f46:=⟨Tryz.f314.name,by decide,Tryz.func314.trans (congrArg some (by kernel_rfl))⟩
 f47:=Tryz.func315.trans (congrArg some (by kernel_rfl))
 f48:=Tryz.func316.trans (congrArg some (by kernel_rfl))
 f49:=⟨Tryz.f317.name,by decide,Tryz.func317.trans (congrArg some (by kernel_rfl))⟩
 f50:=⟨Tryz.f318.name,by decide,Tryz.func318.trans (congrArg some (by kernel_rfl))⟩
 f57:=⟨Tryz.f358.name,by decide,Tryz.func358.trans (congrArg some (by kernel_rfl))⟩
 t0:=Tryz.underlying0
 a0:=Tryz.isAgg0
 z0:=Tryz.sizeOf0
 v0:=Tryz.zeroValue0
 t3:=Tryz.underlying3
 a3:=Tryz.isAgg3
 z3:=Tryz.sizeOf3
 v3:=Tryz.zeroValue3
 t4:=Tryz.underlying4
 a4:=Tryz.isAgg4
 z4:=Tryz.sizeOf4
 v4:=Tryz.zeroValue4
 t5:=Tryz.underlying5
 a5:=Tryz.isAgg5
 z5:=Tryz.sizeOf5
 v5:=Tryz.zeroValue5
 t9:=Tryz.underlying9
 a9:=Tryz.isAgg9
 z9:=Tryz.sizeOf9
 v9:=Tryz.zeroValue9
 t22:=Tryz.underlying25
 a22:=Tryz.isAgg25
 z22:=Tryz.sizeOf25
 v22:=Tryz.zeroValue25
 t25:=Tryz.underlying181
 a25:=Tryz.isAgg181
 z25:=Tryz.sizeOf181
 v25:=Tryz.zeroValue181
 t39:=Tryz.underlying159
 a39:=Tryz.isAgg159
 z39:=Tryz.sizeOf159
 v39:=Tryz.zeroValue159
 t45:=Tryz.underlying290
 a45:=Tryz.isAgg290
 z45:=Tryz.sizeOf290
 v45:=Tryz.zeroValue290
 t46:=Tryz.underlying291
 a46:=Tryz.isAgg291
 z46:=Tryz.sizeOf291
 v46:=Tryz.zeroValue291
 t50:=Tryz.underlying186
 a50:=Tryz.isAgg186
 z50:=Tryz.sizeOf186
 v50:=Tryz.zeroValue186
 t53:=Tryz.underlying297
 a53:=Tryz.isAgg297
 z53:=Tryz.sizeOf297
 v53:=Tryz.zeroValue297
 t55:=Tryz.underlying22
 a55:=Tryz.isAgg22
 z55:=Tryz.sizeOf22
 v55:=Tryz.zeroValue22
 t66:=Tryz.underlying331
 a66:=Tryz.isAgg331
 z66:=Tryz.sizeOf331
 v66:=Tryz.zeroValue331
 t70:=Tryz.underlying334
 a70:=Tryz.isAgg334
 z70:=Tryz.sizeOf334
 v70:=Tryz.zeroValue334
 t76:=Tryz.underlying364
 a76:=Tryz.isAgg364
 z76:=Tryz.sizeOf364
 v76:=Tryz.zeroValue364
 t77:=Tryz.underlying365
 a77:=Tryz.isAgg365
 z77:=Tryz.sizeOf365
 v77:=Tryz.zeroValue365}
end Go.Proofs
namespace Hud
open Go
variable{G:L_}
def OD(x y:Id):aA PQ G DR [.ag x.A,.ag y.A] [] λr T=>r=.v (.bool (x.lt y))/\T=[]:=by refine aC Po ?_;simp only[go_sem,Id.A];refine aL (λh=>?_) (λh=>?_)<;>simp only[go_sem];simp_all[Id.lt];refine aL (λh2=>?_) (λh2=>?_)<;>simp only[go_sem]<;>simp_all[Id.lt]
def aON(x:Int):aA PQ G kH [iv x] [] λr T=>r=.v (.bool false)/\T=[]:=by refine aC Aw ?_;simp only[go_sem,bne_self_eq_false]
def Ay(x:Int):aA PQ G oT [.v (.int .u64 x)] [] λr T=>r=.v (.bool false)/\T=[]:=by refine aC EQ ?_;simp only[go_sem,bne_self_eq_false]
def wG(x y:Int):Int:=if x<y then -1 else if y<x then 1 else 0
def kB(x y:Int):aA PQ G jW [iv x,iv y] [] λr T=>r=iv (wG x y)/\T=[]:=by refine aC FM ?_;simp only[go_sem];apply cX (aON x);simp only[go_sem];apply cX (aON y);simp only[go_sem];refine aL (λh=>?_) (λh=>?_)<;>simp only[go_sem];simp_all[wG];refine aL (λh2=>?_) (λh2=>?_)<;>simp only[go_sem]<;>simp_all[wG];omega
def FR(x y:Int):aA PQ G qV [.v (.int .u64 x),.v (.int .u64 y)] [] λr T=>r=iv (wG x y)/\T=[]:=by refine aC Cl ?_;simp only[go_sem];apply cX (Ay x);simp only[go_sem];apply cX (Ay y);simp only[go_sem];refine aL (λh=>?_) (λh=>?_)<;>simp only[go_sem];simp_all[wG];refine aL (λh2=>?_) (λh2=>?_)<;>simp only[go_sem]<;>simp_all[wG];omega
def I1(x:Int):O0:=[iv x]
def aXo(x:Int):I1 x=[iv x]:=rfl
abbrev ints(l:List Int):AV:=.ls 1 (l.map I1)
def pX(n m:Int):Int:=(if n<0 then -(n+1) else n)%m
def nF:O4->Int|[]=>0|x::r=>if x=0 then nF r else x
def Iv{l:O4}{i:Nat}(h:∀j,j<i->l.getD j 0=0)(c:i<l.length)(b:l[i]≠0):nF l=l[i]:=by
 induction l generalizing i with
 |nil=>simp at c| cons a l ih=>
  cases i with
  |zero=>simp only[List.getElem_cons_zero]at b⊢;simp[nF,b]|succ i=>
   have d:a=0:=by simpa using h 0 o_
   grind[nF]
def Iw{l:O4}(h:∀j,j<l.length->l.getD j 0=0):nF l=0:=by
 induction l with
 |nil=>rfl|cons a l ih=>
  have c:a=0:=by simpa using h 0 k_
  simp only[nF,c,if_true];exact ih λj b=>by simpa using h (j+1) B_
theorem aHT{x y:Int}:wG x y=0↔x=y:=by grind[wG]
theorem aCX{x y:Int}:wG x y<0↔x<y:=by grind[wG]
def aHU(x y:Id):decide (nF [wG x.a y.a,wG x.b y.b,wG x.c y.c]<0)=x.lt y:=by rw[aO8];grind[nF,Id.lt,aHT,aCX]
def AC(l:O4)(c:l.length<=maxLen):aA PQ G zX [ints l] [] λr T=>r=iv (nF l)/\T=[]:=by refine aC LU ?_;unfold maxLen at c;simp only[go_sem,aP];refine aQ l.length (λi=>⟨0,[(3,iv 0),(6,ints l),(7,iv l.length),(8,iv i)],[]⟩) (λi=>∀j,j<i->l.getD j 0=0) ?_ k_ ?_ ?_;rfl;intro i b a;simp only[go_sem,aT b,aO I1 l i b,aXo];refine aL (λh=>?_) (λh=>?_)<;>simp only[go_sem,fQ i o_];rw[Iv a b n_];grind;intro a;simp only[go_sem,aS (bP _),Iw a]
def Cm(x y:Id):aA PQ G wC [.ag x.A,.ag y.A] [] λr T=>r=.v (.bool (x.lt y))/\T=[]:=by refine aC SK ?_;simp only[go_sem,Id.A];apply cX (kB x.a y.a);simp only[go_sem];apply cX (kB x.b y.b);simp only[go_sem];apply cX (FR x.c y.c);simp only[go_sem];apply iJ (aB _) rfl rfl (AC [wG x.a y.a,wG x.b y.b,wG x.c y.c] (by simp[maxLen]));simp only[go_sem];rw[aHU]
def Dl(n m:Int)(e:-9223372036854775808<=n)(h2:n<=2^63-1)(d:1<=m)(c:m<=2^63-1):
 aA PQ G uV [iv n,iv m] [] λr T=>r=iv (pX n m)/\T=[]:=by
 apply aC LV;have a:¬m=0:=o_;simp only[go_sem];refine aL (λh=>?_) (λh=>?_)<;>simp only[go_sem,a];have b:n<0:=n_;rw[aJ (n:=n+1) o_ o_,aJ o_ o_];grind[pX,Int.zero_sub];grind[pX]
def Pr(x y:O6)(f:x.length<=maxLen):aA PQ G CF [ids x,ids y] [] λr T=>r=.v (.bool (decide (x=y)))/\T=[]:=by
 apply aC Jx;unfold maxLen at f;simp only[go_sem,aP];refine aL (λh=>?_) (λh=>?_)<;>simp only[go_sem];have:x≠y:=λe=>aHE h (by rw[e]);simp[this];have d:=aHF h;refine aQ x.length (λi=>⟨0,[(0,ids x),(1,ids y),(5,iv i)],[]⟩) (λi=>x.take i=y.take i) ?_ k_ ?_ ?_;rfl;intro i a c;have b:i<y.length:=o_;simp only[go_sem,aP,aT a,aO Id.A x i a,aO Id.A y i b,Id.A_def];refine aL (λh=>?_) (λh=>?_)<;>simp only[go_sem,fQ i o_];have:x≠y:=by rintro rfl;simp at h
 simp[this];have:x[i]=y[i]:=n_;rw[lq8 a,lq8 b,c,this];intro c;have:x=y:=m_;simp only[go_sem,aP,aS (bP _),this]
def uJ(l:O6)(x:Id)(d:l.length<=maxLen):aA PQ G oK [ids l,.ag x.A] [] λr T=>r=.v (.bool (decide (x∈l)))/\T=[]:=by
 apply aC aQr;unfold maxLen at d;simp only[go_sem,Id.A_def];refine aQ l.length (λi=>⟨0,[(0,ids l),(3,.ptr 0 0),(5,iv i)],[some (.box x.A)]⟩) (λi=>x∉l.take i) ?_ k_ ?_ ?_;rfl;intro i b a;simp only[go_sem,aP,aT b,aO Id.A l i b,Id.A_def];refine aL (λh=>?_) (λh=>?_)<;>simp only[go_sem,fQ i o_];grind;refine⟨rfl,?_⟩;have:l[i]≠x:=n_;intro c;rw[lq8 b]at c;grind;intro a;rw[dE]at a;simp only[go_sem,aP,aS (bP _),a]
def Ha(x:Id)(out:O6):Nat->Nat|0=>0|n+1=>match out[n]? with|some y=>if x.lt y then Ha x out n else n+1|none=>n+1
def Ps(out:O6)(x:Id):O6:=out.take (Ha x out out.length)++[x]++out.drop (Ha x out out.length)
def jI(l:O6):O6:=l.foldl Ps []
def Yz(x:Id)(out:O6):∀n,Ha x out n<=n|0=>cN _| n+1=>by simp only[Ha];split;split;have:=Yz x out n;omega;omega;omega
def aCY(out:O6)(x:Id):(Ps out x).length=out.length+1:=by grind[Ps,List.length_append,List.length_take,List.length_drop,List.length_cons,List.length_nil]
def aAt(l:O6):∀out,(l.foldl Ps out).length=out.length+l.length:=by
 induction l with
 |nil=>simp|cons x l ih=>intro out;simp only[CW,ih,aCY,sE];omega
def Qn(l:O6):(jI l).length=l.length:=by simp[jI,aAt]
def Wh(l:O6)(i:Nat)(h:i<l.length):jI (l.take (i+1))=Ps (jI (l.take i)) l[i]:=by rw[lq8 h,jI,Hy];rfl
def AD (l:O6) (j:l.length<=1000000000):aA PQ G rO [ids l] [] λr T=>r=.own 0/\T=[some (.arr 3 ((jI l).map Id.A))]:=by
 apply aC LT;simp only[go_sem];refine aQ l.length (λi=>⟨0,[(0,ids l),(3,.own 0),(4,iv i)],[some (.arr 3 ((jI (l.take i)).map Id.A))]⟩) (λ_=>True) ?_ trivial ?_ ?_;rfl;intro i b _;simp only[go_sem,aP,aT b];have g:=Qn (l.take i);rw[eC]at g;have c:=Yz l[i] (jI (l.take i)) (jI (l.take i)).length;refine jG (λs=>s=⟨0,[(0,ids l),(3,.own 0),(4,iv i),(5,iv (Ha l[i] (jI (l.take i)) (jI (l.take i)).length:Nat))],[some (.arr 3 ((jI (l.take i)).map Id.A))]⟩) ?_ ?_;refine aFb (jI (l.take i)).length (λk=>⟨0,[(0,ids l),(3,.own 0),(4,iv i),(5,iv k)],[some (.arr 3 ((jI (l.take i)).map Id.A))]⟩) (λk=>Ha l[i] (jI (l.take i)) (jI (l.take i)).length=Ha l[i] (jI (l.take i)) k) ?_ rfl ?_ ?_;simp only[go_sem];intro k d e;have a:=aO Id.A (jI (l.take i)) k d;simp only[go_sem,aP,aO Id.A l i b,aNu (o_:k<2^63-1),d,a,Id.A_def];apply cX (OD l[i] (jI (l.take i))[k]);simp only[go_sem];refine aL (λh=>?_) (λh=>?_)<;>simp only[go_sem,aNu (o_:k<2^63-1)];grind[Ha];grind[Ha];intro e;simp only[go_sem,e,Ha];rintro s rfl;generalize f:Ha l[i] (jI (l.take i)) (jI (l.take i)).length=p at c
 simp only[go_sem,aP,eC,vY,dZ,Kj c,c,QO,pQ,pR,aO Id.A l i b,Id.A_def,(o_:p*24<=140737488355328),(g_:p<=maxLen),(o_:(p+1)*24<=140737488355328),(g_:p+1<=maxLen),
  (o_:p+((jI (l.take i)).length-p)=(jI (l.take i)).length),fQ i o_,
  (o_:(p+1+((jI (l.take i)).length-p))*24<=140737488355328),(g_:p+1+((jI (l.take i)).length-p)<=maxLen),cN,lq2]
 rw[Wh l i b,Ps,f];simp only[bZ,QN,aC0,fG,Id.A_def,lq2,jC,dM];intro _;simp only[go_sem,aP,aS (bP _),dE]
def Id.K(x:Id):O5:=[.int .i64 x.a,.int .i64 x.b,.int .u64 x.c]
def sQ(l:O6):O6:=l.mergeSort (λx y=>!(y.lt x))
def Wi(x y:Id):Int:=if x.lt y then -1 else if y.lt x then 1 else 0
def aOq(x y:Id):aA PQ G aGg [.ag x.A,.ag y.A] [] λr T=>r=iv (Wi x y)/\T=[]:=by refine aC aPi ?_;simp only[go_sem,Id.A_def];apply cX (Cm x y);simp only[go_sem];refine aL (λh=>?_) (λh=>?_);simp only[go_sem,Wi,h];simp only[go_sem];apply cX (Cm y x);simp only[go_sem];refine aL (λh2=>?_) (λh2=>?_)<;>simp only[go_sem,Wi,h,h2]
def aWc(l:O6)(h:l.length<2^62):aA PQ G bK [.own 0,.cl aGg []] [some (.arr 3 (l.map Id.A))] λr T=>r=.tup []/\T=[some (.arr 3 ((sQ l).map Id.A))]:=by
 have a:∀x y:Id,Go.Proofs.ltOf Wi x y=x.lt y:=by grind[Go.Proofs.ltOf,Wi]
 have:=SW (k:=3) (enc:=Id.K) Go.Proofs.Tryz.laysSort Go.Proofs.Tryz.isAgg71 Go.Proofs.Tryz.sizeOf71 (λ_=>rfl) (λx v d=>by simp[Id.K]at d;rcases d with rfl|rfl|rfl<;>rfl)
  (λx c f=>by simp[cellsOf,Id.K]at f;rcases f with rfl|rfl|rfl<;>rfl) (cf:=Wi)
  ⟨λx=>by rw[a,Id.lt_irrefl],λx y z b h2=>by rw[a]at *;exact Id.lt_trans b h2,λx y z b h2=>by rw[a]at *;exact Id.nlt_trans b h2⟩
  (λx y b h2=>by rw[a]at *;exact Id.lt_total b h2) (g:=aGg) (Go.Proofs.enters_of Go.Proofs.Tryz.func287 r_ rfl) (Go.Proofs.enters_of Go.Proofs.Tryz.func144 r_ rfl) (G:=G) aOq l h
 have e:(λx y:Id=>!(Go.Proofs.ltOf Wi y x))=λx y=>!(y.lt x):=by funext x y;rw[a]
 rw[e]at this;exact this
def aQD(l:O6)(a:l.length<2^62):aA PQ G aMc [.own 0] [some (.arr 3 (l.map Id.A))] λr T=>r=.own 0/\T=[some (.arr 3 ((sQ l).map Id.A))]:=by refine aC aOa ?_;simp only[go_sem];apply aG [0] (aB _) s_ k_ rfl rfl (aWc l a);rintro r b ⟨rfl,rfl⟩;simp only[go_sem]
def EG{α:Type}{p:α->Bool}{l:List α}{i:Nat}(a:i<l.length)(h:p l[i]=false):l.all p=false:=m_
def Bu{α:Type}{p:α->Bool}{l:List α}(h:∀j(a:j<l.length),j<l.length->p l[j]=true):l.all p=true:=by rw[oD];intro x b;obtain⟨j,a,rfl⟩:=CU b;exact h j a a
def vH{α:Type}{p:α->Bool}{l:List α}{i:Nat}(c:i<l.length)(d:∀j(a:j<l.length),j<i->p l[j]=true)(h:p l[i]=true):∀j(a:j<l.length),j<i+1->p l[j]=true:=λj a b=>m_
def aAu(o:OpM):aA PQ G wO [.ag o.A] [] λr T=>r=.v (.bool (fP o))/\T=[]:=by
 apply aC Jr;simp only[go_sem]
 repeat' (first
  |((with_reducible refine aL (λh=>?_) (λh=>?_))<;>(try simp only[vP,lI,sF]at h)<;>simp only[go_sem,aP,h,undef])
  |(with_reducible refine dO (f:=dP) ?_;refine aU (aB _) rfl (FF _ _ _) rfl ?_;simp only[go_sem,aP,undef])|(with_reducible refine dO (f:=jT) ?_;refine aU (aB _) rfl (FG _) rfl ?_;simp only[go_sem,aP,undef])|(with_reducible refine dO (f:=kQ) ?_;refine aU (aB _) rfl (Dh _) rfl ?_;simp only[go_sem,aP,undef]))
 all_goals simp_all[fP]
def Y0(l:List BoxM)(e:l.length<2^63-1):aA PQ G xW [F5 l] [] λr T=>r=.v (.bool (l.all wA))/\T=[]:=by
 apply aC Nk;simp only[go_sem];refine aQ l.length (λi=>⟨0,[(0,F5 l),(3,iv i)],[]⟩) (λi=>∀j(d:j<l.length),j<i->wA l[j]=true) ?_ sg ?_ ?_;simp only[go_sem]
 ·intro i a c;have b:(l.map BoxM.A)[i]?=some [uv l[i].To,uv l[i].Eph,uv l[i].Body,uv l[i].Tag]:=aO _ l i a;simp only[go_sem,aP,aT a,b]
  repeat' (first
   |((with_reducible refine aL (λh=>?_) (λh=>?_))<;>(try simp only[vP,lI,sF]at h)<;>simp only[go_sem,aP,a,b,fQ i o_,h,undef])
   |(with_reducible refine dO (f:=kQ) ?_;refine aU (aB _) rfl (Dh _) rfl ?_;simp only[go_sem,aP,a,b,fQ i o_,undef])|(with_reducible refine dO (f:=xV) ?_;refine aU (aB _) rfl (Nt _) rfl ?_;simp only[go_sem,aP,a,b,fQ i o_,undef]))
  all_goals first
   |exact vH a c (by clear c b;generalize l[i]=x at *;simp_all[wA])|rw[EG a (by clear c b;generalize l[i]=x at *;simp_all[wA])]
 intro c;simp only[go_sem,aP,aS (bP _),Bu c]
def aFn(o:OpM)(q:o.ok):aA PQ G Bn [.ag o.A] [] λr T=>r=.v (.bool (uA o))/\T=[]:=by
 apply aC Ni;have H:=q.guards.1;have F:=q.refs.1;have E:=q.past.1;have D:=q.path.1;have C:=q.hist.1;have B:=q.boxes.1;simp only[go_sem];refine aQ o.Guards.length (λi=>⟨0,[(1,.ptr 0 0),(3,iv i)],[some (.box o.A)]⟩) (λi=>∀j(m:j<o.Guards.length),j<i->yS o.Guards[j]=true) ?_ sr ?_ ?_;simp only[go_sem]
 ·intro i d g;have k:(o.Guards.map λn=>[iv n])[i]?=some [iv o.Guards[i]]:=aO _ o.Guards i d;have l:o.Guards.length<(2^63-1):=o_;simp only[go_sem,aP,aT d,k]
  repeat' (first
   |((with_reducible refine aL (λh=>?_) (λh=>?_))<;>(try simp only[vP,lI,sF]at h)<;>simp only[go_sem,aP,d,k,fQ i o_,h,undef])
   |(with_reducible refine dO (f:=dP) ?_;refine aU (aB _) rfl (FF _ _ _) rfl ?_;simp only[go_sem,aP,d,k,fQ i o_,undef]))
  all_goals first
   |exact vH d g (by clear g k;generalize o.Guards[i]=x at *;simp_all[yS])|(have e:=EG (p:=yS) d (by clear g k;generalize o.Guards[i]=x at *;simp_all[yS]);simp[uA,e])
 intro g;simp only[go_sem,aP,aS (bP _)];have z:=Bu g;clear g;refine aQ o.Refs.length (λi=>⟨0,[(1,.ptr 0 0),(4,iv i)],[some (.box o.A)]⟩) (λi=>∀j(m:j<o.Refs.length),j<i->SF o.Refs[j]=true) ?_ sr ?_ ?_;simp only[go_sem]
 ·intro i d g;have k:(ul o.Refs)[i]?=some [uv o.Refs[i]]:=aO _ o.Refs i d;have l:o.Refs.length<(2^63-1):=o_;simp only[go_sem,aP,aT d,k]
  repeat' (first
   |((with_reducible refine aL (λh=>?_) (λh=>?_))<;>(try simp only[vP,lI,sF]at h)<;>simp only[go_sem,aP,d,k,fQ i o_,h,undef])
   |(with_reducible refine dO (f:=xV) ?_;refine aU (aB _) rfl (Nt _) rfl ?_;simp only[go_sem,aP,d,k,fQ i o_,undef]))
  all_goals first
   |exact vH d g (by clear g k;generalize o.Refs[i]=x at *;simp_all[SF])|(have e:=EG (p:=SF) d (by clear g k;generalize o.Refs[i]=x at *;simp_all[SF]);simp[uA,e])
 intro g;simp only[go_sem,aP,aS (bP _)];have y:=Bu g;clear g;refine aQ o.Past.length (λi=>⟨0,[(1,.ptr 0 0),(5,iv i)],[some (.box o.A)]⟩) (λi=>∀j(m:j<o.Past.length),j<i->jP o.Past[j]=true) ?_ sr ?_ ?_;simp only[go_sem]
 ·intro i d g;have k:(o.Past.map Id.A)[i]?=some o.Past[i].A:=aO _ o.Past i d;have l:o.Past.length<(2^63-1):=o_;simp only[go_sem,aP,aT d,k]
  repeat' (first
   |((with_reducible refine aL (λh=>?_) (λh=>?_))<;>(try simp only[vP,lI,sF]at h)<;>simp only[go_sem,aP,d,k,fQ i o_,h,undef])
   |(with_reducible refine dO (f:=jT) ?_;refine aU (aB _) rfl (FG _) rfl ?_;simp only[go_sem,aP,d,k,fQ i o_,undef]))
  all_goals first
   |exact vH d g (by clear g k;generalize o.Past[i]=x at *;simp_all[jP])|(have e:=EG (p:=jP) d (by clear g k;generalize o.Past[i]=x at *;simp_all[jP]);simp[uA,e])
 intro g;simp only[go_sem,aP,aS (bP _)];have w:=Bu g;clear g;refine aQ o.Path.length (λi=>⟨0,[(1,.ptr 0 0),(6,iv i)],[some (.box o.A)]⟩) (λi=>∀j(m:j<o.Path.length),j<i->FI o.Path[j]=true) ?_ sr ?_ ?_;simp only[go_sem]
 ·intro i d g;have k:(o.Path.map NodeM.A)[i]?=some [uv o.Path[i].Pub,F5 o.Path[i].Boxes]:=aO _ o.Path i d;have l:o.Path.length<(2^63-1):=o_;have s:o.Path[i].Boxes.length<(2^63-1):=by have:=(q.path.2 _ (eQ d)).2.1;omega
  simp only[go_sem,aP,aT d,k]
  repeat' (first
   |((with_reducible refine aL (λh=>?_) (λh=>?_))<;>(try simp only[vP,lI,sF]at h)<;>simp only[go_sem,aP,d,k,fQ i o_,h,undef])
   |(with_reducible refine dO (f:=kQ) ?_;refine aU (aB _) rfl (Dh _) rfl ?_;simp only[go_sem,aP,d,k,fQ i o_,undef])|(with_reducible refine dO (f:=xW) ?_;refine aU (aB _) rfl (Y0 _ s) rfl ?_;simp only[go_sem,aP,d,k,fQ i o_,undef]))
  all_goals first
   |exact vH d g (by clear g k;generalize o.Path[i]=x at *;simp_all[FI])|(have e:=EG (p:=FI) d (by clear g k;generalize o.Path[i]=x at *;simp_all[FI]);simp[uA,e])
 intro g;simp only[go_sem,aP,aS (bP _)];have u:=Bu g;clear g;refine aQ o.Hist.length (λi=>⟨0,[(1,.ptr 0 0),(7,iv i)],[some (.box o.A)]⟩) (λi=>∀j(m:j<o.Hist.length),j<i->FJ o.Hist[j]=true) ?_ sr ?_ ?_;simp only[go_sem]
 ·intro i d g;have k:(o.Hist.map SealM.A)[i]?=some [.v (.int .i64 o.Hist[i].Of.a),.v (.int .i64 o.Hist[i].Of.b),.v (.int .u64 o.Hist[i].Of.c),.ls 1 (bl o.Hist[i].Body)]:=aO _ o.Hist i d;have l:o.Hist.length<(2^63-1):=o_;simp only[go_sem,aP,aT d,k]
  repeat' (first
   |((with_reducible refine aL (λh=>?_) (λh=>?_))<;>(try simp only[vP,lI,sF]at h)<;>simp only[go_sem,aP,d,k,fQ i o_,h,undef])
   |(with_reducible refine dO (f:=jT) ?_;refine aU (aB _) rfl (FG o.Hist[i].Of) rfl ?_;simp only[go_sem,aP,d,k,fQ i o_,undef]))
  all_goals first
   |exact vH d g (by clear g k;generalize o.Hist[i]=x at *;simp_all[FJ])|(have e:=EG (p:=FJ) d (by clear g k;generalize o.Hist[i]=x at *;simp_all[FJ]);simp[uA,e])
 intro g;simp only[go_sem,aP,aS (bP _)];have t:=Bu g;clear g;apply cX (Y0 o.Boxes o_);simp only[go_sem,uA,z,y,w,u,t,mF]
structure CE where
 i:Nat
 d:Nat
 f:Nat
 xs:List Operand
structure IE where
 i:Nat
 k:Int
 s:Nat
 n:Nat
 deriving DecidableEq
def Ix{s:List (Nat×AV)}{j:Nat}(h:j∉s.map (·.1)):LE s j=s:=by
 induction s with
 |nil=>rfl|cons p s ih=>
  grind[LE]
def Cn{s:List (Nat×AV)}{j:Nat}{x:AV}(a:(s.map (·.1)).Nodup)(h:(j,x)∈s):bA s j=x:=by
 induction s with
 |nil=>simp at h|cons p s ih=>
  grind[List.nodup_cons,bA]
def UR{s:List (Nat×AV)}{j:Nat}(h:j∈s.map (·.1)):(j,bA s j)∈s:=by
 induction s with
 |nil=>simp at h|cons p s ih=>
  grind[bA]
def aAv{s t:List (Nat×AV)}(a:(t.map (·.1)).Nodup)(h:s.Perm t){j:Nat}(b:j∈t.map (·.1)):bA s j=bA t j :=
 Cn ((h.map _).nodup_iff.2 a) (h.mem_iff.2 (UR b))
def Wj{s t:List (Nat×AV)}(a:(s.map (·.1)).Nodup)(h:s.Perm t):gP s=gP t:=by
 induction h with
 |nil=>rfl|cons p h ih=>simp only[fG,BU]at a;simp only[gP];rw[ih a.2]| swap p q l=>
  simp only[fG,BU,cS,not_or]at a;simp only[gP];generalize gP l=d;have e:q.1≠p.1:=a.1.1
  induction d with
  |nil=>
   grind[LG]
  |cons x d ih=>
   grind[LG]
 |trans f h2 c b=>rw[c a,b ((f.map _).nodup_iff.1 a)]
def Qo:∀s:List (Nat×AV),aH8 [] s=s|[]=>rfl|p::s=>by simp[aH8,Qo s]
def US{r:Nat}{s t:List (Nat×AV)}{T:aK}(a:(s.map (·.1)).Nodup)(h:s.Perm t):DB [] ⟨r,s,T⟩=DB [] ⟨r,t,T⟩:=by simp only[DB,Qo,Wj a h]
def SX{G:L_}{st:St}:∀{l:List HOper},(∀o∈l,qL G st [o])->qL G st l|[],_=>trivial|o::l,h=>⟨(h o EV).1,SX λx a=>h x (GU _ a)⟩
def nW{p:Plan}{E:O3}{k:Nat}:k∈p.ready E↔k<p.hops.length/\k∉E/\∀q∈p.p k,q∈E:=by simp_all[Plan.ready,gR,uM,zJ,EX,oD,JW]
def UT{p:Plan}{E:O3}{o:HOper}(h:o∈p.pend E):∃q,q∈E/\p.quiet q=true/\(∀k∈E,p.quiet k=false->q∉p.p k)/\p.hops[q]?=some o:=by grind[Plan.pend]
structure PlOk(p:Plan)(Q:List Nat)(z y:Nat)(ci:List Nat)(es:List IE):Prop where
 all:∀k,k<p.hops.length->k∈Q\/k=0\/k∈ci\/k∈es.map (·.i)\/k=z\/k=y
 lt:∀k∈0::z::y::(ci++es.map (·.i)),k<p.hops.length
 cp:∀j,j<ci.length->(j=0\/ci.getD (j-1) 0∈p.p (ci.getD j 0))/\∀q∈p.p (ci.getD j 0),q∈Q++ci.take j
 ep:∀e∈es,e.n<=ci.length/\0∈p.p e.i/\(e.n=0\/ci.getD (e.n-1) 0∈p.p e.i)/\∀q∈p.p e.i,q∈0::(Q++ci.take e.n)
 mp:∀q∈p.p 0,q∈Q
 zp:(∀q∈0::(ci++es.map (·.i)),q∈p.p z)/\∀q∈p.p z,q∈0::(Q++(ci++es.map (·.i)))
 yp:z∈p.p y/\∀q∈p.p y,q∈z::0::(Q++(ci++es.map (·.i)))
 nd:(Q++0::z::y::(ci++es.map (·.i))).Nodup
 qn:∀k∈0::y::(ci++es.map (·.i)),p.quiet k=false
 qz:p.quiet z=true
def aFo{T:aK}{ev:Operand->AV}:cE T ev (.mkm false)=some (.mp T.length,T++[some (MP [])]):=fI rfl rfl
def UU{T0:aK}{a b:Option AObj}:(T0++[a]).set T0.length b=T0++[b]:=k_
section
variable{P:Program}{G:L_}{p:Plan}{Q:O3}{m z y dz dy r0:Nat}{cs:List CE}{es:List IE}{s0:List (Nat×AV)}{T0:aK}{vs:Nat->Bool}{K:St->Prop}
abbrev Qp(m:Nat)(cs:List CE)(s0:List (Nat×AV))(a:Nat)(vs:Nat->Bool)(b:Bool)(i:Nat):List (Nat×AV):=
 s0++((cs.take i).map (λc=>(c.d,.v (.bool (vs c.d))))++if b then [(m,.mp a)] else [])
abbrev plT(T0:aK)(vs:Nat->Bool)(a:Bool)(D:List IE):aK:=T0++if a then [some (MP (D.map λe=>(e.k,vs e.s)))] else []
def Wk{l:List CE}{j:Nat}(a:j<l.length):(l.map (·.i)).getD j 0=l[j].i:=db
def aHV (hok:PlOk p Q z y (cs.map (·.i)) es) (h0:p.hops[0]?=some ⟨some m,.mkm false,none⟩)
  (hc:∀c∈cs,p.hops[c.i]?=some ⟨some c.d,.call (.func c.f) c.xs,none⟩)
  (he:∀e∈es,p.hops[e.i]?=some ⟨none,.mup false [.int .i64] (.tmp m) (.const (.int .i64 e.k)) (.tmp e.s),none⟩)
  (hz:p.hops[z]?=some ⟨some dz,.mov (.tmp m),none⟩) (hy:p.hops[y]?=some ⟨some dy,.rgm (.tmp dz),none⟩)
  (hkeys:(s0.map (·.1)++(cs.map (·.d)++[m,dz,dy])).Nodup) (hek:(es.map (·.k)).Nodup)
  (hcall:∀c∈cs,∀(s:List (Nat×AV))(T:aK)(K':AV->aK->Prop),(∀x∈s0.map (·.1),bA s x=bA s0 x)->K' (.v (.bool (vs c.d))) T->IG P G c.f (c.xs.map (dW G s)) T K')
  (hval:∀e∈es,(e.s∈s0.map (·.1)/\bA s0 e.s=.v (.bool (vs e.s)))\/(∃c,cs[e.n-1]?=some c/\0<e.n/\c.d=e.s))
  (hq:∀(s:List (Nat×AV))(T:aK),(∀x∈s0.map (·.1),bA s x=bA s0 x)->(∀j,j<T0.length->cR T j=cR T0 j)->∀q∈Q,∀o,p.hops[q]?=some o->qL G ⟨r0,s,T⟩ [o])
  (hcs:0<cs.length)
  (hK:∀X,X.Perm (es.map λe=>(e.k,vs e.s))->K (DB [] ⟨r0,(dy,.ptr (T0.length+1) 0)::(dz,.mp T0.length)::Qp m cs s0 T0.length vs true cs.length,T0++[some (MP X),some (.mit (some T0.length) X.length [] X.length)]⟩)):
  ∀(n:Nat)(gc mm:Bool)(i:Nat)(D:List IE)(E:O3)(s:List (Nat×AV)),i<=cs.length->D.Nodup->(∀e∈D,e∈es/\e.n<=i/\mm=true)->s.Perm (Qp m cs s0 T0.length vs mm i) ->
   (∀k,k∈E↔k∈Q\/(mm=true/\k=0)\/k∈(cs.map (·.i)).take i\/k∈D.map (·.i))->(gc=true\/(mm=false/\i=0))->cs.length+es.length+4<=n+i+D.length+mm.toNat ->
   vU P G p n gc E ⟨r0,s,plT T0 vs mm D⟩ K:=by
 have hnd:=vQ.1 hok.nd;have hQ:=λk(hk:k∈Q) k2(hk2:k2∈0::z::y::(cs.map (·.i)++es.map (·.i)))=>hnd.2.2 k hk k2 hk2;have hN:=hnd.2.1;simp only[BU,cS,not_or]at hN;obtain⟨⟨h0z,h0y,h0m⟩,⟨hzy,hzm⟩,hym,hN⟩:=hN;have hcN:=(vQ.1 hN).1;have heN:=(vQ.1 hN).2.1;have hce:=(vQ.1 hN).2.2;have hkn:=vQ.1 hkeys;have keysOf:∀(mm:Bool)(i:Nat),((Qp m cs s0 T0.length vs mm i).map (·.1)).Nodup:=λmm i=>by
  have hsub:((Qp m cs s0 T0.length vs mm i).map (·.1)).Sublist (s0.map (·.1)++(cs.map (·.d)++[m,dz,dy])):=by
   simp only[bZ,rI];refine List.Sublist.append (List.Sublist.refl _) (List.Sublist.append ?_ ?_)
   ·show((cs.take i).map _).Sublist _;exact(List.take_sublist i cs).map _
   ·cases mm
    ·exact List.nil_sublist _
    ·exact List.Sublist.cons_cons _ (List.nil_sublist _)
  exact hsub.nodup hkeys
 intro n
 induction n with
 | zero=>
  intro gc mm i D E s hi hD hDe _ _ _ hn;exfalso;have h1:D.length<=es.length:=by
   have:(D.map (·.i)).length<=(es.map (·.i)).length:=xY (by
    refine(Rh.2 ?_);rw[Mh];refine TU (λ{a b} ha hb hab e=>hab ?_) (Rh.1 hD);have:=hDe a ha;have hb2:=hDe b hb;obtain⟨ia,hia,rfl⟩:=CU this.1;obtain⟨ib,hib,rfl⟩:=CU hb2.1;have:=(C9 (h₀:=by simpa using hia) (h₁:=by simpa using hib) heN).1 E_
    subst this;rfl) (λx hx=>by obtain⟨e,he1,rfl⟩:=dF.1 hx;exact dF.2 ⟨e,(hDe e he1).1,rfl⟩)
   simpa using this
  have h2:mm.toNat<=1:=by cases mm<;>decide
  omega
 | succ n ih=>
  intro gc mm i D E s hi hD hDe hs hE hgc hn;have hgetI:∀j(hj:j<cs.length),(cs.map (·.i)).getD j 0=cs[j].i:=λj hj=>Wk hj;have hcmem:∀j(hj:j<cs.length),cs[j].i∈cs.map (·.i):=λj hj=>dF.2 ⟨_,eQ hj,rfl⟩;have hctake:∀j(hj:j<cs.length),cs[j].i∈(cs.map (·.i)).take i↔j<i:=λj hj=>by
   rw[TT];constructor
   ·rintro⟨k,hk,e⟩;simp only[aP]at hk;have:=(C9 (h₀:=f_) (h₁:=dD) hcN).1 (show(cs.map (·.i))[k]'f_=(cs.map (·.i))[j]'dD by rw[e];simp);omega
   ·intro h;exact⟨j,f_,k_⟩
  have einj:∀a∈es,∀b∈es,a.i=b.i->a=b:=λa ha b hb e=>by obtain⟨ia,hia,rfl⟩:=CU ha;obtain⟨ib,hib,rfl⟩:=CU hb;have:=(C9 (h₀:=by simpa using hia) (h₁:=by simpa using hib) heN).1 E_;subst this;rfl
  have hzE:z∉E:=λh=>by
   rcases(hE z).1 h with h|⟨_,h⟩|h|h
   ·exact hQ z h z k_ rfl
   ·exact h0z h.symm
   ·exact hzm (cG.2 (.inl (C8 h)))
   ·obtain⟨e,h1,h2⟩:=dF.1 h;exact hzm (cG.2 (.inr (dF.2 ⟨e,(hDe e h1).1,h2⟩)))
  have hyR:y∉p.ready E:=λh=>hzE ((nW.1 h).2.2 z hok.yp.1);have h0E:0∈E↔mm=true:=by
   rw[hE];constructor
   ·rintro(h|⟨h,_⟩|h|h)
    ·exact(hQ 0 h 0 k_ rfl).elim
    ·exact h
    ·exact(h0m (cG.2 (.inl (C8 h)))).elim
    ·obtain⟨e,h1,h2⟩:=dF.1 h;exact(h0m (cG.2 (.inr (dF.2 ⟨e,(hDe e h1).1,h2⟩)))).elim
   ·intro h;exact .inr (.inl ⟨h,rfl⟩)
  have hcE:∀j(hj:j<cs.length),cs[j].i∈E↔j<i:=λj hj=>by
   rw[hE,hctake j hj];constructor
   ·rintro(h|⟨_,h⟩|h|h)
    ·exact(hQ _ h cs[j].i (by simp[hcmem j hj]) rfl).elim
    ·exact(h0m (cG.2 (.inl (h ▸ hcmem j hj)))).elim
    ·exact h
    ·obtain⟨e,h1,h2⟩:=dF.1 h;exact(hce _ (hcmem j hj) _ (dF.2 ⟨e,(hDe e h1).1,rfl⟩) h2.symm).elim
   ·intro h;exact .inr (.inr (.inl h))
  have heE:∀e∈es,e.i∈E↔e∈D:=λe he1=>by
   have hm:e.i∈es.map (·.i):=dF.2 ⟨e,he1,rfl⟩;rw[hE];constructor
   ·rintro(h|⟨_,h⟩|h|h)
    ·exact(hQ _ h e.i (by simp only[cS,cG];exact .inr (.inr (.inr (.inr hm)))) rfl).elim
    ·exact(h0m (cG.2 (.inr (h ▸ hm)))).elim
    ·exact(hce _ (C8 h) _ hm rfl).elim
    ·obtain⟨e',h1,h2⟩:=dF.1 h;rw[<-einj e' (hDe e' h1).1 e he1 h2];exact h1
   ·intro h;exact .inr (.inr (.inr (dF.2 ⟨e,h,rfl⟩)))
  have hgS:∀(s':List (Nat×AV))(mm':Bool)(i':Nat),s'.Perm (Qp m cs s0 T0.length vs mm' i')->∀x∈s0.map (·.1),bA s' x=bA s0 x:=λs' mm' i' hp x hx=>by have hk:=keysOf mm' i';rw[aAv hk hp (by simp only[bZ,cG];exact .inl hx)];apply Cn hk;exact cG.2 (.inl (UR hx))
  have hqn:∀q,p.quiet q=true->q∈E->q∈Q:=λq h1 h2=>by
   rcases(hE q).1 h2 with h|⟨_,h⟩|h|h
   ·exact h
   ·rw[h,hok.qn 0 k_]at h1;simp at h1
   ·rw[hok.qn q (by simp only[cS,cG];exact .inr (.inr (.inl (C8 h))))]at h1;simp at h1
   ·obtain⟨e,h3,h4⟩:=dF.1 h;rw[hok.qn q (by simp only[cS,cG];exact .inr (.inr (.inr (dF.2 ⟨e,(hDe e h3).1,h4⟩))))]at h1;simp at h1
  have chk:∀(k:Nat)(s':List (Nat×AV))(T':aK),p.quiet k=false->(∀x∈s0.map (·.1),bA s' x=bA s0 x)->(∀j,j<T0.length->cR T' j=cR T0 j)->qL G ⟨r0,s',T'⟩ (p.pend (k::E)):=λk s' T' hk h1 h2=>SX λo ho=>by
   obtain⟨q,hq1,hq2,_,hq4⟩:=UT ho;refine hq s' T' h1 h2 q ?_ o hq4;rcases cS.1 hq1 with e|h
   ·rw[e,hk]at hq2;simp at hq2
   ·exact hqn q hq2 h
  have getT_app:∀(T0 R:aK) j,j<T0.length->cR (T0++R) j=cR T0 j:=λT0 R j hj=>by unfold cR;rw[mY hj]
  have hDl:D.length<=es.length:=by
   have:(D.map (·.i)).length<=(es.map (·.i)).length:=xY (by
    refine(Rh.2 ?_);rw[Mh]
    exact TU (λ{a b} ha hb hab e=>hab (einj a (hDe a ha).1 b (hDe b hb).1 e)) (Rh.1 hD)) (λx hx=>by obtain⟨e,he1,rfl⟩:=dF.1 hx;exact dF.2 ⟨e,(hDe e he1).1,rfl⟩)
   simpa using this
  have hmN:mm.toNat<=1:=by cases mm<;>decide
  have hks:=keysOf mm i;have hsn:(s.map (·.1)).Nodup:=(hs.map _).nodup_iff.2 hks;have hnew:∀x∈cs.map (·.d)++[m,dz,dy],x∉s0.map (·.1):=λx hx h=>hkn.2.2 x h x hx rfl;have hdN:=vQ.1 hkn.2.1;by_cases hdone:mm=true/\i=cs.length/\∀e∈es,e∈D
  ·obtain⟨rfl,rfl,hall⟩:=hdone;have hgt:gc=true:=by
    rcases hgc with h|⟨h,_⟩
    ·exact h
    ·simp at h
   subst hgt
   have hzR:z∈p.ready E:=nW.2 ⟨hok.lt z k_,hzE,λq hq1=>by
    have:=hok.zp.2 q hq1;simp only[cS,cG]at this;rcases this with rfl|h|h|h
    ·exact h0E.2 rfl
    ·exact(hE q).2 (.inl h)
    ·obtain⟨j,hj,rfl⟩:=CU h;simp only[aP]at hj;simp only[zL];exact(hcE j hj).2 hj
    ·obtain⟨e,h1,rfl⟩:=dF.1 h
     exact(heE e h1).2 (hall e h1)⟩
   have hRz:∀k∈p.ready E,k=z:=λk hk=>by
    have h1:=nW.1 hk;rcases hok.all k h1.1 with h|h|h|h|h|h
    ·exact(h1.2.1 ((hE k).2 (.inl h))).elim
    ·exact(h1.2.1 (h ▸ h0E.2 rfl)).elim
    ·obtain⟨j,hj,rfl⟩:=CU h;simp only[aP]at hj;simp only[zL]at h1;exact(h1.2.1 ((hcE j hj).2 hj)).elim
    ·obtain⟨e,h3,rfl⟩:=dF.1 h;exact(h1.2.1 ((heE e h3).2 (hall e h3))).elim
    ·exact h
    ·exact(hyR (h ▸ hk)).elim
   have hfz:(p.ready E).find? p.quiet=some z:=by
    cases h:(p.ready E).find? p.quiet with
    |none=>have:=Eb.1 h z hzR;rw[hok.qz]at this;simp at this
    |some k=>rw[hRz k (Mg h)]
   have hDlen:D.length=es.length:=Nat.le_antisymm hDl (by
    have:(es.map (·.i)).length<=(D.map (·.i)).length:=xY heN (λx hx=>by obtain⟨e,he1,rfl⟩:=dF.1 hx;exact dF.2 ⟨e,hall e he1,rfl⟩)
    simpa using this)
   obtain⟨n,rfl⟩:∃n',n=n'+2:=⟨n-2,by simp only[Bool.toNat_true]at hn;omega⟩
   have hgm:bA s m=.mp T0.length:=Cn hsn (hs.mem_iff.2 k_);rw[vU,hfz];have hopz:cE (plT T0 vs true D) (dW G s) (.mov (.tmp m))=some (.mp T0.length,plT T0 vs true D):=by simp only[cE,dW,hgm]
   simp only[hz,fY,hopz,fV];have hEz:∀k∈p.ready (z::E),k=y:=λk hk=>by
    have h1:=nW.1 hk;simp only[cS,not_or]at h1;rcases hok.all k h1.1 with h|h|h|h|h|h
    ·exact(h1.2.1.2 ((hE k).2 (.inl h))).elim
    ·exact(h1.2.1.2 (h ▸ h0E.2 rfl)).elim
    ·obtain⟨j,hj,rfl⟩:=CU h;simp only[aP]at hj;simp only[zL]at h1;exact(h1.2.1.2 ((hcE j hj).2 hj)).elim
    ·obtain⟨e,h3,rfl⟩:=dF.1 h;exact(h1.2.1.2 ((heE e h3).2 (hall e h3))).elim
    ·exact(h1.2.1.1 h).elim
    ·exact h
   have hyE:y∉E:=λh=>by
    rcases(hE y).1 h with h|⟨_,h⟩|h|h
    ·exact hQ y h y k_ rfl
    ·exact h0y h.symm
    ·exact hym (cG.2 (.inl (C8 h)))
    ·obtain⟨e,h1,h2⟩:=dF.1 h;exact hym (cG.2 (.inr (dF.2 ⟨e,(hDe e h1).1,h2⟩)))
   have hyz:y∈p.ready (z::E):=nW.2 ⟨hok.lt y k_,by simp only[cS,not_or];exact⟨λh=>hzy h.symm,hyE⟩,λq hq1=>by
    have:=hok.yp.2 q hq1;simp only[cS,cG]at this⊢;rcases this with rfl|rfl|h|h|h
    ·exact .inl rfl
    ·exact .inr (h0E.2 rfl)
    ·exact .inr ((hE q).2 (.inl h))
    ·obtain⟨j,hj,rfl⟩:=CU h;simp only[aP]at hj;simp only[zL];exact .inr ((hcE j hj).2 hj)
    ·obtain⟨e,h1,rfl⟩:=dF.1 h
     exact .inr ((heE e h1).2 (hall e h1))⟩
   have hfy:(p.ready (z::E)).find? p.quiet=none:=Eb.2 λk hk=>by rw[hEz k hk,hok.qn y k_];simp
   have hdzs:dz∉s.map (·.1):=λh=>by
    have:=(hs.map (·.1)).mem_iff.1 h;simp only[Qp,bZ,cG,rI]at this;rcases this with h|h|h
    ·exact hnew dz k_ h
    ·obtain⟨c,h1,h2⟩:=dF.1 h;exact hdN.2.2 c.d (dF.2 ⟨c,C8 h1,rfl⟩) dz k_ h2
    ·simp at h;have:=hdN.2.1;simp[h]at this
   have hdys:dy∉s.map (·.1):=λh=>by
    have:=(hs.map (·.1)).mem_iff.1 h;simp only[Qp,bZ,cG,rI]at this;rcases this with h|h|h
    ·exact hnew dy k_ h
    ·obtain⟨c,h1,h2⟩:=dF.1 h;exact hdN.2.2 c.d (dF.2 ⟨c,C8 h1,rfl⟩) dy k_ h2
    ·simp at h;have:=hdN.2.1;simp[h]at this
   have hzyd:dz≠dy:=by have:=hdN.2.1;simp at this;exact this.2
   have hs1:GW s dz (.mp T0.length)=(dz,.mp T0.length)::s:=by simp only[GW,Ix hdzs]
   rw[hs1,vU,hfy];have hXl:(D.map λe=>(e.k,vs e.s)).Perm (es.map λe=>(e.k,vs e.s)):=by
    apply List.Perm.map _
    exact(aBH hD (by
     refine Rh.2 (TU (λ{a b} ha hb hab e=>hab (congrArg IE.i e)) (Mh.1 (Rh.1 heN)))
     )).2 λe=>⟨λh=>(hDe e h).1,hall e⟩
   generalize hX:(D.map λe=>(e.k,vs e.s))=X at *
   have hTX:plT T0 vs true D=T0++[some (MP X)]:=by simp only[plT,hX,if_true]
   rw[hTX];have hgX:cR (T0++[some (MP X)]) T0.length=some (MP X):=by simp[cR]
   have hopy:cE (T0++[some (MP X)]) (dW G ((dz,.mp T0.length)::s)) (.rgm (.tmp dz))=some (.ptr (T0.length+1) 0,T0++[some (MP X),some (.mit (some T0.length) X.length [] X.length)]):=by
    have h1:dW G ((dz,.mp T0.length)::s) (.tmp dz)=.mp T0.length:=by simp only[dW,bA,if_true]
    simp only[cE,h1,hgX];simp only[MP,dZ,sE,gQ,lq2,jC,dM,pQ]
   have last:∀gc',vU P G p (n+1) (true||gc') (y::z::E) ⟨r0,(dy,.ptr (T0.length+1) 0)::(dz,.mp T0.length)::s,T0++[some (MP X),some (.mit (some T0.length) X.length [] X.length)]⟩ K:=λgc'=>by
    have hr0:p.ready (y::z::E)=[]:=by
     refine TS.2 λk hk=>?_;have h1:=nW.1 hk;simp only[cS,not_or]at h1;rcases hok.all k h1.1 with h|h|h|h|h|h
     ·exact(h1.2.1.2.2 ((hE k).2 (.inl h))).elim
     ·exact(h1.2.1.2.2 (h ▸ h0E.2 rfl)).elim
     ·obtain⟨j,hj,rfl⟩:=CU h;simp only[aP]at hj;simp only[zL]at h1;exact(h1.2.1.2.2 ((hcE j hj).2 hj)).elim
     ·obtain⟨e,h3,rfl⟩:=dF.1 h;exact(h1.2.1.2.2 ((heE e h3).2 (hall e h3))).elim
     ·exact(h1.2.1.2.1 h).elim
     ·exact(h1.2.1.1 h).elim
    rw[vU,hr0];simp only[List.find?_nil,EI,if_true];have hpm:=((hs.cons (dz,AV.mp T0.length)).cons (dy,AV.ptr (T0.length+1) 0))
    have hn2:(((dy,AV.ptr (T0.length+1) 0)::(dz,AV.mp T0.length)::s).map (·.1)).Nodup:=by simp only[fG,BU,cS,not_or];exact⟨⟨λh=>hzyd h.symm,hdys⟩,hdzs,hsn⟩
    rw[US hn2 hpm];exact hK X hXl
   cases hR:p.ready (z::E) with
   |nil=>rw[hR]at hyz;simp at hyz
   | cons c cs'=>
    simp only;intro k hk;have hky:=hEz k (by rw[hR];exact hk);subst hky;refine⟨_,hy,?_⟩;simp only[fY,yF,hopy,fV,iE,jJ,if_false];have hs2:GW ((dz,AV.mp T0.length)::s) dy (.ptr (T0.length+1) 0)=(dy,.ptr (T0.length+1) 0)::(dz,.mp T0.length)::s:=by simp only[GW];rw[Ix];simp only[fG,cS,not_or];exact⟨λh=>hzyd h.symm,hdys⟩
    rw[hs2];refine⟨SX λo ho=>?_,last _⟩;obtain⟨q,hq1,hq2,hq3,hq4⟩:=UT ho;refine hq _ _ (λx hx=>?_) (λj hj=>getT_app _ _ j hj) q ?_ o hq4
    ·have e1:dy≠x:=λe=>hnew dy k_ (e ▸ hx);have e2:dz≠x:=λe=>hnew dz k_ (e ▸ hx);simp only[bA,e1,e2,if_false];exact hgS s true cs.length hs x hx
    ·rcases cS.1 hq1 with e|h
     ·rw[e,hok.qn k k_]at hq2;simp at hq2
     ·rcases cS.1 h with e|h
      ·exact(hq3 k k_ (hok.qn k k_) (e ▸ hok.yp.1)).elim
      ·exact hqn q hq2 h
  ·have hfn:(p.ready E).find? p.quiet=none:=Eb.2 λk hk=>by
    have h1:=nW.1 hk;rcases hok.all k h1.1 with h|h|h|h|h|h
    ·exact(h1.2.1 ((hE k).2 (.inl h))).elim
    ·rw[h,hok.qn 0 k_];simp
    ·rw[hok.qn k (by simp only[cS,cG];exact .inr (.inr (.inl h)))];simp
    ·rw[hok.qn k (by simp only[cS,cG];exact .inr (.inr (.inr h)))];simp
    ·exfalso;subst h;have h2:=λq hq1=>h1.2.2 q (hok.zp.1 q hq1);refine hdone ⟨h0E.1 (h2 0 k_),?_,λe he1=>(heE e he1).1 (h2 e.i (by simp only[cS,cG];exact .inr (.inr (dF.2 ⟨e,he1,rfl⟩))))⟩;have h3:cs.length-1<i:=(hcE (cs.length-1) o_).1 (h2 _ (by simp only[cS,cG];exact .inr (.inl (hcmem _ _))));omega
    ·exact(hyR (h ▸ hk)).elim
   have hr0:mm=false->0∈p.ready E:=λh=>nW.2 ⟨hok.lt 0 k_,λh2=>by rw[h0E,h]at h2;simp at h2,λq hq1=>(hE q).2 (.inl (hok.mp q hq1))⟩
   have hrc:∀hi2:i<cs.length,cs[i].i∈p.ready E:=λhi2=>nW.2 ⟨hok.lt _ (by simp only[cS,cG];exact .inr (.inr (.inr (.inl (hcmem i hi2))))),λh2=>by have:=(hcE i hi2).1 h2;omega,λq hq1=>by
    have:=(hok.cp i (by simpa using hi2)).2 q (by rw[hgetI i hi2];exact hq1);rcases cG.1 this with h|h
    ·exact(hE q).2 (.inl h)
    ·exact(hE q).2 (.inr (.inr (.inl h)))⟩
   rw[vU,hfn]
   cases hR:p.ready E with
   | nil=>
    exfalso;rw[hR]at hr0 hrc
    cases mm with
    |false=>exact absurd (hr0 rfl) k_
    | true=>
     by_cases hi2:i<cs.length
     ·exact absurd (hrc hi2) k_
     ·have hie:i=cs.length:=o_;refine hdone ⟨rfl,hie,λe he1=>?_⟩;refine QB λhne=>?_;have h1:=hok.ep e he1
      have:e.i∈p.ready E:=nW.2 ⟨hok.lt _ (by simp only[cS,cG];exact .inr (.inr (.inr (.inr (dF.2 ⟨e,he1,rfl⟩))))),λh2=>hne ((heE e he1).1 h2),λq hq1=>by
       have:=h1.2.2.2 q hq1;simp only[cS,cG]at this;rcases this with rfl|h|h
       ·exact h0E.2 rfl
       ·exact(hE q).2 (.inl h)
       ·refine(hE q).2 (.inr (.inr (.inl ?_)));rw[hie,sG k_]
        exact C8 h⟩
      rw[hR]at this;simp at this
   | cons c cs'=>
    simp only;have hgc':(gc||!cs'.isEmpty)=true:=by
     rcases hgc with h|⟨h1,h2⟩
     ·rw[h];rfl
     ·have ha:=hr0 h1;have hb:=hrc o_;rw[hR]at ha hb
      cases cs' with
      |cons _ _=>simp
      |nil=>
       exfalso;simp only[aE5]at ha hb;exact h0m (cG.2 (.inl (by rw[ha,<-hb];exact hcmem _ _)))
    intro k hk;have h1:=nW.1 (show k∈p.ready E by rw[hR];exact hk);have hTg:∀(R:aK) j,j<T0.length->cR (T0++R) j=cR T0 j:=λR j hj=>getT_app T0 R j hj;rcases hok.all k h1.1 with h|h|h|h|h|h
    ·exact(h1.2.1 ((hE k).2 (.inl h))).elim
    ·
     subst h;have hmf:mm=false:=by
      cases mm with
      |false=>rfl
      |true=>exact(h1.2.1 (h0E.2 rfl)).elim
     subst hmf;have hD0:D=[]:=TS.2 λe h=>by have:=(hDe e h).2.2;simp at this
     subst hD0;refine⟨_,h0,?_⟩;have hms:m∉s.map (·.1):=λh=>by
      have:=(hs.map (·.1)).mem_iff.1 h;simp only[Qp,bZ,cG,rI]at this;rcases this with h|h|h
      ·exact hnew m k_ h
      ·obtain⟨c,h1,h2⟩:=dF.1 h;exact hdN.2.2 c.d (dF.2 ⟨c,C8 h1,rfl⟩) m k_ h2
      ·simp at h
     simp only[fY,yF,aFo,fV,iE,jJ,if_false];have hT:(plT T0 vs false [])=T0:=by simp[plT]
     have hs1:GW s m (.mp T0.length)=(m,.mp T0.length)::s:=by simp only[GW,Ix hms]
     rw[hT,hs1];have hp2:((m,AV.mp T0.length)::s).Perm (Qp m cs s0 T0.length vs true i):=by refine(hs.cons _).trans ?_;simp only[Qp,jJ,if_false,jO,if_true,<-lq2];exact(List.perm_append_singleton _ _).symm
     refine⟨chk 0 _ _ (hok.qn 0 k_) (hgS _ true i hp2) (hTg _),?_⟩;have:=ih (gc||!cs'.isEmpty) true i [] (0::E) _ hi Mm (λe h=>by simp at h) hp2 (λq=>?_) (.inl hgc') ?_
     ·simpa[plT]using this
     ·rw[cS,hE];simp only[jJ,false_and,false_or,true_and];constructor
      ·rintro(h|h|h)
       ·exact .inr (.inl h)
       ·exact .inl h
       ·exact .inr (.inr h)
      ·rintro(h|h|h)
       ·exact .inr (.inl h)
       ·exact .inl h
       ·exact .inr (.inr h)
     ·simp only[Bool.toNat_true,Bool.toNat_false]at hn⊢;omega
    ·
     obtain⟨j,hj,rfl⟩:=CU h;simp only[aP]at hj;simp only[zL]at h1 hk⊢;have hji:j=i:=by
      have h2:=hok.cp j dD;have h3:¬j<i:=λh=>h1.2.1 ((hcE j hj).2 h);rcases h2.1 with h4|h4
      ·omega
      ·have h5:=h1.2.2 _ (by rw[hgetI j hj]at h4;exact h4);rw[hgetI (j-1) o_]at h5;have:=(hcE (j-1) o_).1 h5;omega
     subst hji;refine⟨_,hc cs[j] (eQ hj),?_⟩;simp only[fY,yF,dW,fnA,jO];apply hcall cs[j] (eQ hj) s _ _ (hgS s mm j hs);have hcs1:cs[j].d∉s.map (·.1):=λh=>by
      have:=(hs.map (·.1)).mem_iff.1 h;simp only[Qp,bZ,cG,rI]at this;have hdn:(cs.map (·.d)).Nodup:=hdN.1;rcases this with h|h|h
      ·exact hnew _ (cG.2 (.inl (dF.2 ⟨_,eQ hj,rfl⟩))) h
      ·obtain⟨c,h3,h4⟩:=dF.1 h;obtain⟨k,hk2,rfl⟩:=TT.1 h3;have:=(C9 (h₀:=f_) (h₁:=dD) hdn).1 (show(cs.map (·.d))[k]'f_=(cs.map (·.d))[j]'dD by simpa using h4);omega
      ·cases mm with
       |false=>simp at h
       |true=>
        simp at h;exact hdN.2.2 cs[j].d (dF.2 ⟨_,eQ hj,rfl⟩) m k_ h
     have hp2:((cs[j].d,AV.v (.bool (vs cs[j].d)))::s).Perm (Qp m cs s0 T0.length vs mm (j+1)):=by refine(hs.cons _).trans ?_;simp only[Qp];rw[lq8 hj,bZ,fG,uP,lq2];refine(YJ (l₁:=s0)).symm.trans (YB _ ?_);exact(YJ (a:=(cs[j].d,AV.v (.bool (vs cs[j].d)))) (l₁:=(cs.take j).map λc=>(c.d,AV.v (.bool (vs c.d))))).symm
     have hs1:fV s (some cs[j].d) (.v (.bool (vs cs[j].d)))=(cs[j].d,.v (.bool (vs cs[j].d)))::s:=by simp only[fV,GW,Ix hcs1]
     rw[hs1];simp only[iE,jJ,if_false];have hqk:=hok.qn cs[j].i (by simp only[cS,cG];exact .inr (.inr (.inl (hcmem j hj))));refine⟨chk _ _ _ hqk (hgS _ mm (j+1) hp2) (hTg _),?_⟩;refine ih (gc||!cs'.isEmpty) mm (j+1) D (cs[j].i::E) _ hj hD (λe h=>by have:=hDe e h;exact⟨this.1,o_,this.2.2⟩) hp2 (λq=>?_) (.inl hgc') o_;rw[cS,hE,lq8 dD];simp only[cG,aE5,zL];constructor
     ·rintro(h|h|h|h|h)
      ·exact .inr (.inr (.inl (.inr h)))
      ·exact .inl h
      ·exact .inr (.inl h)
      ·exact .inr (.inr (.inl (.inl h)))
      ·exact .inr (.inr (.inr h))
     ·rintro(h|h|(h|h)|h)
      ·exact .inr (.inl h)
      ·exact .inr (.inr (.inl h))
      ·exact .inr (.inr (.inr (.inl h)))
      ·exact .inl h
      ·exact .inr (.inr (.inr (.inr h)))
    ·
     obtain⟨e,he1,rfl⟩:=dF.1 h;have h2:=hok.ep e he1;have hmt:mm=true:=h0E.1 (h1.2.2 0 h2.2.1);subst hmt;have hni:e.n<=i:=by
      rcases h2.2.2.1 with h3|h3
      ·omega
      ·rcases JX e.n with h5|h5
       ·omega
       have h4:=h1.2.2 _ h3;have hlt:e.n-1<cs.length:=by have:=h2.1;simp at this;omega
       rw[hgetI _ hlt]at h4;have:=(hcE _ hlt).1 h4;omega
     have hnD:e∉D:=λh=>h1.2.1 ((heE e he1).2 h);refine⟨_,he e he1,?_⟩;have hgm:bA s m=.mp T0.length:=Cn hsn (hs.mem_iff.2 k_);have hgv:bA s e.s=.v (.bool (vs e.s)):=by
      rcases hval e he1 with⟨h3,h4⟩|⟨c,h3,h4,h5⟩
      ·rw[hgS s true i hs e.s h3,h4]
      ·refine Cn hsn (hs.mem_iff.2 ?_);obtain⟨hlt,rfl⟩:=aQ6.1 h3;simp only[Qp,cG,dF];exact .inr (.inl ⟨cs[e.n-1],TT.2 ⟨e.n-1,o_,rfl⟩,by rw[h5]⟩)
     have hkn:e.k∉(D.map λe=>(e.k,vs e.s)).map (·.1):=λh=>by
      simp only[rI,dF,Function.comp]at h;obtain⟨e',h3,h4⟩:=h;apply hnD;have h6:e'=e:=by obtain⟨ia,hia,rfl⟩:=CU (hDe e' h3).1;obtain⟨ib,hib,rfl⟩:=CU he1;have:=(C9 (h₀:=by simpa using hia) (h₁:=by simpa using hib) hek).1 (by simpa using h4);subst this;rfl
      rw[<-h6];exact h3
     have hT0:T0++[some (MP (D.map λe:IE=>(e.k,vs e.s)))]=(T0++[none]).set T0.length (some (MP (D.map λe:IE=>(e.k,vs e.s)))):=by rw[UU]
     have hstep:=Yp (T:=T0++[none]) (i:=T0.length) k_ (ev:=dW G s) (m:=m) (D:=D.map λe:IE=>(e.k,vs e.s)) (e:=(e.k,e.s,vs e.s)) (by simp only[dW,hgm]) rfl (by simp only[dW,hgv]) hkn;have hpT:plT T0 vs true D=(T0++[none]).set T0.length (some (MP (D.map λe:IE=>(e.k,vs e.s)))):=by simp only[plT,if_true,hT0]
     rw[hpT];simp only[fY,yF,hstep,fV,iE,jJ,if_false];rw[UU];have hqk:=hok.qn e.i (by simp only[cS,cG];exact .inr (.inr (.inr (dF.2 ⟨e,he1,rfl⟩))));refine⟨chk _ _ _ hqk (hgS _ true i hs) (hTg _),?_⟩
     have:=ih (gc||!cs'.isEmpty) true i (D++[e]) (e.i::E) s hi (vQ.2 ⟨hD,k_,λa ha b hb hab=>by rw[aE5]at hb;subst hb;subst hab;exact hnD ha⟩) (λx hx=>by
      rcases cG.1 hx with h|h
      ·exact hDe x h
      ·rw[aE5]at h;subst h;exact⟨he1,hni,rfl⟩) hs (λq=>?_) (.inl hgc') (by simp only[dZ,sE,gQ];omega)
     ·simpa[plT]using this
     ·rw[cS,hE];simp only[bZ,fG,uP,cG,aE5];constructor
      ·rintro(h|h|h|h|h)
       ·exact .inr (.inr (.inr (.inr h)))
       ·exact .inl h
       ·exact .inr (.inl h)
       ·exact .inr (.inr (.inl h))
       ·exact .inr (.inr (.inr (.inl h)))
      ·rintro(h|h|h|h|h)
       ·exact .inr (.inl h)
       ·exact .inr (.inr (.inl h))
       ·exact .inr (.inr (.inr (.inl h)))
       ·exact .inr (.inr (.inr (.inr h)))
       ·exact .inl h
    ·exfalso;have:=Eb.1 hfn k (by rw[hR];exact hk);rw[h,hok.qz]at this;simp at this
    ·exact(hyR (h ▸ (by rw[hR];exact hk))).elim
end
def aFp{P:Program}{G:L_}{a:List HOper}{b:List O3}{n:Nat}{c:Bool}{E:O3}{st:St}{K:St->Prop}(h:∀p:Plan,p=⟨a,b⟩->vU P G p n c E st K):@PV P G (.plan a b n c E) st ⟨K⟩:=h _ rfl
def Qq(p:Nat×AV):∀l:List (Nat×AV),(LG p l).Perm (p::l)|[]=>by simp[LG]|q::l=>by simp only[LG];split;rfl;exact((Qq p l).cons q).trans (List.Perm.swap p q l)
def UV:∀l:List (Nat×AV),(gP l).Perm l|[]=>List.Perm.refl _|p::l=>(Qq p _).trans ((UV l).cons p)
def aAw{P:Program}{G:L_}{a b c:HC}{st:St}{Q:Ex->St->Prop}(h:@cW P G (.seq (.seq a b) c) st ⟨Q⟩):@cW P G (.seq a (.seq b c)) st ⟨Q⟩:=by
 simp only[bC]at h⊢;refine oN (λe s d=>?_) h
 cases e with
 |normal=>simp only[aHy]at d⊢;rw[bC];exact d|exit i=>simp only[aHz]at d⊢;exact d|ret=>simp only[aHA]at d⊢;exact d
end Hud
