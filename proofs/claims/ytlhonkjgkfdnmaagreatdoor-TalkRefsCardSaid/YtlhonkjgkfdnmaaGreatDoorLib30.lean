import Derived.Test.YtlhonkjgkfdnmaaGreatDoorLib26
import Derived.Test.YtlhonkjgkfdnmaaGreatDoorLib27
set_option linter.all false
set_option maxHeartbeats 40000000
namespace Hud
open Go
variable{G:L_}
section
variable{g:PGM}{d:Nat->Id}{f N:Nat}
abbrev pkS(g:PGM)(d:Nat->Id)(f:Nat)(a b c:Nat)(h e:Bool)(l:List Nat):St:=⟨4,[(0,.own 0),(1,.v (.int .i64 (a:Int))),(2,.v (.int .i64 (b:Int))),(3,.v (.int .i64 (c:Int))),(4,cv f),(10,.v (.bool h)),(11,.v (.bool e))],(aM g d l)⟩
def XB(G:L_)(g:PGM)(d:Nat->Id)(f N:Nat)(n:Nat):Prop:=∀(l:V_),VL N l->∀(a b c:Nat),b-a=n->a<=b->b<=l.length->l.length<=60000->c<=1000000000->SQ a b l->aA PQ G bO [.own 0,iv a,iv b,iv c,cv f] (aM g d l) (Gz g d λ_ e=>PR a b l e/\SR a b e)
def PkN(g:PGM)(d:Nat->Id)(f:Nat)(a b c:Nat)(i:V_)(Q:St->Prop):Prop:=∀(a' b':Nat)(v8 v9:Bool)(e:V_)(s:St),b'-a'<b-a->a<=a'->a'<=b'->b'<=b->PR a b i e->SQ a' b' e->(∀h,PR a' b' e h->SR a' b' h->SR a b h)->DB [] s=pkS g d f a' b' c v8 v9 e->Q s
def aDz:HC:=.seq (.seq (.reg [⟨some 106,.mov (.tmp 0),none⟩,⟨some 107,.mov (.tmp 1),none⟩,⟨some 108,.mov (.tmp 2),none⟩,⟨some 109,.mov (.tmp 13),none⟩,⟨some 110,.mov (.tmp 4),none⟩,⟨some 111,.call (.func dL) [.tmp 106,.tmp 107,.tmp 108,.tmp 109,.tmp 110],none⟩,⟨some 105,.mov (.tmp 111),none⟩,⟨some 112,.ext (.tmp 105) 0,none⟩,⟨some 113,.ext (.tmp 105) 1,none⟩,⟨some 16,.mov (.tmp 112),none⟩,⟨some 17,.mov (.tmp 113),none⟩]) (.kill [13,113,112,105,111,110,109,108,107,106])) (.seq (.seq (.reg [⟨some 114,.mov (.tmp 17),none⟩,⟨some 11,.mov (.tmp 114),none⟩]) (.kill [17,114])) (.seq (.seq (.reg [⟨some 115,.mov (.tmp 16),none⟩,⟨some 116,.mov (.tmp 1),none⟩,⟨some 117,.bin .sub (.tmp 115) (.tmp 116),none⟩,⟨some 118,.mov (.tmp 2),none⟩,⟨some 119,.mov (.tmp 16),none⟩,⟨some 120,.bin .sub (.tmp 118) (.tmp 119),none⟩,⟨some 18,.mov (.tmp 117),none⟩,⟨some 19,.mov (.tmp 120),none⟩]) (.kill [120,119,118,117,116,115])) (.seq (.seq (.reg [⟨some 121,.mov (.tmp 12),none⟩,⟨some 122,.bin .quo (.tmp 121) (.const (.int .i64 8)),none⟩,⟨some 20,.mov (.tmp 122),none⟩]) (.kill [12,122,121])) (.seq (.seq (.reg [⟨some 123,.mov (.tmp 18),none⟩,⟨some 124,.mov (.tmp 19),none⟩,⟨some 125,.bin .lss (.tmp 123) (.tmp 124),none⟩]) (.kill [124,123])) (.cond (.tmp 125) (.seq (.kill [19,125]) (.seq (.seq (.reg [⟨some 126,.mov (.tmp 18),none⟩,⟨some 127,.mov (.tmp 20),none⟩,⟨some 128,.bin .geq (.tmp 126) (.tmp 127),none⟩,⟨some 10,.mov (.tmp 128),none⟩]) (.kill [18,20,128,127,126])) (.seq (.seq (.reg [⟨some 129,.mov (.tmp 0),none⟩,⟨some 130,.mov (.tmp 1),none⟩,⟨some 131,.mov (.tmp 16),none⟩,⟨some 132,.mov (.tmp 3),none⟩,⟨some 133,.mov (.tmp 4),none⟩,⟨some 134,.call (.func bO) [.tmp 129,.tmp 130,.tmp 131,.tmp 132,.tmp 133],none⟩]) (.kill [1,134,133,132,131,130,129])) (.seq (.reg [⟨some 135,.mov (.tmp 16),none⟩,⟨some 136,.bin .add (.tmp 135) (.const (.int .i64 1)),none⟩,⟨some 1,.mov (.tmp 136),none⟩]) (.kill [16,136,135]))))) (.seq (.kill [18,125]) (.seq (.seq (.reg [⟨some 137,.mov (.tmp 19),none⟩,⟨some 138,.mov (.tmp 20),none⟩,⟨some 139,.bin .geq (.tmp 137) (.tmp 138),none⟩,⟨some 10,.mov (.tmp 139),none⟩]) (.kill [19,20,139,138,137])) (.seq (.seq (.reg [⟨some 140,.mov (.tmp 0),none⟩,⟨some 141,.mov (.tmp 16),none⟩,⟨some 142,.bin .add (.tmp 141) (.const (.int .i64 1)),none⟩,⟨some 143,.mov (.tmp 2),none⟩,⟨some 144,.mov (.tmp 3),none⟩,⟨some 145,.mov (.tmp 4),none⟩,⟨some 146,.call (.func bO) [.tmp 140,.tmp 142,.tmp 143,.tmp 144,.tmp 145],none⟩]) (.kill [2,146,145,144,143,142,141,140])) (.seq (.reg [⟨some 147,.mov (.tmp 16),none⟩,⟨some 2,.mov (.tmp 147),none⟩]) (.kill [16,147]))))))))))
def U1(U:rF G g d f N)(n:Nat)(ih:∀m,m<n->XB G g d f N m){a b p c:Nat}{q:V_}{Q:Ex->St->Prop}(V:b-a=n)(E:a<=p)(B:p<b)(s:VL N q)(H:b<=q.length)(S:q.length<=60000)(o:c<=1000000000)(u:SQ a b q)(I:PkN g d f a b c q (Q .normal)):
 @cW PQ G aDz ⟨4,[(13,iv p),(3,iv c),(12,iv ((b-a:Nat):Int)),(0,.own 0),(1,iv a),(2,iv b),(4,cv f)],(aM g d q)⟩ ⟨Q⟩:=by
 unfold aDz;simp only[go_sem,aM,TG,MG,cv];apply aG [0,1,2,3] (aB _) d_ U_ f_ u_ (aDx U q s a b p E B H o_);rintro r K ⟨A,⟨j,J,P,i,l⟩,x⟩;subst P;subst x;have R:=i.1;have D:=l.1;have T:=l.2.1;have M:IntKind.i64.wrap ((j:Int)-(a:Int))=((j-a:Nat):Int):=a_;have L:IntKind.i64.wrap ((b:Int)-(j:Int))=((b-j:Nat):Int):=a_;have k:SQ a b A:=u.pr i H;simp only[go_sem,aM,TG,MG,M,L,aJV (b-a) o_];by_cases w:j-a<b-j;simp only[go_sem,aT w];apply aG [0,1,2,3] (aB _) d_ U_ f_ u_ (ih (j-a) o_ A (VL.pr i s) a j c rfl D o_ o_ o (k.sub o_));rintro r K ⟨z,⟨e,t⟩,x⟩;subst x;have C:=e.1;have h:=Bv l o_ e;simp only[go_sem,aM,TG,MG,fQ j o_];apply I (j+1) b (decide (((j-a:Nat):Int)>=(((b-a)/8:Nat):Int))) J z _ o_ o_ o_ o_ (i.trans (e.wide (cN _) o_)) (Dm h) (λO y F=>Bw (AE h o_ y) (t.outside y (.inl o_)) F);simp only[go_sem,aM,TG,MG,cv,pkS];simp only[go_sem,aS w,fQ j o_];apply aG [0,1,2,3] (aB _) d_ U_ f_ u_ (ih (b-(j+1)) o_ A (VL.pr i s) (j+1) b c rfl o_ o_ o_ o (Dm l));rintro r K ⟨z,⟨e,t⟩,x⟩;subst x;have C:=e.1;have h:=AE l o_ e;simp only[go_sem,aM,TG,MG];apply I a j (decide (((b-j:Nat):Int)>=(((b-a)/8:Nat):Int))) J z _ o_ o_ o_ o_ (i.trans (e.wide o_ (cN _))) ((k.pr (e.wide o_ (cN _)) o_).sub o_) (λO y F=>Bw (Bv h o_ y) F (t.outside y (.inr o_)));simp only[go_sem,aM,TG,MG,cv,pkS]
def U2(U:rF G g d f N)(n:Nat)(ih:∀m,m<n->XB G g d f N m){a b p c:Nat}{q:V_}{Q:Ex->St->Prop}(V:b-a=n)(E:a<=p)(B:p<b)(s:VL N q)(H:b<=q.length)(S:q.length<=60000)(o:c<=1000000000)(u:SQ a b q)(I:PkN g d f a b c q (Q .normal)):
 @cW PQ G aDz ⟨4,[(13,iv p),(12,iv ((b-a:Nat):Int)),(0,.own 0),(1,iv a),(2,iv b),(3,iv c),(4,cv f)],(aM g d q)⟩ ⟨Q⟩:=by
 unfold aDz;simp only[go_sem,aM,TG,MG,cv];apply aG [0,1,2,3] (aB _) d_ U_ f_ u_ (aDx U q s a b p E B H o_);rintro r K ⟨A,⟨j,J,P,i,l⟩,x⟩;subst P;subst x;have R:=i.1;have D:=l.1;have T:=l.2.1;have M:IntKind.i64.wrap ((j:Int)-(a:Int))=((j-a:Nat):Int):=a_;have L:IntKind.i64.wrap ((b:Int)-(j:Int))=((b-j:Nat):Int):=a_;have k:SQ a b A:=u.pr i H;simp only[go_sem,aM,TG,MG,M,L,aJV (b-a) o_];by_cases w:j-a<b-j;simp only[go_sem,aT w];apply aG [0,1,2,3] (aB _) d_ U_ f_ u_ (ih (j-a) o_ A (VL.pr i s) a j c rfl D o_ o_ o (k.sub o_));rintro r K ⟨z,⟨e,t⟩,x⟩;subst x;have C:=e.1;have h:=Bv l o_ e;simp only[go_sem,aM,TG,MG,fQ j o_];apply I (j+1) b (decide (((j-a:Nat):Int)>=(((b-a)/8:Nat):Int))) J z _ o_ o_ o_ o_ (i.trans (e.wide (cN _) o_)) (Dm h) (λO y F=>Bw (AE h o_ y) (t.outside y (.inl o_)) F);simp only[go_sem,aM,TG,MG,cv,pkS];simp only[go_sem,aS w,fQ j o_];apply aG [0,1,2,3] (aB _) d_ U_ f_ u_ (ih (b-(j+1)) o_ A (VL.pr i s) (j+1) b c rfl o_ o_ o_ o (Dm l));rintro r K ⟨z,⟨e,t⟩,x⟩;subst x;have C:=e.1;have h:=AE l o_ e;simp only[go_sem,aM,TG,MG];apply I a j (decide (((b-j:Nat):Int)>=(((b-a)/8:Nat):Int))) J z _ o_ o_ o_ o_ (i.trans (e.wide o_ (cN _))) ((k.pr (e.wide o_ (cN _)) o_).sub o_) (λO y F=>Bw (Bv h o_ y) F (t.outside y (.inr o_)));simp only[go_sem,aM,TG,MG,cv,pkS]
def aFM:HC:=.seq (.seq (.seq (.regd (.q ⟨some 81,.mov (.tmp 1),none⟩ (.q ⟨some 82,.bin .gtr (.tmp 81) (.const (.int .i64 0)),none⟩ (.q ⟨some 83,.mov (.tmp 82),none⟩ (.q ⟨some 84,.mov (.tmp 4),some (83,true)⟩ (.q ⟨some 85,.mov (.tmp 0),some (83,true)⟩ (.q ⟨some 86,.mov (.tmp 1),some (83,true)⟩ (.q ⟨some 87,.bin .sub (.tmp 86) (.const (.int .i64 1)),some (83,true)⟩ (.q ⟨some 88,.iad (.tmp 85) (.tmp 87) 3,some (83,true)⟩ (.q ⟨some 89,.ld (some 3) (.tmp 88),some (83,true)⟩ (.q ⟨some 90,.mov (.tmp 0),some (83,true)⟩ (.q ⟨some 91,.mov (.tmp 13),some (83,true)⟩ (.q ⟨some 92,.iad (.tmp 90) (.tmp 91) 3,some (83,true)⟩ (.q ⟨some 93,.ld (some 3) (.tmp 92),some (83,true)⟩ (.alt ⟨some 94,.call (.tmp 84) [.tmp 89,.tmp 93],some (83,true)⟩ [] (.q ⟨some 95,.bin .lss (.tmp 94) (.const (.int .i64 0)),some (83,true)⟩ (.q ⟨some 96,.un .not (.tmp 95),some (83,true)⟩ (.q ⟨some 97,.pick (.tmp 83) (.tmp 96) (.const (.bool false)),none⟩ (.done false)))) .no))))))))))))))) (.kill [96,95,94,93,92,91,90,89,88,87,86,85,84,83,82,81])) (.cond (.tmp 97) (.seq (.kill [12,97]) (.seq (.seq (.reg [⟨some 98,.mov (.tmp 0),none⟩,⟨some 99,.mov (.tmp 1),none⟩,⟨some 100,.mov (.tmp 2),none⟩,⟨some 101,.mov (.tmp 13),none⟩,⟨some 102,.mov (.tmp 4),none⟩,⟨some 103,.call (.func cQ) [.tmp 98,.tmp 99,.tmp 100,.tmp 101,.tmp 102],none⟩,⟨some 15,.mov (.tmp 103),none⟩]) (.kill [1,13,103,102,101,100,99,98])) (.seq (.seq (.reg [⟨some 104,.mov (.tmp 15),none⟩,⟨some 1,.mov (.tmp 104),none⟩]) (.kill [15,104])) (.exit 1)))) (.seq (.kill [11,10,97]) .skip))) (aDz)
def aDA (B:rF G g d f N) (n:Nat) (ih:∀m,m<n->XB G g d f N m) {a b p e:Nat} {F E:Bool} {c:V_} {Q:Ex->St->Prop} (K:b-a=n) (s:a<=p) (o:p<b) (h:VL N c) (A:b<=c.length) (u:c.length<=60000) (l:e<=1000000000) (j:SQ a b c) (M:PkN g d f a b e c (Q .normal)) (C:PkN g d f a b e c (Q (.exit 1))):
 @cW PQ G aFM ⟨4,[(13,iv p),(3,iv e),(12,iv ((b-a:Nat):Int)),(0,.own 0),(1,iv a),(2,iv b),(4,cv f),(10,.v (.bool F)),(11,.v (.bool E))],(aM g d c)⟩ ⟨Q⟩:=by
 unfold aFM;by_cases U:a=0;have D:decide ((a:Int)>0)=false:=decide_eq_false o_;simp only[go_sem,aM,TG,MG,cv,D];exact U1 B n ih K s o h A u l j M;have D:decide ((a:Int)>0)=true:=decide_eq_true o_;have O:IntKind.i64.wrap ((a:Int)-1)=((a-1:Nat):Int):=a_;have Z:=bL d c (a-1) o_;have Y:=bL d c p o_;simp only[go_sem,aM,TG,MG,cv,D,O,aP,(o_:a-1<c.length),(o_:p<c.length),Z,Y];apply jU B (VL.get h o_) (VL.get h o_);simp only[go_sem,TG,MG,pY];refine aL (λL=>?_) (λL=>?_);have R:c.getD p 0<=c.getD (a-1) 0:=by simpa using L
 simp only[go_sem];apply aG [0,1,2,3] (aB _) d_ U_ f_ u_ (U0 B c h a b p s o A o_);rintro r T' ⟨H,⟨i,P,q,T,z,y,w⟩,V⟩;subst P;subst V;have S:=q.1;have t:∀k,a<=k->k<b->c.getD p 0<=H.getD k 0:=oz;simp only[go_sem,aM,TG,MG];apply C i b F E H _ o_ o_ z (cN _) q (.inr λk J I=>uR (y (i-1) o_ o_) (H9 (w k J I))) (λl6 X W=>Uc z o_ y w t X W);simp only[go_sem,aM,TG,MG,cv,pkS];simp only[go_sem];exact U1 B n ih K s o h A u l j M
def aDB (B:rF G g d f N) (n:Nat) (ih:∀m,m<n->XB G g d f N m) {a b p e:Nat} {F E:Bool} {c:V_} {Q:Ex->St->Prop} (K:b-a=n) (s:a<=p) (o:p<b) (h:VL N c) (A:b<=c.length) (u:c.length<=60000) (l:e<=1000000000) (j:SQ a b c) (M:PkN g d f a b e c (Q .normal)) (C:PkN g d f a b e c (Q (.exit 1))):
 @cW PQ G aFM ⟨4,[(13,iv p),(12,iv ((b-a:Nat):Int)),(0,.own 0),(1,iv a),(2,iv b),(3,iv e),(4,cv f),(10,.v (.bool F)),(11,.v (.bool E))],(aM g d c)⟩ ⟨Q⟩:=by
 unfold aFM;by_cases U:a=0;have D:decide ((a:Int)>0)=false:=decide_eq_false o_;simp only[go_sem,aM,TG,MG,cv,D];exact U2 B n ih K s o h A u l j M;have D:decide ((a:Int)>0)=true:=decide_eq_true o_;have O:IntKind.i64.wrap ((a:Int)-1)=((a-1:Nat):Int):=a_;have Z:=bL d c (a-1) o_;have Y:=bL d c p o_;simp only[go_sem,aM,TG,MG,cv,D,O,aP,(o_:a-1<c.length),(o_:p<c.length),Z,Y];apply jU B (VL.get h o_) (VL.get h o_);simp only[go_sem,TG,MG,pY];refine aL (λL=>?_) (λL=>?_);have R:c.getD p 0<=c.getD (a-1) 0:=by simpa using L
 simp only[go_sem];apply aG [0,1,2,3] (aB _) d_ U_ f_ u_ (U0 B c h a b p s o A o_);rintro r T' ⟨H,⟨i,P,q,T,z,y,w⟩,V⟩;subst P;subst V;have S:=q.1;have t:∀k,a<=k->k<b->c.getD p 0<=H.getD k 0:=oz;simp only[go_sem,aM,TG,MG];apply C i b F E H _ o_ o_ z (cN _) q (.inr λk J I=>uR (y (i-1) o_ o_) (H9 (w k J I))) (λl6 X W=>Uc z o_ y w t X W);simp only[go_sem,aM,TG,MG,cv,pkS];simp only[go_sem];exact U2 B n ih K s o h A u l j M
def aKe (F:rF G g d f N) (n:Nat) (ih:∀m,m<n->XB G g d f N m):XB G g d f N n:=by
 intro l C I H S ah X aj hl Q P;apply aC sP;simp only[go_sem,aM,TG,MG,cv];refine cO (λn s=>∃(a b k:Nat)(x w:Bool)(l1:V_),n=b-a/\I<=a/\a<=b/\b<=H/\k<=1000000000/\PR I H l l1/\SQ a b l1/\(∀l2,PR a b l1 l2->SR a b l2->SR I H l2)/\s=pkS g d f a b k x w l1) (H-I)
  ⟨I,H,S,true,true,l,rfl,cN _,X,cN _,Q,PR.refl _ _ l,P,λ_ _ h=>h,by simp only[go_sem,aM,TG,MG,cv,pkS]⟩ ?_
 rintro n1 s ⟨a,b,k,x,w,l1,af,K,ae,J,W,q,A,R,rfl⟩;have ai:=q.1;have w1:IntKind.i64.wrap ((b:Int)-(a:Int))=((b-a:Nat):Int):=a_;simp only[go_sem,aM,TG,MG,cv,w1];by_cases ak:b-a<=12;simp only[go_sem,show decide (((b-a:Nat):Int)<=12)=true from decide_eq_true o_];apply aG [0,1,2,3] (aB _) d_ U_ f_ u_ (aKd F l1 (VL.pr q C) a b ae o_ o_);rintro r L ⟨l2,⟨j,M⟩,rfl⟩;simp only[go_sem,aM,TG,MG];exact⟨l2,⟨q.trans (j.wide K J),R l2 j M⟩,rfl⟩;simp only[go_sem,show decide (((b-a:Nat):Int)<=12)=false from decide_eq_false o_];by_cases aa:k=0;subst aa;simp only[go_sem];apply aG [0,1,2,3] (aB _) d_ U_ f_ u_ (aIa F l1 (VL.pr q C) a b o_ o_ o_);rintro r L ⟨l2,⟨j,M⟩,rfl⟩;simp only[go_sem,aM,TG,MG];exact⟨l2,⟨q.trans (j.wide K J),R l2 j M⟩,rfl⟩;have V:((k:Int)==0)=false:=c_;simp only[go_sem,V];refine OF (λs=>∃(i:Nat)(l2:V_),i<=1000000000/\PR a b l1 l2/\(s=⟨4,[(3,iv i),(12,iv ((b-a:Nat):Int)),(0,.own 0),(1,iv a),(2,iv b),(4,cv f),(10,.v (.bool x)),(11,.v (.bool w))],(aM g d l2)⟩\/s=⟨4,[(12,iv ((b-a:Nat):Int)),(0,.own 0),(1,iv a),(2,iv b),(3,iv i),(4,cv f),(10,.v (.bool x)),(11,.v (.bool w))],(aM g d l2)⟩)) ?_ ?_ ?_;intro hw;simp only[go_sem];apply aG [0,1,2,3] (aB _) d_ U_ f_ u_ (aFL F l1 (VL.pr q C) a b o_ o_ o_);rintro r L ⟨l2,j,rfl⟩;have wl:IntKind.i64.wrap ((k:Int)-1)=((k-1:Nat):Int):=a_;simp only[go_sem,aM,TG,MG,cv,wl];exact⟨k-1,l2,o_,j,.inl rfl⟩;intro hw;simp only[go_sem,aM,TG,MG,cv];exact⟨k,l1,W,PR.refl _ _ _,.inr rfl⟩;rintro s ⟨i,l2,o,j,D|D⟩;subst D;have ad:=j.1;simp only[go_sem,aM,TG,MG,cv];apply aG [0,1,2,3] (aB _) d_ U_ f_ u_ (Uz F l2 (VL.pr j (VL.pr q C)) a b o_ o_ o_);rintro r L ⟨p,h,z,y,O,E⟩;subst O;subst E;simp only[go_sem,aM,TG,MG];refine OF (λs=>∃(p:Nat)(h:Int)(u:V_),a<=p/\p<b/\PR a b l1 u/\s=⟨4,[(14,iv h),(13,iv p),(3,iv i),(12,iv ((b-a:Nat):Int)),(0,.own 0),(1,iv a),(2,iv b),(4,cv f),(10,.v (.bool x)),(11,.v (.bool w))],(aM g d u)⟩) ?_ ?_ ?_;intro hh;have v1:IntKind.i64.wrap ((b:Int)-1)=((b-1:Nat):Int):=a_;have v2:IntKind.i64.wrap ((p:Int)-(a:Int))=((p-a:Nat):Int):=a_;have v3:IntKind.i64.wrap (((b-1:Nat):Int)-((p-a:Nat):Int))=((b-1-(p-a):Nat):Int):=a_;simp only[go_sem];apply aG [0,1,2,3] (aB _) d_ U_ f_ u_ (Q6 F l2 (VL.pr j (VL.pr q C)) a b o_ o_ o_);rintro r L ⟨u,c,E⟩;subst E;simp only[go_sem,aM,TG,MG,cv,v1,v2,v3];exact⟨b-1-(p-a),1,u,o_,o_,j.trans c,rfl⟩;intro hh;simp only[go_sem,aM,TG,MG,cv];grind;clear z y;rintro s ⟨p,h,u,z,y,c,D⟩;subst D;have ac:=c.1;rw[bC];refine cB (λs=>∃t:V_,PR a b l1 t/\s=⟨4,[(13,iv p),(3,iv i),(12,iv ((b-a:Nat):Int)),(0,.own 0),(1,iv a),(2,iv b),(4,cv f),(10,.v (.bool x)),(11,.v (.bool w))],(aM g d t)⟩) ?_ ?_;by_cases B:x=true/\w=true;obtain⟨rfl,rfl⟩:=B;simp only[go_sem,aM,TG,MG,cv];refine aL (λhc=>?_) (λhc=>?_);simp only[go_sem];apply aG [0,1,2,3] (aB _) d_ U_ f_ u_ (Q7 F u (VL.pr c (VL.pr q C)) a b o_ o_ o_ (A.pr c o_));rintro r L ⟨t,⟨fb,O,e,hf⟩,E⟩;subst O;subst E
 cases fb with
 |true=>
  simp only[go_sem,aM,TG,MG];exact⟨t,⟨q.trans ((c.trans e).wide K J),R t (c.trans e) (hf rfl)⟩,rfl⟩
 |false=>
  simp only[go_sem,aM,TG,MG,cv];exact⟨t,c.trans e,rfl⟩
 simp only[go_sem,aM,TG,MG,cv];grind
 cases x with
 |false=>simp only[go_sem,aM,TG,MG,cv];exact⟨u,c,rfl⟩|true=>
  cases w with
  |false=>simp only[go_sem,aM,TG,MG,cv];exact⟨u,c,rfl⟩|true=>exact absurd ⟨rfl,rfl⟩ B
 rintro s ⟨t,e,D⟩;subst D;have ab:=e.1
 have Y:PkN g d f a b i t λs=>∃m,m<n1/\∃(a b k:Nat)(x w:Bool)(l1:V_),m=b-a/\I<=a/\a<=b/\b<=H/\k<=1000000000/\PR I H l l1/\SQ a b l1/\(∀l2,PR a b l1 l2->SR a b l2->SR I H l2)/\DB [] s=pkS g d f a b k x w l1 :=
  λa' b' v8 v9 l6 s h1 h2 h3 h4 Z h6 h7 h8=>⟨b'-a',o_,a',b',i,v8,v9,l6,rfl,o_,h3,o_,o,q.trans ((e.trans Z).wide K J),h6,λT U k2=>R T ((e.trans Z).trans (U.wide h2 h4)) (h7 T U k2),h8⟩
 exact aDA F (b-a) (λm hm=>ih m o_) rfl z y (VL.pr (q.trans (e.wide K J)) C) o_ o_ o (A.pr e o_) Y Y;subst D;have ad:=j.1;simp only[go_sem,aM,TG,MG,cv];apply aG [0,1,2,3] (aB _) d_ U_ f_ u_ (Uz F l2 (VL.pr j (VL.pr q C)) a b o_ o_ o_);rintro r L ⟨p,h,z,y,O,E⟩;subst O;subst E;simp only[go_sem,aM,TG,MG];refine OF (λs=>∃(p:Nat)(h:Int)(u:V_),a<=p/\p<b/\PR a b l1 u/\s=⟨4,[(14,iv h),(13,iv p),(12,iv ((b-a:Nat):Int)),(0,.own 0),(1,iv a),(2,iv b),(3,iv i),(4,cv f),(10,.v (.bool x)),(11,.v (.bool w))],(aM g d u)⟩) ?_ ?_ ?_;intro hh;have v1:IntKind.i64.wrap ((b:Int)-1)=((b-1:Nat):Int):=a_;have v2:IntKind.i64.wrap ((p:Int)-(a:Int))=((p-a:Nat):Int):=a_;have v3:IntKind.i64.wrap (((b-1:Nat):Int)-((p-a:Nat):Int))=((b-1-(p-a):Nat):Int):=a_;simp only[go_sem];apply aG [0,1,2,3] (aB _) d_ U_ f_ u_ (Q6 F l2 (VL.pr j (VL.pr q C)) a b o_ o_ o_);rintro r L ⟨u,c,E⟩;subst E;simp only[go_sem,aM,TG,MG,cv,v1,v2,v3];exact⟨b-1-(p-a),1,u,o_,o_,j.trans c,rfl⟩;intro hh;simp only[go_sem,aM,TG,MG,cv];grind;clear z y;rintro s ⟨p,h,u,z,y,c,D⟩;subst D;have ac:=c.1;rw[bC];refine cB (λs=>∃t:V_,PR a b l1 t/\s=⟨4,[(13,iv p),(12,iv ((b-a:Nat):Int)),(0,.own 0),(1,iv a),(2,iv b),(3,iv i),(4,cv f),(10,.v (.bool x)),(11,.v (.bool w))],(aM g d t)⟩) ?_ ?_;by_cases B:x=true/\w=true;obtain⟨rfl,rfl⟩:=B;simp only[go_sem,aM,TG,MG,cv];refine aL (λhc=>?_) (λhc=>?_);simp only[go_sem];apply aG [0,1,2,3] (aB _) d_ U_ f_ u_ (Q7 F u (VL.pr c (VL.pr q C)) a b o_ o_ o_ (A.pr c o_));rintro r L ⟨t,⟨fb,O,e,hf⟩,E⟩;subst O;subst E
 cases fb with
 |true=>
  simp only[go_sem,aM,TG,MG];exact⟨t,⟨q.trans ((c.trans e).wide K J),R t (c.trans e) (hf rfl)⟩,rfl⟩
 |false=>
  simp only[go_sem,aM,TG,MG,cv];exact⟨t,c.trans e,rfl⟩
 simp only[go_sem,aM,TG,MG,cv];grind
 cases x with
 |false=>simp only[go_sem,aM,TG,MG,cv];exact⟨u,c,rfl⟩|true=>
  cases w with
  |false=>simp only[go_sem,aM,TG,MG,cv];exact⟨u,c,rfl⟩|true=>exact absurd ⟨rfl,rfl⟩ B
 rintro s ⟨t,e,D⟩;subst D;have ab:=e.1
 have Y:PkN g d f a b i t λs=>∃m,m<n1/\∃(a b k:Nat)(x w:Bool)(l1:V_),m=b-a/\I<=a/\a<=b/\b<=H/\k<=1000000000/\PR I H l l1/\SQ a b l1/\(∀l2,PR a b l1 l2->SR a b l2->SR I H l2)/\DB [] s=pkS g d f a b k x w l1 :=
  λa' b' v8 v9 l6 s h1 h2 h3 h4 Z h6 h7 h8=>⟨b'-a',o_,a',b',i,v8,v9,l6,rfl,o_,h3,o_,o,q.trans ((e.trans Z).wide K J),h6,λT U k2=>R T ((e.trans Z).trans (U.wide h2 h4)) (h7 T U k2),h8⟩
 exact aDB F (b-a) (λm hm=>ih m o_) rfl z y (VL.pr (q.trans (e.wide K J)) C) o_ o_ o (A.pr e o_) Y Y
end
def FY:∀{l m:V_},l.Perm m->l.Pairwise (· <= ·)->m.Pairwise (· <= ·)->l=m
 |[],m,a,_,_=>(List.nil_perm.1 a).symm ▸ rfl
 |x::l,[],a,_,_=>absurd a.length_eq s_
 | x::l,y::m,a,h1,h2=>by
  obtain⟨h,g⟩:=H5.1 h1;obtain⟨f,d⟩:=H5.1 h2;have e:x=y:=by have c:x∈y::m:=a.mem_iff.1 s_;have b:y∈x::l:=a.mem_iff.2 s_;rcases cS.1 c with e|c;exact e;rcases cS.1 b with e|b;exact e.symm;exact Nat.le_antisymm (h y b) (f x c)
  subst e;rw[FY (List.perm_cons x |>.1 a) g d]
def FZ{l:V_}(h:SR 0 l.length l):l.Pairwise (· <= ·):=by rw[QD];intro i j c b a;have:=h i j (pR _) (H9 a) b;simpa[rH,c,b]using this
def Gf(S:D_)(n:Nat):Id:=S.getD n default
def aDC{S:D_}{x:Id}(h:x∈S):Gf S (S.idxOf x)=x:=by have h1:=aBR h;rw[Gf,rH,jN h1];exact List.getElem_idxOf h1
def aIb{S L:D_}(h:∀x∈L,x∈S):kl (Gf S) (L.map S.idxOf)=L.map Id.A:=by simp only[kl,rI];refine LD λx a=>?_;simp only[Function.comp_apply,aDC (h x a)]
def aAS{S:D_}(a:S.Nodup):S.map S.idxOf=List.range S.length:=by apply Ki;simp;intro i h1 h2;simp only[zL,List.getElem_range];exact a.idxOf_getElem i _
def aDD(S:D_):kl (Gf S) (List.range S.length)=S.map Id.A:=by
 apply Ki;simp;intro i h1 h2;have h3:i<S.length:=d6;simp[Gf,rH,h3]
section
variable{g:PGM}{d:Nat->Id}{f N:Nat}
def aAT(a:rF G g d f N)(n:Nat):XB G g d f N n:=Nat.strongRecOn n λm ih=>aKe a m ih
def XC(i:rF G g d f N)(l:V_)(b:VL N l)(h:l.length<=60000):aA PQ G bK [.own 0,cv f] (aM g d l) (Gz g d λr a=>r=.tup []/\PR 0 l.length l a/\SR 0 l.length a):=by refine aC pJ ?_;simp only[go_sem,aM,TG,MG,cv,aP,bS l.length o_];apply Jo (aD6 l.length o_);rintro r j ⟨⟨m,rfl,k,_⟩,rfl⟩;simp only[go_sem];apply aG [0,1,2,3] (aB _) d_ s_ f_ u_ (aAT i l.length l b 0 l.length m (QO _) (pR _) (cN _) h o_ (.inl rfl));rintro r j ⟨a,⟨e,c⟩,rfl⟩;simp only[go_sem,aM,TG,MG];exact⟨a,⟨rfl,e,c⟩,rfl⟩
def aIc{S L:D_}(m:S.Nodup)(e:L.Perm S)(o:L.length<=60000)(p:rF G g (Gf S) f S.length):aA PQ G bK [.own 0,cv f] (some (.arr 3 (L.map Id.A))::TG 1 g) λr T=>r=.tup []/\T=some (.arr 3 (S.map Id.A))::TG 1 g:=by
 have k:∀x∈L,x∈S:=λx c=>e.mem_iff.1 c
 have a:=XC p (L.map S.idxOf) (λn h=>by
  obtain⟨x,c,rfl⟩:=dF.1 h
  exact aBR (k x c)) (by simpa using o)
 have q:aM g (Gf S) (L.map S.idxOf)=some (.arr 3 (L.map Id.A))::TG 1 g:=by rw[aM,aIb k]
 rw[q]at a;apply a.mono;rintro r u ⟨l,⟨rfl,h1,h2⟩,rfl⟩;have h3:l=List.range S.length:=by have b:=h1.1;apply FY ((h1.2.2.trans (e.map S.idxOf)).trans (.of_eq (aAS m))) (FZ (by rw[b];exact h2));rw[QD];intro i j t s d;simpa using H9 d
 exact⟨rfl,by rw[h3,aM,aDD]⟩
end
def PGM.at(g:PGM)(x:Id):Nat:=(g.I.findIdx? λy=>decide (y=x)).getD 0
def z4:V_:=[0,0,0,0]
def XD:ND:=⟨default,⟨0,0,0⟩,z4,0⟩
def PGM.nd(g:PGM)(x:Id):ND:=g.nodes.getD (g.at x) XD
def Hg(g:PGM)(l:D_):V_:=l.foldl (λW x=>Py W (g.at x)) z4
def Hh(g:PGM)(l:D_):V_:=l.foldl (λW x=>Kz W (g.nd x).W) z4
def G0(g:PGM)(l:D_):Int:=l.foldl (λm x=>max m (g.nd x).o.At) 0
def Fa(g:PGM)(l:D_):Int:=l.foldl (λm x=>max m ((g.nd x).lv+1)) 1
def Cu(W V:V_):V_:=List.zipWith (λa b=>a &&& b) W V
def BY(a:List ND)(o:OpM)(W:V_):Nat->Int×Bool|0=>(0,false)|i+1=>if((a.getD i XD).o.By==o.By)&&qK W i then(max (BY a o W i).1 (a.getD i XD).o.Seq,(BY a o W i).2||((a.getD i XD).o.Seq==o.Seq-1)) else BY a o W i
def BF(g:PGM)(o:OpM):V_:=Kz (Hh g o.Past) (Hg g o.Past)
def MQ(g:PGM)(o:OpM):Bool :=
 decide (o.Seq<=(BY g.nodes o (BF g o) g.nodes.length).1)||(decide (1<o.Seq)&&!(BY g.nodes o (BF g o) g.nodes.length).2)
def Q8(g:PGM)(o:OpM):PGM×Int :=
 if !(Cu (Hg g o.Past) (Hh g o.Past)==z4&&!decide (o.At<G0 g o.Past)) then(g,6)
 else if MQ g o then(g,11)
 else(⟨g.cards,g.nodes++[⟨o,C7 o,BF g o,Fa g o.Past⟩]⟩,0)
def Oa(g:PGM)(o:OpM):PGM×Int :=
 if C7 o∈g.I then(g,5)
 else if 200<=g.nodes.length then(g,3)
 else if(gM g.cards o.By).2=false then(g,17)
 else if((o.By==(gM g.cards o.By).1.Device)&&BW (gM g.cards o.By).1.Sign o.B o.SR o.SS)=false then(g,12)
 else if((o.Kind==1)&&decide (0<g.nodes.length))=true then(g,1)
 else if 0<(CQ g o).length then(g,10)
 else Q8 g o
def sR(g:PGM)(o:OpM):PGM×Int:=if vF o≠0 then(g,vF o) else Oa g o
structure PGM.ok(g:PGM):Prop where
 n:g.nodes.length<=200
 cn:g.cards.length<=1000
 cs:∀c∈g.cards,c.ok
 ops:∀x∈g.nodes,x.o.ok
 ids:∀x∈g.nodes,x.id.ok
 ws:∀x∈g.nodes,Hu x.W
 lv:∀x∈g.nodes,0<=x.lv/\x.lv<=g.nodes.length
def ND.Alen(x:ND)(h:x.W.length=4):x.A.length=35:=by simp only[ND.A,dZ,aP,h,OpM.len];rfl
def TA(g:PGM)(o:OpM):aK:=[some (.box [.ls 5 (g.cards.map CardM.A),.mp 1,.own 2]),some (.map true (g.I.map Id.K) ((List.range g.I.length).map λi:Nat=>iv (i:Int)) (List.range g.I.length) g.I.length),some (.arr 35 (g.nodes.map ND.A)),some (.box o.A)]
def TN(o:OpM)(W:V_)(a:Int):Option AObj:=some (.box (o.A++((C7 o).A++(oC W++[iv a]))))
def Ob:Hu z4:=⟨rfl,λw a=>by simp[z4]at a;omega⟩
def Q9{g:PGM}(a:g.ok)(x:Id):Hu (g.nd x).W:=by unfold PGM.nd;rw[rH];rcases eD (g.at x) g.nodes.length with h|h;rw[jN h];exact a.ws _ (eQ h);rw[sX h];exact Ob
def aDH(g:PGM)(l:D_)(x:Id):Hg g (l++[x])=Py (Hg g l) (g.at x):=by simp[Hg]
def aDI(g:PGM)(l:D_)(x:Id):Hh g (l++[x])=Kz (Hh g l) (g.nd x).W:=by simp[Hh]
def aAU(g:PGM)(l:D_)(x:Id):G0 g (l++[x])=max (G0 g l) (g.nd x).o.At:=by simp[G0]
def aDJ(g:PGM)(l:D_)(x:Id):Fa g (l++[x])=max (Fa g l) ((g.nd x).lv+1):=by simp[Fa]
def Ss{α:Type}(p:V_->Prop)(f:V_->α->V_)(a:∀W x,p W->p (f W x)):∀(l:List α)(W:V_),p W->p (l.foldl f W)|[],_,h=>h|x::l,W,h=>Ss p f a l (f W x) (a W x h)
def JB(g:PGM)(l:D_):Hu (Hg g l):=Ss Hu _ (λW x h=>ZG h _) l z4 Ob
def JC{g:PGM}(a:g.ok)(l:D_):Hu (Hh g l):=Ss Hu _ (λW x h=>Sp h (Q9 a x)) l z4 Ob
def aKf(o:OpM)(i:Id)(X:O_):(o.A++(i.A++X)).drop 30=X:=Y_
def tk4(W:V_)(h:W.length=4)(X:O_):(oC W++X).take 4=oC W:=TY (by rw[aP,h])
def aDK(o:OpM)(X:O_)(k:Nat)(h:k<27):(o.A++X)[k]?=o.A[k]?:=mY (by rw[OpM.len];exact h)
def aId(o:OpM)(i:Id)(W:V_)(a:AV)(h:W.length=4):(o.A++(i.A++(oC W++[a]))).drop 34=[a]:=by rw[show 34=o.A.length+7 by rw[OpM.len],X3,show 7=i.A.length+4 from rfl,X3,show 4=(oC W).length by rw[aP,h]];simp
def aH6(o:OpM)(i:Id)(W:V_)(a:AV)(h:W.length=4):(o.A++(i.A++(oC W++[a])))[34]?=some a:=by have:=congrArg (λl=>l[0]?) (aId o i W a h);simpa using this
def aKg(o:OpM)(i:Id)(W:V_)(a:AV)(h:W.length=4):(o.A++(i.A++(oC W++[a]))).drop 35=[]:=by have:=congrArg (λl=>l.drop 1) (aId o i W a h);simpa using this
def aKh(o:OpM)(i:Id)(W:V_)(a:AV)(h:W.length=4):(o.A++(i.A++(oC W++[a]))).take 34=o.A++(i.A++oC W):=by rw[(s_:o.A++(i.A++(oC W++[a]))=(o.A++(i.A++oC W))++[a])];exact TY (by simp only[dZ,aP,h,OpM.len];rfl)
def U3{W V:V_}(a:Hu W)(b:Hu V):(Cu W V).length=4:=by unfold Cu;rw[aGC,a.1,b.1];rfl
def aAV(W V:V_)(c:V.length=W.length)(i:Nat)(h:i<W.length):(Cu W V).take (i+1)++W.drop (i+1)=((Cu W V).take i++W.drop i).set i (W.getD i 0 &&& V.getD i 0):=by
 have b:(Cu W V).length=W.length:=by grind[Cu,List.length_zipWith]
 have a:((Cu W V).take i).length=i:=p_;have e:(Cu W V)[i]'o_=W.getD i 0 &&& V.getD i 0:=by grind[Cu]
 rw[lB o_,eB,e,Kc h,aBL _ _ o_,a,YN];rfl
def aNy(o:OpM)(X:O_):(o.A++X).take 27=o.A:=TY (OpM.len o)
def aNz(o:OpM)(a b c:AV)(X:O_):(o.A++(a::b::c::X)).drop 30=X:=Y_
def aNA(o:OpM)(i:Id)(a b c d e:AV):(o.A++i.A++[a,b,c,d,e]).take 34=o.A++(i.A++[a,b,c,d]):=Y_
def aNB(o:OpM)(i:Id)(a b c d e:AV):(o.A++i.A++[a,b,c,d,e]).drop 35=[]:=Y_
def aFO(o:OpM)(X:O_):(o.A++X).drop 27=X:=List.drop_left' (OpM.len o)
def tk3(i:Id)(X:O_):(i.A++X).take 3=i.A:=TY rfl
def TL(g:PGM)(o:OpM)(i:Nat):aK:=TA g o++[TN o z4 (Fa g (o.Past.take i)),some (.box (oC (Hg g (o.Past.take i)))),some (.box (oC (Hh g (o.Past.take i))))]
def mx(a b:Int):(if b>a then b else a)=max a b:=o_
def aNC(o:OpM)(i:Id)(X:O_):(o.A++(i.A++X)).take 30=o.A++i.A:=Y_
def aAW{o:OpM}(h:vF o=0):1<=o.Seq:=(Dv (by rw[<-Aq];exact h)).1
def aKi(o:OpM)(i:Id)(W:V_)(a:AV)(h:W.length=4):(o.A++(i.A++(oC W++[a]))).take 35=o.A++(i.A++(oC W++[a])):=
 sG (by simp only[dZ,aP,h,OpM.len];exact cN _)
def aKj(o:OpM)(i:Id)(W:V_)(a:Int):(o.A++(i.A++(oC W++[iv a]))).all gS=true:=by simp only[YK,OpM.one,mF];simp[Id.A,oC,gS]
def ZJ(o:OpM)(i:Id)(W:V_)(a:Int):(o.A++(i.A++(oC W++[iv a]))).all aX=true:=by simp only[YK,OpM.closed,mF];simp[Id.A,oC,aX]
def TH(g:PGM):aK:=[some (.box [.ls 5 (g.cards.map CardM.A),.mp 1,.own 3]),some (MG g.I),none,some (.arr 35 (g.nodes.map ND.A))]
def aDL(g:PGM)(n:ND):TH ⟨g.cards,g.nodes++[n]⟩=[some (.box [.ls 5 (g.cards.map CardM.A),.mp 1,.own 3]),some (.map true (g.I.map Id.K++[n.id.K]) ((List.range g.I.length).map (λx:Nat=>AV.v (Value.int IntKind.i64 (x:Int)))++[AV.v (Value.int IntKind.i64 (g.nodes.length:Int))]) (List.range g.I.length++[g.I.length]) (g.I.length+1)),none,some (.arr 35 (g.nodes.map ND.A++[n.A]))]:=by
 have hI:PGM.I ⟨g.cards,g.nodes++[n]⟩=g.I++[n.id]:=by simp[PGM.I]
 have a:g.I.length=g.nodes.length:=by simp[PGM.I]
 simp only[TH,MG,hI,dZ,GT,bZ,QH,fG,uP,a]
def aIe(U:GK G)(g:PGM)(o:OpM)(N:g.ok)(M:o.ok):aA PQ G uW [.ptr 0 0,.ag o.A] (TG 0 g) λr T=>r=iv (sR g o).2/\((T=TG 0 (sR g o).1/\(sR g o).1=g)\/T=TH (sR g o).1):=by
 apply aC FL;have hn:=N.n;have aw:=M.past.1;simp only[go_sem,TG,MG];apply cX (Wp U o M);simp only[go_sem];refine aL (λh=>?_) (λh=>?_);simp only[bne_iff_ne,ne_eq]at h;simp only[go_sem,sR,h,true_or];simp only[bne_eq_false_iff_eq]at h;have k1:=h;have e:sR g o=Oa g o:=by grind[sR]
 unfold Oa at e;clear h;apply cB (λs=>s=⟨3,[(3,.ptr 3 0),(0,.ptr 0 0)],TA g o⟩) (by simp only[go_sem,TA]);rintro s rfl;rw[bC];refine cB (λs=>s=⟨3,[(0,.ptr 0 0),(3,.ptr 3 0),(6,.ptr 4 0)],TA g o++[TN o z4 1]⟩) ?_ ?_
 ·simp only[go_sem,TA];refine And.intro ?_ ?_
  all_goals refine cX (ZH o M) ?_
  all_goals simp only[go_sem]
  all_goals try with_reducible refine And.intro ?_ ?_
  all_goals refine cX (aFD o M) ?_
  all_goals simp only[go_sem,aNy,aNz,aNA,aNB,TN,jO,YK,aBY,gS]
  all_goals rfl
 rintro s rfl;have l:z4.length=4:=rfl;have q:30<=27+(3+(4+1)):=d_;have hk:=AL (C7 o);have F:=qH (C7 o) g.I 0;by_cases hx:C7 o∈g.I;rw[e,if_pos hx];obtain⟨j,h1,h2,_⟩:=dG hx;rw[h1]at F;have gv:=yC g.I.length j h2;simp only[iX,mG]at F;simp only[go_sem,TA,TN,aFO,tk3,l,q,F,gv,true_or];rw[eG hx]at F;rw[if_neg hx]at e;simp only[xD]at F;rw[bC];refine cB (λs=>s=⟨3,[(0,.ptr 0 0),(3,.ptr 3 0),(6,.ptr 4 0)],TA g o++[TN o z4 1]⟩) ?_ ?_;simp only[go_sem,TA,TN,aFO,tk3,l,q,F];rintro s rfl;have H:decide ((200:Int)<=(g.nodes.length:Int))=decide (200<=g.nodes.length):=m_;simp only[go_sem,TA,TN,aP,ge_iff_le,H];refine aL (λh=>?_) (λh=>?_)<;>simp only[decide_eq_true_eq,decide_eq_false_iff_not]at h;rw[e,if_pos h];simp only[go_sem,true_or];rw[if_neg h]at e;have au:=h;clear h H;simp only[go_sem];apply aG [0,1,2] (aB _) d_ s_ rfl y_ (ZI g o.By N.cn);rintro r T' ⟨rfl,rfl⟩;simp only[go_sem,TG,MG,CardM.A_def];cases hc:(gM g.cards o.By).2;rw[e,if_pos hc];simp only[go_sem,true_or];rw[if_neg (by simp[hc])]at e;have aq:=Uw (d:=o.By) N.cs;generalize(gM g.cards o.By).1=c at *
 simp only[go_sem];apply cX (aDq c o M aq);simp only[go_sem];cases aa:((o.By==c.Device)&&BW c.Sign o.B o.SR o.SS);rw[e,if_pos aa];simp only[go_sem,true_or];rw[if_neg (by simp[aa])]at e;have E:decide ((g.nodes.length:Int)>0)=decide (0<g.nodes.length):=s_;refine cB (λs=>s=⟨3,[(0,.ptr 0 0),(3,.ptr 3 0),(6,.ptr 4 0)],TA g o++[TN o z4 1,some (.box [iv c.Device,iv c.Member,uv c.Lead,uv c.Keep,uv c.Sign])]⟩) ?_ ?_;rfl;rintro s rfl;rw[bC];refine cB (λs=>s=⟨3,[(0,.ptr 0 0),(3,.ptr 3 0),(6,.ptr 4 0)],TA g o++[TN o z4 1,some (.box [iv c.Device,iv c.Member,uv c.Lead,uv c.Keep,uv c.Sign])]⟩/\((o.Kind==1)&&decide (0<g.nodes.length))=false) ?_ ?_;cases U:(o.Kind==1);simp only[go_sem,TA,TN,U,undef];cases h2:decide (0<g.nodes.length);simp only[go_sem,TA,TN,aP,E,U,h2];rw[e,if_pos (by rw[U,h2];rfl)];simp only[go_sem,TA,TN,aP,E,U,h2,true_or];rintro s ⟨rfl,ap⟩;rw[if_neg (by simp[ap])]at e;simp only[go_sem,TA,TN];apply aG [0,1,2] (aB _) d_ s_ rfl y_ (aFN g o M);rintro r T' ⟨rfl,rfl⟩;have dl:decide (((CQ g o).length:Int)>0)=decide (0<(CQ g o).length):=s_;simp only[go_sem,TG,MG,aP,dl];refine aL (λh=>?_) (λh=>?_)<;>simp only[decide_eq_true_eq,decide_eq_false_iff_not]at h;rw[e,if_pos h];simp only[go_sem,true_or];rw[if_neg h]at e;have ao:∀x∈o.Past,x∈g.I:=by intro x al;have h0:CQ g o=[]:=Ae o_;have:=List.filter_eq_nil_iff.1 h0 x al;simpa using this
 clear h dl;simp only[go_sem];refine aQ o.Past.length (λi=>⟨3,[(0,.ptr 0 0),(3,.ptr 3 0),(6,.ptr 4 0),(11,.ptr 5 0),(12,.ptr 6 0),(13,iv (G0 g (o.Past.take i))),(80,ids o.Past),(81,iv o.Past.length),(82,iv i)],TL g o i⟩) (λ_=>True) ?_ trivial ?_ ?_;simp only[go_sem,TA,TN,TL,uQ,Hg,Hh,G0,Fa,Kk,z4];rfl;intro i p _;have C:=fQ i o_;have g0:(o.Past.map Id.A)[i]?=some o.Past[i].A:=aO _ o.Past i p;have am:=ao _ (eQ p);obtain⟨j,f1,f2,_⟩:=dG am;have ft:=lB p;have ax:=AL o.Past[i];have O:=qH o.Past[i] g.I 0;rw[f1]at O;simp only[iX,mG]at O;have gv:=yC g.I.length j f2;have u:j<g.nodes.length:=by grind[PGM.I]
 have ac:g.at o.Past[i]=j:=by grind[PGM.at]
 have ab:g.nd o.Past[i]=g.nodes[j]:=by grind[PGM.nd]
 have Q:(g.nodes.map ND.A)[j]?=some (g.nodes[j].o.A++(g.nodes[j].id.A++(oC g.nodes[j].W++[iv g.nodes[j].lv]))):=aO _ g.nodes j u;have av:=N.lv _ (eQ u);have Z:=N.ws _ (eQ u);have eP:=aDH g (o.Past.take i) o.Past[i];have eA:=aDI g (o.Past.take i) o.Past[i];have eL:=aAU g (o.Past.take i) o.Past[i];have eV:=aDJ g (o.Past.take i) o.Past[i];rw[<-ft,ac]at eP;rw[<-ft,ab]at eA eL eV;have J:=JB g (o.Past.take i);have K:=JC N (o.Past.take i);simp only[TL];generalize Hg g (o.Past.take i)=f at *
 generalize Hh g (o.Past.take i)=k at *
 generalize G0 g (o.Past.take i)=la at *
 generalize Fa g (o.Past.take i)=t at *
 clear ac ab;generalize g.nodes[j]=x at *
 have w1:IntKind.i64.wrap (x.lv+1)=x.lv+1:=aJ o_ o_;have L:=Z.1;simp only[go_sem,TA,TN,aP,aT p,g0,O,gv,u];apply aG (T2:=[some (.box (oC f))]) [5] (aB _) d_ s_ rfl i_ (aAP f j J o_);rintro r T' rfl;have ak:34<=27+(3+(4+1)):=d_;simp only[go_sem,aP,Q,aKf,tk4 _ L,L,ak];apply aG (T2:=[some (.box (oC k))]) (args2:=[.ptr 0 0,.ag (oC x.W)]) [6] (aB _) d_ s_ i_ i_ (W8 k x.W K Z);rintro r T' rfl;simp only[go_sem,TA,TN,l,TL,aP,Q,aDK,aH6 _ _ _ _ L,aH6 _ _ _ _ l,aKh _ _ _ _ l,aKg _ _ _ _ l,w1,C,eP,eA,eL,eV,mx,eB];intro _;rw[dE];have J:=JB g o.Past;have K:=JC N o.Past;unfold Q8 MQ BF at e;have ad:TL g o o.Past.length=TA g o++[TN o z4 (Fa g o.Past),some (.box (oC (Hg g o.Past))),some (.box (oC (Hh g o.Past)))]:=by rw[TL,dE]
 rw[ad];clear ad;generalize Hg g o.Past=f at *
 generalize Hh g o.Past=k at *
 generalize Fa g o.Past=t at *
 generalize G0 g o.Past=la at *
 have P:=J.1;have af:=K.1;have tP:(oC f).take 4=oC f:=sG (by rw[aP,P];decide);have tA:(oC k).take 4=oC k:=sG (by rw[aP,af];decide);have ai:(oC f).all gS=true:=by simp[oC,gS]
 simp only[go_sem,TA,TN,aP,aS (bP _),P,tP,ai];have an:=U3 J K;refine aQ 4 (λi=>⟨3,[(0,.ptr 0 0),(3,.ptr 3 0),(6,.ptr 4 0),(11,.ptr 5 0),(12,.ptr 6 0),(13,iv la),(17,.ptr 7 0),(127,iv i)],TA g o++[TN o z4 t,some (.box (oC f)),some (.box (oC k)),some (.box (oC ((Cu f k).take i++f.drop i)))]⟩) (λ_=>True) ?_ trivial ?_ ?_;simp only[go_sem,TA,TN,uQ,TZ,dM];intro i p _;have C:=fQ i o_;have hX:((Cu f k).take i++f.drop i).length=4:=p_;have gX:((Cu f k).take i++f.drop i).getD i 0=f.getD i 0:=m_;have eX:=aAV f k o_ i o_;have a1:=J5 (f.getD i 0) (k.getD i 0) (AJ J _) (AJ K _);have gv:=Dw k i o_;generalize az:(Cu f k).take i++f.drop i=X at *
 have gx:=Dw X i o_;rw[gX]at gx;have es:(oC X).take i++[uv (f.getD i 0 &&& k.getD i 0)]++(oC X).drop (i+1)=oC (X.set i (f.getD i 0 &&& k.getD i 0)):=by show _=(X.set i (f.getD i 0 &&& k.getD i 0)).map λw=>uv w;rw[Ba,aGB,if_pos (by rw[aP,hX];exact p),eB];rfl
 have d1:decide ((i:Int)<4)=true:=decide_eq_true o_;have i1:(i:Int)<4:=o_;simp only[go_sem,TA,TN,aP,i1,hX,gx,gv,↓a1,es,C,eX,Bb,pQ,(o_:i<=3)];intro _;rw[sG o_,LB o_,jO];obtain⟨b0,b1,b2,V,hb⟩:∃a b c d:Nat,Cu f k=[a,b,c,d]:=by
  match h:Cu f k,an with
  |[a,b,c,d],_=>exact⟨a,b,c,d,rfl⟩
 rw[hb]at e⊢;have e4:((b0:Int)==0&&((b1:Int)==0&&((b2:Int)==0&&(V:Int)==0)))=([b0,b1,b2,V]==z4):=by rw[CT];simp[z4]
 cases R:([b0,b1,b2,V]==z4);rw[e,if_pos (by rw[R];rfl)];simp only[go_sem,TA,TN,e4,R,undef,true_or];cases hl:decide (o.At<la);rotate_left;rw[e,if_pos (by rw[R,hl];rfl)];simp only[go_sem,TA,TN,e4,R,hl,true_or];rw[if_neg (by rw[R,hl];decide)]at e;have aj:(oC k).all gS=true:=by simp[oC,gS]
 simp only[go_sem,TA,TN,l,e4,R,hl,af,tA,aId _ _ _ _ l,aNC,aj,P,tP];apply aG (T2:=[some (.box ((o.A++(C7 o).A)++(oC k++[iv t])))]) (args2:=[.ptr 0 30,.ag (oC f)]) [4] (aB _) d_ s_ i_ (by simp only[go_sem,eB]) (K1 (o.A++(C7 o).A) [iv t] 30 (by rw[dZ,OpM.len];rfl) k f K J i_ rfl);rintro r T' rfl;have ae:=Sp K J;generalize Kz k f=m at *
 simp only[go_sem,eB];have z:=ae.1;have w2:IntKind.i64.wrap (o.Seq-1)=o.Seq-1:=aJ (by have:=aAW k1;omega) (by have:=(M.ints o.Seq s_).2;omega);refine aQ g.nodes.length (λi=>⟨3,[(0,.ptr 0 0),(3,.ptr 3 0),(6,.ptr 4 0),(19,iv (BY g.nodes o m i).1),(20,.v (.bool (BY g.nodes o m i).2)),(157,iv g.nodes.length),(158,iv i)],TA g o++[TN o m t]⟩) (λ_=>True) ?_ trivial ?_ ?_;simp only[go_sem,TA,TN,BY];intro i p _;have C:=fQ i o_;have Q:(g.nodes.map ND.A)[i]?=some (g.nodes[i].o.A++(g.nodes[i].id.A++(oC g.nodes[i].W++[iv g.nodes[i].lv]))):=aO _ g.nodes i p;have gd:g.nodes.getD i XD=g.nodes[i]:=by rw[rH,jN p];rfl
 have D:BY g.nodes o m (i+1)=if((g.nodes[i].o.By==o.By)&&qK m i) then(max (BY g.nodes o m i).1 g.nodes[i].o.Seq,(BY g.nodes o m i).2||(g.nodes[i].o.Seq==o.Seq-1)) else BY g.nodes o m i:=by rw[BY,gd]
 generalize BY g.nodes o m (i+1)=S1 at *
 generalize BY g.nodes o m i=S at *
 obtain⟨Y,ah⟩:=S;clear gd;generalize g.nodes[i]=x at *
 cases y:(x.o.By==o.By);rw[y,lR,if_neg d_]at D;simp only[go_sem,TA,TN,aP,aT p,p,Q,aDK,y,undef,C,D];rw[y,mF]at D;simp only[go_sem,TA,TN,aP,aT p,p,Q,aDK,y];apply aG (T2:=[some (.box ((o.A++(C7 o).A)++(oC m++[iv t])))]) (args2:=[.ptr 0 30,iv i]) [4] (aB _) d_ s_ i_ (by simp only[go_sem,eB]) (aAQ (o.A++(C7 o).A) [iv t] 30 (by rw[dZ,OpM.len];rfl) m i ae o_ i_ rfl);rintro r T' ⟨rfl,rfl⟩;cases hh:qK m i;rw[hh,if_neg d_]at D;simp only[go_sem,TA,TN,eB,C,D];rw[hh,if_pos rfl]at D;cases ah;simp only[go_sem,TA,TN,eB,Q,aDK,C,D,w2,mx];simp only[go_sem,TA,TN,eB,Q,aDK,C,D,mx,undef];intro _;generalize BY g.nodes o m g.nodes.length=S at *
 obtain⟨Y,ah⟩:=S;have ay:(g.nodes.map ND.A).length=g.nodes.length:=aP _;cases h1:decide (o.Seq<=Y);rotate_left;rw[if_pos s7]at e;rw[e];simp only[go_sem,TA,TN,aS (bP _),ge_iff_le,h1,undef,true_or];have ar:∀V:Bool,decide (1<o.Seq)=V->(V=true->ah=false)->True:=λ_ _ _=>trivial;clear ar;cases h2:decide (1<o.Seq);rw[if_neg (by simp[h1,h2])]at e;rw[e];simp only[go_sem,TA,TN,aFO,tk3,q,aP,aS (bP _),ge_iff_le,gt_iff_lt,h1,h2,undef,z,F,aKi _ _ _ _ z,aKj,ZJ,(g_:g.nodes.length+1<=maxLen),(o_:(g.nodes.length+1)*392<=140737488355328)];exact .inr (aDL g ⟨o,C7 o,m,t⟩).symm;cases ah;rw[if_pos (by simp[h1,h2])]at e;rw[e];simp only[go_sem,TA,TN,aS (bP _),ge_iff_le,gt_iff_lt,h1,h2,true_or];rw[if_neg (by simp[h1,h2])]at e;rw[e];simp only[go_sem,TA,TN,aFO,tk3,q,aP,aS (bP _),ge_iff_le,gt_iff_lt,h1,h2,undef,z,F,aKi _ _ _ _ z,aKj,ZJ,(g_:g.nodes.length+1<=maxLen),(o_:(g.nodes.length+1)*392<=140737488355328)];exact .inr (aDL g ⟨o,C7 o,m,t⟩).symm
def Su(g:PGM)(x:Id):Int:=if x∈g.I then(g.nd x).lv else 0
def P0(g:PGM)(x y:Id):Bool:=decide (Su g x<Su g y)||(decide (Su g x=Su g y)&&x.lt y)
def aFP{g:PGM}{x y:Id}(h:P0 g x y=false)(k:P0 g y x=false):x=y:=by
 simp only[P0,YE,aBM,decide_eq_false_iff_not]at h k;have e:Su g x=Su g y:=o_;exact Id.lt_total (h.2.resolve_left o_) (k.2.resolve_left o_)
def aAX{g:PGM}{x y:Id}(h:P0 g x y=true):P0 g y x=false:=by
 simp only[P0,Ec,zJ,decide_eq_true_eq,YE,aBM,decide_eq_false_iff_not]at h⊢;rcases h with h|⟨h1,h2⟩
 omega;exact⟨o_,.inr (Id.lt_asymm h2)⟩
def XE{g:PGM}{x y z:Id}(h:P0 g y x=false)(k:P0 g z y=false):P0 g z x=false:=by simp only[P0,YE,aBM,decide_eq_false_iff_not]at h k⊢;refine⟨o_,?_⟩;by_cases e:Su g z=Su g x;exact .inr (Id.nlt_trans (k.2.resolve_left o_) (h.2.resolve_left o_));exact .inl e
def eO(g:PGM)(l:D_):D_:=l.mergeSort λx y=>!(P0 g y x)
def mE(g:PGM)(l:D_):(eO g l).Perm l:=H4 l _
def aDM(g:PGM)(l:D_):(eO g l).length=l.length:=(mE g l).length_eq
def U4(g:PGM)(l:D_):(eO g l).Pairwise λx y=>P0 g y x=false:=by
 have:=List.pairwise_mergeSort (le:=λx y=>!(P0 g y x)) (λa b c h1 h2=>by simp only[EX]at *;exact XE h1 h2)
  (λa b=>by
   cases h:P0 g b a with
   |false=>simp|true=>simp[aAX h]) l
 refine this.imp λh=>?_;simpa using h
def aJd {g:PGM}:∀{l m:D_},l.Perm m->l.Pairwise (λx y=>P0 g y x=false)->m.Pairwise (λx y=>P0 g y x=false)->l=m
 |[],m,a,_,_=>(List.nil_perm.1 a).symm ▸ rfl
 |x::l,[],a,_,_=>absurd a.length_eq s_
 | x::l,y::m,a,h1,h2=>by
  obtain⟨i,h⟩:=H5.1 h1;obtain⟨f,d⟩:=H5.1 h2;have e:x=y:=by have c:x∈y::m:=a.mem_iff.1 s_;have b:y∈x::l:=a.mem_iff.2 s_;rcases cS.1 c with e|c;exact e;rcases cS.1 b with e|b;exact e.symm;exact aFP (f x c) (i y b)
  subst e;rw[aJd (List.perm_cons x |>.1 a) h d]
def B2(g:PGM)(x y:Id):Int:=nF [wG (Su g x) (Su g y),if x.lt y then -1 else if y.lt x then 1 else 0]
def U5{g:PGM}{x y:Id}(h:P0 g x y=true):B2 g x y=-1:=by simp only[P0,Ec,zJ,decide_eq_true_eq]at h;grind[B2,wG,nF]
def aDN{g:PGM}{x y:Id}(h:P0 g y x=true):B2 g x y=1:=by
 simp only[P0,Ec,zJ,decide_eq_true_eq]at h;rcases h with h|⟨h1,h2⟩
 grind[B2,wG,nF];simp[B2,wG,nF,h1,h2,Id.lt_asymm h2]
theorem aDO(g:PGM)(x:Id):B2 g x x=0:=by simp[B2,wG,nF,Id.lt_irrefl]
def aKk(n:ND)(h:n.W.length=4):n.A[34]?=some (iv n.lv):=by simp_all[ND.A,OpM.len,oC,Id.A]
def RA{g:PGM}{x:Id}{j:Nat}(h:g.I.findIdx? (λy=>decide (y=x))=some j):g.nd x=g.nodes.getD j XD:=by simp[PGM.nd,PGM.at,h]
def GL(g:PGM)(f:g.ok)(x:Id):aA PQ G nC [.ptr 0 0,.ag x.A] (TG 0 g) λr T=>r=iv (Su g x)/\T=TG 0 g:=by
 apply aC Dk;have l:=AL x;have a:=qH x g.I 0;by_cases b:x∈g.I;obtain⟨j,h1,h2,_⟩:=dG b;have d:=RA h1;rw[h1]at a;have h:=yC g.I.length j h2;have e:j<g.nodes.length:=by grind[PGM.I]
 have i:(g.nodes.map ND.A)[j]?=some (g.nd x).A:=h_;have c:=(Q9 f x).1;have k:=aKk (g.nd x) c;have m:=ND.Alen (g.nd x) c;simp only[iX,mG]at a;simp only[Su,if_pos b];generalize(g.nd x)=n at *
 simp only[go_sem,TG,MG,a,h,aP,e,i,k];rw[eG b]at a;simp only[xD]at a;simp only[go_sem,TG,MG,a,Su,if_neg b]
def RB(g:PGM)(b:g.ok)(x y:Id):aA PQ G lL [.ag [.ptr 0 0],.ag x.A,.ag y.A] (TG 0 g) λr T=>r=iv (B2 g x y)/\T=TG 0 g:=by refine aC EP ?_;simp only[go_sem,TG,MG];apply cX (Cm x y);simp only[go_sem];refine aL (λh=>?_) (λh=>?_);rotate_left;simp only[go_sem];apply cX (Cm y x);simp only[go_sem];refine aL (λh2=>?_) (λh2=>?_);simp only[go_sem];apply aG [0,1,2] (aB _) d_ s_ i_ y_ (GL g b x);rintro r a ⟨rfl,rfl⟩;simp only[go_sem,TG,MG];apply aG [0,1,2] (aB _) d_ s_ i_ y_ (GL g b y);rintro r a ⟨rfl,rfl⟩;simp only[go_sem,TG,MG];apply cX (kB _ _);simp only[go_sem];apply cH (aB _) rfl rfl (AC [wG (Su g x) (Su g y),1] (by simp[maxLen]));rintro r a ⟨rfl,rfl⟩;refine⟨x_,s_,?_⟩;simp only[go_sem,B2,h,h2,jJ];simp only[go_sem];apply aG [0,1,2] (aB _) d_ s_ i_ y_ (GL g b x);rintro r a ⟨rfl,rfl⟩;simp only[go_sem,TG,MG];apply aG [0,1,2] (aB _) d_ s_ i_ y_ (GL g b y);rintro r a ⟨rfl,rfl⟩;simp only[go_sem,TG,MG];apply cX (kB _ _);simp only[go_sem];apply cH (aB _) rfl rfl (AC [wG (Su g x) (Su g y),0] (by simp[maxLen]));rintro r a ⟨rfl,rfl⟩;refine⟨x_,s_,?_⟩;simp only[go_sem,B2,h,h2,jJ];simp only[go_sem];apply aG [0,1,2] (aB _) d_ s_ i_ y_ (GL g b x);rintro r a ⟨rfl,rfl⟩;simp only[go_sem,TG,MG];apply aG [0,1,2] (aB _) d_ s_ i_ y_ (GL g b y);rintro r a ⟨rfl,rfl⟩;simp only[go_sem,TG,MG];apply cX (kB _ _);simp only[go_sem];apply cH (aB _) rfl rfl (AC [wG (Su g x) (Su g y),-1] (by simp[maxLen]));rintro r a ⟨rfl,rfl⟩;refine⟨x_,s_,?_⟩;simp only[go_sem,B2,h,jJ]
def K2{g:PGM}{l:D_}(c:l.Nodup):(eO g l).Pairwise λx y=>P0 g x y=true:=by
 have h1:=U4 g l;have h2:(eO g l).Pairwise (· ≠ ·):=(mE g l).nodup_iff.2 c;refine(h1.and h2).imp ?_;rintro x y ⟨a,b⟩
 cases h:P0 g x y with
 |true=>rfl|false=>exact absurd (aFP h a) b
def aFQ{g:PGM}(j:g.ok){l:D_}(i:l.Nodup):rF G g (Gf (eO g l)) lL (eO g l).length:=by
 intro a b d c;have e:=QD.1 (K2 (g:=g) i);have ea:Gf (eO g l) a=(eO g l)[a]:=by simp[Gf,rH,d]
 have k:Gf (eO g l) b=(eO g l)[b]:=by simp[Gf,rH,c]
 have f:B2 g (Gf (eO g l) a) (Gf (eO g l) b)=XA a b:=by rw[ea,k];unfold XA;rcases aGJ a b with h|h|h;rw[if_pos h,U5 (e a b d c h)];grind[aDO];rw[if_neg o_,if_pos h,aDN (e b a c d h)]
 have:=RB (G:=G) g j (Gf (eO g l) a) (Gf (eO g l) b);simp_all
def aDP(g:PGM)(c:g.ok)(l:D_)(a:l.Nodup)(b:l.length<=60000):aA PQ G mJ [.ptr 0 0,ids l] (TG 0 g) λr T=>r=.own 3/\T=TG 0 g++[some (.arr 3 ((eO g l).map Id.A))]:=by refine aC LS ?_;simp only[go_sem,TG,MG];apply kM (MO l o_);simp only[go_sem];apply aG [3,0,1,2] (aB _) d_ s_ f_ y_ (aIc ((mE g l).nodup_iff.2 a) (mE g l).symm b (aFQ c a));rintro r d ⟨rfl,rfl⟩;simp only[go_sem,TG,MG]
def ZK(g:PGM)(c:g.ok)(l:D_)(a:l.Nodup)(b:l.length<=60000):aA PQ G mJ [.ptr 0 0,ids l] (TG 0 g) λr T=>r=ids (eO g l)/\T=TG 0 g:=by refine(aDP g c l a b).fin [3] ?_;rintro r d ⟨rfl,rfl⟩;simp only[go_sem,TG,MG]
def P1:O_:=[iv 0,iv 0,iv 0,iv 0,.v (.slice none 0 0),iv 0,iv 0,iv 0,iv 0,.v (.slice none 0 0),iv 0,iv 0,.v (.int .u64 0),iv 0,.v (.slice none 0 0),.v (.slice none 0 0),iv 0,iv 0,.v (.int .u64 0),.v (.slice none 0 0),iv 0,iv 0,.v (.slice none 0 0),.v (.int .u64 0),.v (.slice none 0 0),.v (.int .u64 0),.v (.int .u64 0)]
def ndT(n:ND):n.A.take 27=n.o.A:=Y_
def aFR{g:PGM}(c:g.ok){x:Id}(b:x∈g.I):(g.nd x).o.ok:=by
 obtain⟨j,h1,h2,_⟩:=dG b;have a:j<g.nodes.length:=by grind[PGM.I]
 rw[RA h1,rH,jN a];exact c.ops _ (eQ a)
def aDQ(g:PGM)(c:g.ok)(x:Id)(b:x∈g.I):aA PQ G bY [.ptr 0 0,.ag x.A] (TG 0 g) λr T=>r=.tup [.ag (g.nd x).o.A,.v (.bool true)]/\T=TG 0 g:=by
 apply aC yZ;have p:=AL x;have a:=qH x g.I 0;obtain⟨j,h1,h2,_⟩:=dG b;have e:=RA h1;rw[h1]at a;have i:=yC g.I.length j h2;have f:j<g.nodes.length:=by grind[PGM.I]
 have k:(g.nodes.map ND.A)[j]?=some (g.nd x).A:=h_;have h:=(Q9 c x).1;have m:=ND.Alen (g.nd x) h;have l:=ndT (g.nd x);have d:=aFR c b;simp only[iX,mG]at a;generalize(g.nd x)=n at *
 simp only[go_sem,TG,MG,a,i,aP,f,k,m,l];apply cX (ZH n.o d);simp only[go_sem]
def aAY(g:PGM)(x:Id)(b:x∉g.I):aA PQ G bY [.ptr 0 0,.ag x.A] (TG 0 g) λr T=>r=.tup [.ag P1,.v (.bool false)]/\T=TG 0 g:=by refine aC yZ ?_;have c:=AL x;have a:=qH x g.I 0;rw[eG b]at a;simp only[xD]at a;simp only[go_sem,TG,MG,a,P1]
def oH(g:PGM)(x y:Id):Bool:=decide (x∈g.I)&&(decide (y∈g.I)&&qK (g.nd y).W (g.at x))
def XF(es:N_)(j p:Nat)(c post:O_)(q:c.length=p)(W:V_)(n:Nat)(d:Hu W)(w:n<256)(t:es[j]?=some (c++(oC W++post))):aA PQ G pE [.elt 0 35 j p,iv n] [some (.arr 35 es)] λr T=>r=.v (.bool (qK W n))/\T=[some (.arr 35 es)]:=by
 apply aC Ar;have l:bV .quo (.int .i64 (n:Int)) (.int .i64 64)=some (.int .i64 ((n/64:Nat):Int)):=J6 n 64 d_ o_;have q2:bV .rem (.int .i64 (n:Int)) (.int .i64 64)=some (.int .i64 ((n%64:Nat):Int)):=J7 n 64 d_;have s:n%64<64:=zM _ d_;have h:n/64<4:=o_;have f:=AJ d (n/64);have k:=Q4 (W.getD (n/64) 0) (n%64) s f;have u:bV .and (.int .u64 ((W.getD (n/64) 0/2^(n%64):Nat):Int)) (.int .u64 1)=some (.int .u64 ((W.getD (n/64) 0/2^(n%64) &&& 1:Nat):Int)):=J5 _ 1 (QJ (Ml _ _) f) d_;have t1:=K0 (W.getD (n/64) 0) (n%64);have i:=Sq c (oC W) post (n/64) (by rw[aP,d.1];exact h);rw[Dw W (n/64) (by rw[d.1];exact h),q]at i;have o:(0:Int)<=((n/64:Nat):Int):=o_;have m:((n/64:Nat):Int)<4:=o_;have g:qK W n=(W.getD (n/64) 0).testBit (n%64):=rfl;rw[g,<-t1];clear t1 g;generalize n/64=a at *
 generalize n%64=b at *
 generalize c++(oC W++post)=e at *
 simp only[go_sem,↓l,↓q2,↓k,↓u,o,m,i,t,Bb,pQ]
def aDR (g:PGM) (i:g.ok) (x y:Id):aA PQ G eZ [.ptr 0 0,.ag x.A,.ag y.A] (TG 0 g) λr T=>r=.v (.bool (oH g x y))/\T=TG 0 g:=by
 apply aC Cv;have s:=AL x;have q:=AL y;have b:=qH x g.I 0;have a:=qH y g.I 0;by_cases h1:x∈g.I;obtain⟨j,m,p,_⟩:=dG h1;have l:=yC g.I.length j p;rw[m]at b;simp only[iX,mG]at b;by_cases h2:y∈g.I;obtain⟨k,d,e,_⟩:=dG h2;have h:=yC g.I.length k e;rw[d]at a;simp only[iX,mG]at a;have f:k<g.nodes.length:=by grind[PGM.I]
 have z:j<g.nodes.length:=by grind[PGM.I]
 have w:=i.n;have u:(g.nodes.map ND.A)[k]?=some ((g.nd y).o.A++(g.nd y).id.A++(oC (g.nd y).W++[iv (g.nd y).lv])):=by rw[gE,jN f,RA d,rH,jN f];rfl
 have c:oH g x y=qK (g.nd y).W j:=by unfold oH;rw[decide_eq_true h1,decide_eq_true h2,show g.at x=j by simp[PGM.at,m]];rfl
 rw[c];have t:=XF (G:=G) (g.nodes.map ND.A) k 30 ((g.nd y).o.A++(g.nd y).id.A) [iv (g.nd y).lv] (by rw[dZ,OpM.len];rfl) (g.nd y).W j (Q9 i y) o_ u;simp only[go_sem,TG,MG,b,a,l,h,aP,f];apply aG [2] (aB _) d_ s_ rfl rfl t;rintro r B ⟨rfl,rfl⟩;simp only[go_sem];rw[eG h2]at a;simp only[xD]at a;have c:oH g x y=false:=by grind[oH]
 rw[c];simp only[go_sem,TG,MG,b,a,l];rw[eG h1]at b;simp only[xD]at b;have c:oH g x y=false:=by grind[oH]
 rw[c];by_cases h2:y∈g.I;obtain⟨k,d,e,_⟩:=dG h2;have h:=yC g.I.length k e;rw[d]at a;simp only[iX,mG]at a;simp only[go_sem,TG,MG,b,a,h];rw[eG h2]at a;simp only[xD]at a;simp only[go_sem,TG,MG,b,a]
def aAZ(g:PGM)(a:g.ok):aA PQ G kJ [.ptr 0 0] (TG 0 g) λr T=>r=.ls 5 (g.cards.map CardM.A)/\T=TG 0 g:=by refine aC D0 ?_;have b:=a.cn;simp only[go_sem,TG,MG];apply cX (BB _ M_);simp only[go_sem]
def U6(cs:List CardM)(o:OpM)(d:Int):Bool :=
 if o.Kind==13 then d==o.Old else if o.Device !=0 then d==o.Device else(gM cs d).2&&((gM cs d).1.Member==o.Member)
def Oh(cs:List CardM)(a b:OpM):Bool :=
 if a.Kind==3||a.Kind==13 then !((a.Kind==13&&b.Kind==12)&&decide (a.Of=b.Of))&&U6 cs a b.By else
 if a.Kind==12 then(b.Kind==13&&decide (b.Of=a.Of))&&decide (a.At<=b.At) else false
def lA(g:PGM)(x y:Id):Bool :=
 decide (x∈g.I)&&(decide (y∈g.I)&&(!decide (x=y)&&(!oH g y x&&(!oH g x y&&Oh g.cards (g.nd x).o (g.nd y).o))))
def aFS(g:PGM)(c:g.ok)(o:OpM)(d:Int):aA PQ G Bj [.ptr 0 0,.ag o.A,iv d] (TG 0 g) λr T=>r=.v (.bool (U6 g.cards o d))/\T=TG 0 g:=by refine aC Oe ?_;unfold U6;have b:=ZI (G:=G) g d (by have:=c.cn;omega);simp only[go_sem,TG,MG]at b⊢;cases f:(o.Kind==13);cases a:(o.Device !=0);simp only[go_sem,a];apply aG [0,1,2] (aB _) d_ s_ i_ i_ b;rintro r h ⟨rfl,rfl⟩;cases e:(gM g.cards d).2;simp only[go_sem,CardM.A_def,undef];simp only[go_sem,CardM.A_def];simp only[go_sem,a];simp only[go_sem]
def CardM.K(c:CardM):C_:=[.int .i64 c.Device,.int .i64 c.Member,.int .u64 c.Lead,.int .u64 c.Keep,.int .u64 c.Sign]
def aIf(x y:CardM):Int:=x.Device-y.Device
def uE(l:List CardM):List CardM:=l.mergeSort λx y=>decide (x.Device<=y.Device)
structure cardsOk(l:List CardM):Prop where
 n:l.length<=1000
 ne:l≠[]
 cs:∀c∈l,c.ok
 dv:∀c∈l,0<=c.Device/\c.Device<=1000
 un:∀c∈l,∀d∈l,c.Device=d.Device->c=d
def BI{l:List CardM}{c:CardM}:c∈uE l↔c∈l:=(H4 l _).mem_iff
def XJ(l:List CardM):(uE l).length=l.length:=(H4 l _).length_eq
def VA{l:List CardM}(h:∀c∈l,∀d∈l,c.Device=d.Device->c=d)(x:Int)(c:CardM):l.find? (λc=>c.Device==x)=some c↔(c∈l/\c.Device=x):=by
 constructor;grind;rintro⟨a,b⟩
 cases e:l.find? (λc=>c.Device==x) with
 |none=>exact absurd (Eb.1 e c a) (by simp[b])|some d=>
  grind
def XK{l:List CardM}(h:cardsOk l)(d:Int):gM (uE l) d=gM l d:=by
 have:(uE l).find? (λc=>c.Device==d)=l.find? (λc=>c.Device==d):=by
  cases e:l.find? (λc=>c.Device==d) with
  |none=>
   rw[Eb]at e⊢;intro c a;exact e c (BI.1 a)
  |some c=>
   rw[VA h.un]at e;rw[VA (λc a d b=>h.un c (BI.1 a) d (BI.1 b))];exact⟨BI.2 e.1,e.2⟩
 grind[gM]
def aFU(x y:CardM)(b:0<=x.Device/\x.Device<=1000)(a:0<=y.Device/\y.Device<=1000):aA PQ G tG [.ag x.A,.ag y.A] [] λr T=>r=iv (aIf x y)/\T=[]:=by refine aC Jv ?_;have w:IntKind.i64.wrap (x.Device-y.Device)=x.Device-y.Device:=aJ o_ o_;simp only[go_sem,CardM.A_def,w,aIf]
def aFV(l:List CardM)(e:cardsOk l):aA PQ G kK [.own 0,.cl tG []] [some (.arr 5 (l.map CardM.A))] λr T=>r=.tup []/\T=[some (.arr 5 ((uE l).map CardM.A))]:=by
 let α:={c:CardM // c∈l}
 have:Inhabited α:=⟨⟨l.head e.ne,List.head_mem e.ne⟩⟩
 let cf:α->α->Int:=λx y=>aIf x.1 y.1;have d:∀x y:α,Go.Proofs.ltOf cf x y=decide (x.1.Device<y.1.Device):=by intro x y;unfold Go.Proofs.ltOf;show decide (x.1.Device-y.1.Device<0)=_;simp_all;omega
 have f:=SW (α:=α) (k:=5) (enc:=λc=>c.1.K) Go.Proofs.Tryz.laysSortC Go.Proofs.Tryz.isAgg103 Go.Proofs.Tryz.sizeOf103 (λ_=>rfl) (λx v h=>by simp[CardM.K]at h;rcases h with rfl|rfl|rfl|rfl|rfl<;>rfl)
  (λx c i=>by simp[cellsOf,CardM.K]at i;rcases i with rfl|rfl|rfl|rfl|rfl<;>rfl) (cf:=cf)
  ⟨λx=>by rw[d];simp,λx y z h1 h2=>kf,λx y z h1 h2=>kf⟩
  (λx y h1 h2=>by rw[d]at *;simp at h1 h2;exact Subtype.ext (e.un _ x.2 _ y.2 o_)) (g:=tG) (Go.Proofs.enters_of Go.Proofs.Tryz.func65 k_ rfl) (Go.Proofs.enters_of Go.Proofs.Tryz.func64 k_ rfl) (G:=G) (λx y=>aFU x.1 y.1 (e.dv _ x.2) (e.dv _ y.2)) l.attach (by rw[List.length_attach];have:=e.n;omega)
 have o:l.attach.map (cellsOf λc:α=>c.1.K)=l.map CardM.A:=by rw[show(cellsOf λc:α=>c.1.K)=CardM.A∘Subtype.val from rfl,<-rI,X4]
 have m:(l.attach.mergeSort λx y=>!(Go.Proofs.ltOf cf y x)).map (cellsOf λc:α=>c.1.K)=(uE l).map CardM.A:=by
  rw[show(cellsOf λc:α=>c.1.K)=CardM.A∘Subtype.val from rfl,<-rI];congr 1;have j:(λx y:α=>!(Go.Proofs.ltOf cf y x))=λx y:α=>decide (x.1.Device<=y.1.Device):=m_;rw[j,List.map_mergeSort (s:=λx y:CardM=>decide (x.Device<=y.Device)) (λa _ b _=>rfl),X4];rfl
 rw[o,m]at f;exact f
def aIg(l:List CardM)(a:cardsOk l):aA PQ G Bi [.ls 5 (l.map CardM.A)] [] λr T=>r=.ptr 0 0/\T=[some (.box [.own 1,.mp 2,.v (.slice none 0 0)]),some (.arr 5 ((uE l).map CardM.A)),some (MG [])]:=by refine aC Ny ?_;have b:=a.n;simp only[go_sem];apply kM (rE (l.map CardM.A) M_);simp only[go_sem];apply aG (T2:=[some (.arr 5 (l.map CardM.A))]) [0] (aB _) d_ s_ rfl i_ (aFV l a);rintro r c ⟨rfl,rfl⟩;simp only[go_sem,MG,uP,Mk,gQ]
def aKl(l:List CardM)(a:cardsOk l):aA PQ G Bi [.ls 5 (l.map CardM.A)] [] λr T=>r=.ptr 0 0/\T=[some (.box [.ls 5 ((uE l).map CardM.A),.mp 1,.v (.slice none 0 0)]),some (MG [])]:=by refine(aIg l a).fin [1] ?_;rintro r b ⟨rfl,rfl⟩;simp only[go_sem,MG,uP,Mk]
def aFW {g:PGM} (b:g.ok) (l:D_):0<=Fa g l/\Fa g l<=g.nodes.length+1:=by
 have a:∀(l:D_)(m:Int),0<=m->m<=g.nodes.length+1->0<=l.foldl (λm x=>max m ((g.nd x).lv+1)) m/\l.foldl (λm x=>max m ((g.nd x).lv+1)) m<=g.nodes.length+1:=by
  intro l
  induction l with
  |nil=>exact λm h0 h1=>⟨h0,h1⟩| cons x l ih=>
   intro m h0 h1;have c:0<=(g.nd x).lv/\(g.nd x).lv<=g.nodes.length:=by unfold PGM.nd;rw[rH];rcases eD (g.at x) g.nodes.length with h|h;rw[jN h];exact b.lv _ (eQ h);grind[XD]
   grind
 exact a l 1 o_ o_
def aDU{g:PGM}(a:g.ok)(o:OpM):Hu (BF g o):=Sp (JC a _) (JB _ _)
def XL(g:PGM)(o:OpM):(sR g o).1=g\/(sR g o).1=⟨g.cards,g.nodes++[⟨o,C7 o,BF g o,Fa g o.Past⟩]⟩/\g.nodes.length<200:=by grind[sR,Oa,Q8]
def aFX{g:PGM}{o:OpM}(a:g.ok)(d:o.ok)(c:(C7 o).ok):(sR g o).1.ok:=by rcases XL g o with h|⟨h,f⟩<;>rw[h];exact a;have e:=aFW a o.Past;refine⟨c_,a.cn,a.cs,?_,?_,?_,?_⟩<;>intro x b<;>simp only[cG,cA]at b<;>rcases b with b|rfl;exact a.ops x b;exact d;exact a.ids x b;exact c;exact a.ws x b;exact aDU a o;have:=a.lv x b;simp_all;omega;simp_all
def AM(cs:List CardM)(l:List OpM):PGM:=l.foldl (λp o=>(sR p o).1) ⟨uE cs,[]⟩
theorem MS(cs:List CardM)(l:List OpM)(o:OpM):AM cs (l++[o])=(sR (AM cs l) o).1:=by simp[AM]
def XM{cs:List CardM}(d:cardsOk cs):∀(l:List OpM),(∀o∈l,o.ok/\(C7 o).ok)->(AM cs l).ok:=by
 have h0:(⟨uE cs,[]⟩:PGM).ok:=⟨s_,by show(uE cs).length<=1000;rw[XJ];exact d.n,λc h=>d.cs c (BI.1 h),s_,s_,s_,s_⟩
 have b:∀(l:List OpM)(p:PGM),p.ok->(∀o∈l,o.ok/\(C7 o).ok)->(l.foldl (λp o=>(sR p o).1) p).ok:=by
  intro l
  induction l with
  |nil=>exact λp h _=>h|cons o l ih=>exact λp h a=>ih _ (aFX h (a o s_).1 (a o s_).2) (λx e=>a x az)
 exact λl a=>b l _ h0 a
inductive RU(Up:List (List Nat))(up:List Nat):Nat->Prop
 |base {k:Nat}:k∈up->RU Up up k|step {j k:Nat}:RU Up up j->k∈Up.getD j []->RU Up up k
theorem RU.tail{a:List V_}{up:V_}{k:Nat}:RU a up k↔k∈up\/∃j,RU a up j/\k∈a.getD j []:=by
 constructor;intro h
 cases h with
 |base h=>exact .inl h|step h1 h2=>exact .inr ⟨_,h1,h2⟩
 rintro(h|⟨j,h1,h2⟩);exact .base h;exact .step h1 h2
def RU.head{b:List V_}{up:V_}{k:Nat}:RU b up k↔k∈up\/∃i∈up,RU b (b.getD i []) k:=by
 constructor;intro h
 induction h with
 |base h=>exact .inl h|step h1 h2 ih=>
  rcases ih with ih|⟨i,a,ih⟩
  exact .inr ⟨_,ih,.base h2⟩;exact .inr ⟨i,a,.step ih h2⟩
 rintro(h|⟨i,a,h⟩);exact .base h
 induction h with
 |base h=>exact .step (.base a) h|step h1 h2 ih=>exact .step ih h2
def RU.lt{a:List V_}{up:V_}{n:Nat}(b:∀k∈up,k<n)(c:∀i,∀k∈a.getD i [],k<i){k:Nat}(h:RU a up k):k<n:=by
 induction h with
 |base h=>exact b _ h|step h1 h2 ih=>have:=c _ _ h2;omega
def aB1(u:V_)(a:List Bool)(h:∀k∈u,k<a.length)(k:Nat):(u.foldl (λb k=>b.set k true) a).getD k false=(decide (k∈u)||a.getD k false):=by
 induction u generalizing a with
 |nil=>simp|cons x u ih=>
  grind
def XN(c:List V_)(up:V_)(a:List Bool)(i:Nat)(j:i<a.length)(h:∀k∈c.getD i [],k<i)(k:Nat):
 ((OG c up a i).getD k false=true)↔(a.getD k false=true\/(k=i/\i∈up)\/((a.getD i false=true\/i∈up)/\k∈c.getD i [])):=by
 have d:∀k,((if decide (i∈up) then a.set i true else a).getD k false=true)↔(a.getD k false=true\/(k=i/\i∈up)):=m_;have e:(if decide (i∈up) then a.set i true else a).length=a.length:=by split<;>simp
 unfold OG;generalize(if decide (i∈up) then a.set i true else a)=b at *
 by_cases g:b.getD i false=true;rw[if_pos g,aB1 _ _ (λk f=>by rw[e];have:=h k f;omega),Ec,d,decide_eq_true_eq];grind;grind
def Oj (b:List V_) (up:V_) (n:Nat) (g:∀k∈up,k<n) (f:∀i,∀k∈b.getD i [],k<i):∀(i:Nat)(a:List Bool),a.length=n->i<=n ->
 (∀k,i<=k->((a.getD k false=true)↔RU b up k))->(∀k,k<i->((a.getD k false=true)↔∃j,i<=j/\RU b up j/\k∈b.getD j []))->∀k,((Kx b up i a).getD k false=true)↔RU b up k
 |0,a,_,_,h1,_=>λk=>h1 k o_| i+1,a,m,p,h1,h2=>by
  have l:=XN b up a i o_ (f i);have e:(a.getD i false=true\/i∈up)↔RU b up i:=by grind[RU.tail]
  refine Oj b up n g f i (OG b up a i) (by rw[Q1];exact m) o_ ?_ ?_;grind;intro k o;rw[l,h2 k o_,e];constructor;rintro(⟨j,h3,d,c⟩|h3|h3);exact⟨j,o_,d,c⟩;omega;exact⟨i,cN _,h3.1,h3.2⟩;rintro⟨j,h3,d,c⟩;rcases eD i j with h|h;exact .inl ⟨j,h,d,c⟩;obtain rfl:j=i:=o_;exact .inr (.inr ⟨d,c⟩)
def Ok(g:GM)(up:V_)(a:∀k∈up,k<g.L.length)(b:∀i,∀k∈g.Up.getD i [],k<i)(k:Nat):((oL g up).getD k false=true)↔RU g.Up up k:=by refine Oj g.Up up g.L.length a b _ _ s_ (cN _) ?_ ?_ k;intro k c;constructor;intro h;rw[rH,sX c_]at h;exact absurd h d_;intro h;have:=h.lt a b;omega;intro k c;constructor;intro h;rw[rH,List.getElem?_replicate,if_pos c]at h;exact absurd h d_;rintro⟨j,h1,h2,_⟩;have:=h2.lt a b;omega
def RU.more{a:List V_}{u up:V_}{k:Nat}(b:∀k∈up,k<a.length)(d:∀i,∀k∈a.getD i [],k<i):RU (a++[u]) up k↔RU a up k:=by
 have c:∀j,j<a.length->(a++[u]).getD j []=a.getD j []:=λj e=>m_;constructor;intro h
 induction h with
 |base h=>exact .base h|step h1 h2 ih=>exact .step ih (by rwa[c _ (ih.lt b d)]at h2)
 intro h
 induction h with
 |base h=>exact .base h|step h1 h2 ih=>exact .step ih (by rwa[c _ (h1.lt b d)])
def aDV(W V:V_)(h:W.length=V.length)(i:Nat):(Kz W V).getD i 0=W.getD i 0 ||| V.getD i 0:=by grind[Kz]
def aB2(W V:V_)(h:W.length=V.length)(i:Nat):(Cu W V).getD i 0=W.getD i 0 &&& V.getD i 0:=by grind[Cu]
def ZM{W V:V_}(a:Hu W)(b:Hu V)(k:Nat):qK (Kz W V) k=(qK W k||qK V k):=by unfold qK;rw[aDV W V (by rw[a.1,b.1]),YP]
def ZN(k:Nat):qK z4 k=false:=by grind[qK,z4]
def aDW{W:V_}(a:Hu W)(n k:Nat)(b:n<256):qK (Py W n) k=(decide (k=n)||qK W k):=by
 unfold qK Py;have c:n/64<W.length:=by rw[a.1];omega
 grind
def aB3{W V:V_}(c:Hu W)(f:Hu V)(h:∀k,k<256->qK W k=true->qK V k=false):Cu W V=z4:=by
 have j:=U3 c f;refine Ki (by rw[j];rfl) λi l _=>?_;have a:i<4:=o_;have g:z4[i]'(by simpa[z4]using a)=0:=by grind[z4]
 rw[g];have e:=aB2 W V (by rw[c.1,f.1]) i;rw[rH,jN l,Mi]at e;rw[e];refine Nat.eq_of_testBit_eq λb=>?_;rw[Nat.testBit_and,aBK];rcases eD b 64 with d|d;have h1:(64*i+b)/64=i:=o_;have h2:(64*i+b)%64=b:=o_;have:=h (64*i+b) o_;grind[qK];rw[Nat.testBit_lt_two_pow (CV (AJ c i) (show 18446744073709551616<=2^b from Gl (n:=2) (i:=64) o_ d))];rfl
def aDX(g:PGM)(f:g.nodes.length<=200)(l:D_)(e:∀x∈l,g.at x<256)(k:Nat):(qK (Hg g l) k=true)↔∃x∈l,g.at x=k:=by
 have a:∀(l:D_)(W:V_),Hu W->(∀x∈l,g.at x<256)->((qK (l.foldl (λW x=>Py W (g.at x)) W) k=true)↔(qK W k=true\/∃x∈l,g.at x=k)):=by
  intro l
  induction l with
  |nil=>intro W _ _;simp|cons x l ih=>
   intro W c b;rw[CW,ih _ (ZG c _) (λy d=>b y gf),aDW c _ _ (b x s_),Ec,decide_eq_true_eq];grind
 unfold Hg;rw[a l z4 Ob e,ZN];simp
def aDY{g:PGM}(b:g.ok)(l:D_)(k:Nat):(qK (Hh g l) k=true)↔∃x∈l,qK (g.nd x).W k=true:=by
 have a:∀(l:D_)(W:V_),Hu W->((qK (l.foldl (λW x=>Kz W (g.nd x).W) W) k=true)↔(qK W k=true\/∃x∈l,qK (g.nd x).W k=true)):=by
  intro l
  induction l with
  |nil=>intro W _;simp|cons x l ih=>
   intro W c;rw[CW,ih _ (Sp c (Q9 b x)),ZM c (Q9 b x),Ec];grind
 unfold Hh;rw[a l z4 Ob,ZN];simp
def aDZ(g:PGM)(x:Id):g.at x=(aW g.I x).toNat:=by grind[PGM.at,aW,qX]
def Cz(I:D_)(x:Id):0<=aW I x↔x∈I:=by have:=mN (λy=>decide (y=x)) I;grind[aW]
def aFY(g:PGM)(a:Int)(l:D_)(h0:0<=a)(h:∀x∈l,(g.nd x).o.At<=a):G0 g l<=a:=by
 have b:∀(l:D_)(m:Int),m<=a->(∀x∈l,(g.nd x).o.At<=a)->l.foldl (λm x=>max m (g.nd x).o.At) m<=a:=by
  intro l
  induction l with
  |nil=>exact λm h _=>h|cons x l ih=>
   grind
 exact b l 0 h0 h
end Hud
