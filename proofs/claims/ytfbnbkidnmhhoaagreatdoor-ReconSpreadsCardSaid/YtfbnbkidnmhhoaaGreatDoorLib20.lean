import Derived.Test.YtfbnbkidnmhhoaaGreatDoorLib19
set_option linter.all false
set_option maxHeartbeats 40000000
namespace Hud
open Go
variable{G:L_}
section
variable{g:PGM}{d:Nat->Id}{f N:Nat}
abbrev pkS(g:PGM)(d:Nat->Id)(f:Nat)(a b c:Nat)(h e:Bool)(l:List Nat):St:=⟨4,[(0,.own 0),(1,.v (.int .i64 (a:Int))),(2,.v (.int .i64 (b:Int))),(3,.v (.int .i64 (c:Int))),(4,cv f),(10,.v (.bool h)),(11,.v (.bool e))],(aM g d l)⟩
def XB(G:L_)(g:PGM)(d:Nat->Id)(f N:Nat)(n:Nat):Prop:=∀(l:O3),VL N l->∀(a b c:Nat),b-a=n->a<=b->b<=l.length->l.length<=60000->c<=1000000000->SQ a b l->aA PQ G bO [.own 0,iv a,iv b,iv c,cv f] (aM g d l) (Gz g d λ_ e=>PR a b l e/\SR a b e)
def PkN(g:PGM)(d:Nat->Id)(f:Nat)(a b h:Nat)(m:O3)(Q:St->Prop):Prop:=∀(e c:Nat)(l k:Bool)(i:O3)(s:St),c-e<b-a->a<=e->e<=c->c<=b->PR a b m i->SQ e c i->(∀j,PR e c i j->SR e c j->SR a b j)->DB [] s=pkS g d f e c h l k i->Q s
def aDz:HC:=.seq (.seq (.reg [⟨some 106,.mov (.tmp 0),none⟩,⟨some 107,.mov (.tmp 1),none⟩,⟨some 108,.mov (.tmp 2),none⟩,⟨some 109,.mov (.tmp 13),none⟩,⟨some 110,.mov (.tmp 4),none⟩,⟨some 111,.call (.func dL) [.tmp 106,.tmp 107,.tmp 108,.tmp 109,.tmp 110],none⟩,⟨some 105,.mov (.tmp 111),none⟩,⟨some 112,.ext (.tmp 105) 0,none⟩,⟨some 113,.ext (.tmp 105) 1,none⟩,⟨some 16,.mov (.tmp 112),none⟩,⟨some 17,.mov (.tmp 113),none⟩]) (.kill [13,113,112,105,111,110,109,108,107,106])) (.seq (.seq (.reg [⟨some 114,.mov (.tmp 17),none⟩,⟨some 11,.mov (.tmp 114),none⟩]) (.kill [17,114])) (.seq (.seq (.reg [⟨some 115,.mov (.tmp 16),none⟩,⟨some 116,.mov (.tmp 1),none⟩,⟨some 117,.bin .sub (.tmp 115) (.tmp 116),none⟩,⟨some 118,.mov (.tmp 2),none⟩,⟨some 119,.mov (.tmp 16),none⟩,⟨some 120,.bin .sub (.tmp 118) (.tmp 119),none⟩,⟨some 18,.mov (.tmp 117),none⟩,⟨some 19,.mov (.tmp 120),none⟩]) (.kill [120,119,118,117,116,115])) (.seq (.seq (.reg [⟨some 121,.mov (.tmp 12),none⟩,⟨some 122,.bin .quo (.tmp 121) (.const (.int .i64 8)),none⟩,⟨some 20,.mov (.tmp 122),none⟩]) (.kill [12,122,121])) (.seq (.seq (.reg [⟨some 123,.mov (.tmp 18),none⟩,⟨some 124,.mov (.tmp 19),none⟩,⟨some 125,.bin .lss (.tmp 123) (.tmp 124),none⟩]) (.kill [124,123])) (.cond (.tmp 125) (.seq (.kill [19,125]) (.seq (.seq (.reg [⟨some 126,.mov (.tmp 18),none⟩,⟨some 127,.mov (.tmp 20),none⟩,⟨some 128,.bin .geq (.tmp 126) (.tmp 127),none⟩,⟨some 10,.mov (.tmp 128),none⟩]) (.kill [18,20,128,127,126])) (.seq (.seq (.reg [⟨some 129,.mov (.tmp 0),none⟩,⟨some 130,.mov (.tmp 1),none⟩,⟨some 131,.mov (.tmp 16),none⟩,⟨some 132,.mov (.tmp 3),none⟩,⟨some 133,.mov (.tmp 4),none⟩,⟨some 134,.call (.func bO) [.tmp 129,.tmp 130,.tmp 131,.tmp 132,.tmp 133],none⟩]) (.kill [1,134,133,132,131,130,129])) (.seq (.reg [⟨some 135,.mov (.tmp 16),none⟩,⟨some 136,.bin .add (.tmp 135) (.const (.int .i64 1)),none⟩,⟨some 1,.mov (.tmp 136),none⟩]) (.kill [16,136,135]))))) (.seq (.kill [18,125]) (.seq (.seq (.reg [⟨some 137,.mov (.tmp 19),none⟩,⟨some 138,.mov (.tmp 20),none⟩,⟨some 139,.bin .geq (.tmp 137) (.tmp 138),none⟩,⟨some 10,.mov (.tmp 139),none⟩]) (.kill [19,20,139,138,137])) (.seq (.seq (.reg [⟨some 140,.mov (.tmp 0),none⟩,⟨some 141,.mov (.tmp 16),none⟩,⟨some 142,.bin .add (.tmp 141) (.const (.int .i64 1)),none⟩,⟨some 143,.mov (.tmp 2),none⟩,⟨some 144,.mov (.tmp 3),none⟩,⟨some 145,.mov (.tmp 4),none⟩,⟨some 146,.call (.func bO) [.tmp 140,.tmp 142,.tmp 143,.tmp 144,.tmp 145],none⟩]) (.kill [2,146,145,144,143,142,141,140])) (.seq (.reg [⟨some 147,.mov (.tmp 16),none⟩,⟨some 2,.mov (.tmp 147),none⟩]) (.kill [16,147]))))))))))
def U1(U:rF G g d f N)(n:Nat)(ih:∀m,m<n->XB G g d f N m){a b p c:Nat}{q:O3}{Q:Ex->St->Prop}(V:b-a=n)(E:a<=p)(B:p<b)(s:VL N q)(H:b<=q.length)(S:q.length<=60000)(o:c<=1000000000)(u:SQ a b q)(I:PkN g d f a b c q (Q .normal)):
 @cW PQ G aDz ⟨4,[(13,iv p),(3,iv c),(12,iv ((b-a:Nat):Int)),(0,.own 0),(1,iv a),(2,iv b),(4,cv f)],(aM g d q)⟩ ⟨Q⟩:=by
 unfold aDz;simp only[go_sem,aM,TG,MG,cv];apply aG [0,1,2,3] (aB _) s_ z_ l_ h_ (aDx U q s a b p E B H o_);rintro r K ⟨A,⟨j,J,P,i,l⟩,x⟩;subst P;subst x;have R:=i.1;have D:=l.1;have T:=l.2.1;have M:IntKind.i64.wrap ((j:Int)-(a:Int))=((j-a:Nat):Int):=d_;have L:IntKind.i64.wrap ((b:Int)-(j:Int))=((b-j:Nat):Int):=d_;have k:SQ a b A:=u.pr i H;simp only[go_sem,aM,TG,MG,M,L,aJV (b-a) o_];by_cases w:j-a<b-j;simp only[go_sem,aT w];apply aG [0,1,2,3] (aB _) s_ z_ l_ h_ (ih (j-a) o_ A (VL.pr i s) a j c rfl D o_ o_ o (k.sub o_));rintro r K ⟨z,⟨e,t⟩,x⟩;subst x;have C:=e.1;have h:=Bv l o_ e;simp only[go_sem,aM,TG,MG,fQ j o_];apply I (j+1) b (decide (((j-a:Nat):Int)>=(((b-a)/8:Nat):Int))) J z _ o_ o_ o_ o_ (i.trans (e.wide (cN _) o_)) (Dm h) (λO y F=>Bw (AE h o_ y) (t.outside y (.inl o_)) F);simp only[go_sem,aM,TG,MG,cv,pkS];simp only[go_sem,aS w,fQ j o_];apply aG [0,1,2,3] (aB _) s_ z_ l_ h_ (ih (b-(j+1)) o_ A (VL.pr i s) (j+1) b c rfl o_ o_ o_ o (Dm l));rintro r K ⟨z,⟨e,t⟩,x⟩;subst x;have C:=e.1;have h:=AE l o_ e;simp only[go_sem,aM,TG,MG];apply I a j (decide (((b-j:Nat):Int)>=(((b-a)/8:Nat):Int))) J z _ o_ o_ o_ o_ (i.trans (e.wide o_ (cN _))) ((k.pr (e.wide o_ (cN _)) o_).sub o_) (λO y F=>Bw (Bv h o_ y) F (t.outside y (.inr o_)));simp only[go_sem,aM,TG,MG,cv,pkS]
def U2(U:rF G g d f N)(n:Nat)(ih:∀m,m<n->XB G g d f N m){a b p c:Nat}{q:O3}{Q:Ex->St->Prop}(V:b-a=n)(E:a<=p)(B:p<b)(s:VL N q)(H:b<=q.length)(S:q.length<=60000)(o:c<=1000000000)(u:SQ a b q)(I:PkN g d f a b c q (Q .normal)):
 @cW PQ G aDz ⟨4,[(13,iv p),(12,iv ((b-a:Nat):Int)),(0,.own 0),(1,iv a),(2,iv b),(3,iv c),(4,cv f)],(aM g d q)⟩ ⟨Q⟩:=by
 unfold aDz;simp only[go_sem,aM,TG,MG,cv];apply aG [0,1,2,3] (aB _) s_ z_ l_ h_ (aDx U q s a b p E B H o_);rintro r K ⟨A,⟨j,J,P,i,l⟩,x⟩;subst P;subst x;have R:=i.1;have D:=l.1;have T:=l.2.1;have M:IntKind.i64.wrap ((j:Int)-(a:Int))=((j-a:Nat):Int):=d_;have L:IntKind.i64.wrap ((b:Int)-(j:Int))=((b-j:Nat):Int):=d_;have k:SQ a b A:=u.pr i H;simp only[go_sem,aM,TG,MG,M,L,aJV (b-a) o_];by_cases w:j-a<b-j;simp only[go_sem,aT w];apply aG [0,1,2,3] (aB _) s_ z_ l_ h_ (ih (j-a) o_ A (VL.pr i s) a j c rfl D o_ o_ o (k.sub o_));rintro r K ⟨z,⟨e,t⟩,x⟩;subst x;have C:=e.1;have h:=Bv l o_ e;simp only[go_sem,aM,TG,MG,fQ j o_];apply I (j+1) b (decide (((j-a:Nat):Int)>=(((b-a)/8:Nat):Int))) J z _ o_ o_ o_ o_ (i.trans (e.wide (cN _) o_)) (Dm h) (λO y F=>Bw (AE h o_ y) (t.outside y (.inl o_)) F);simp only[go_sem,aM,TG,MG,cv,pkS];simp only[go_sem,aS w,fQ j o_];apply aG [0,1,2,3] (aB _) s_ z_ l_ h_ (ih (b-(j+1)) o_ A (VL.pr i s) (j+1) b c rfl o_ o_ o_ o (Dm l));rintro r K ⟨z,⟨e,t⟩,x⟩;subst x;have C:=e.1;have h:=AE l o_ e;simp only[go_sem,aM,TG,MG];apply I a j (decide (((b-j:Nat):Int)>=(((b-a)/8:Nat):Int))) J z _ o_ o_ o_ o_ (i.trans (e.wide o_ (cN _))) ((k.pr (e.wide o_ (cN _)) o_).sub o_) (λO y F=>Bw (Bv h o_ y) F (t.outside y (.inr o_)));simp only[go_sem,aM,TG,MG,cv,pkS]
def aFM:HC:=.seq (.seq (.seq (.regd (.q ⟨some 81,.mov (.tmp 1),none⟩ (.q ⟨some 82,.bin .gtr (.tmp 81) (.const (.int .i64 0)),none⟩ (.q ⟨some 83,.mov (.tmp 82),none⟩ (.q ⟨some 84,.mov (.tmp 4),some (83,true)⟩ (.q ⟨some 85,.mov (.tmp 0),some (83,true)⟩ (.q ⟨some 86,.mov (.tmp 1),some (83,true)⟩ (.q ⟨some 87,.bin .sub (.tmp 86) (.const (.int .i64 1)),some (83,true)⟩ (.q ⟨some 88,.iad (.tmp 85) (.tmp 87) 3,some (83,true)⟩ (.q ⟨some 89,.ld (some 3) (.tmp 88),some (83,true)⟩ (.q ⟨some 90,.mov (.tmp 0),some (83,true)⟩ (.q ⟨some 91,.mov (.tmp 13),some (83,true)⟩ (.q ⟨some 92,.iad (.tmp 90) (.tmp 91) 3,some (83,true)⟩ (.q ⟨some 93,.ld (some 3) (.tmp 92),some (83,true)⟩ (.alt ⟨some 94,.call (.tmp 84) [.tmp 89,.tmp 93],some (83,true)⟩ [] (.q ⟨some 95,.bin .lss (.tmp 94) (.const (.int .i64 0)),some (83,true)⟩ (.q ⟨some 96,.un .not (.tmp 95),some (83,true)⟩ (.q ⟨some 97,.pick (.tmp 83) (.tmp 96) (.const (.bool false)),none⟩ (.done false)))) .no))))))))))))))) (.kill [96,95,94,93,92,91,90,89,88,87,86,85,84,83,82,81])) (.cond (.tmp 97) (.seq (.kill [12,97]) (.seq (.seq (.reg [⟨some 98,.mov (.tmp 0),none⟩,⟨some 99,.mov (.tmp 1),none⟩,⟨some 100,.mov (.tmp 2),none⟩,⟨some 101,.mov (.tmp 13),none⟩,⟨some 102,.mov (.tmp 4),none⟩,⟨some 103,.call (.func cQ) [.tmp 98,.tmp 99,.tmp 100,.tmp 101,.tmp 102],none⟩,⟨some 15,.mov (.tmp 103),none⟩]) (.kill [1,13,103,102,101,100,99,98])) (.seq (.seq (.reg [⟨some 104,.mov (.tmp 15),none⟩,⟨some 1,.mov (.tmp 104),none⟩]) (.kill [15,104])) (.exit 1)))) (.seq (.kill [11,10,97]) .skip))) (aDz)
def aDA (B:rF G g d f N) (n:Nat) (ih:∀m,m<n->XB G g d f N m) {a b p e:Nat} {F E:Bool} {c:O3} {Q:Ex->St->Prop} (K:b-a=n) (s:a<=p) (o:p<b) (h:VL N c) (A:b<=c.length) (u:c.length<=60000) (l:e<=1000000000) (j:SQ a b c) (M:PkN g d f a b e c (Q .normal)) (C:PkN g d f a b e c (Q (.exit 1))):
 @cW PQ G aFM ⟨4,[(13,iv p),(3,iv e),(12,iv ((b-a:Nat):Int)),(0,.own 0),(1,iv a),(2,iv b),(4,cv f),(10,.v (.bool F)),(11,.v (.bool E))],(aM g d c)⟩ ⟨Q⟩:=by
 unfold aFM;by_cases U:a=0;have D:decide ((a:Int)>0)=false:=decide_eq_false o_;simp only[go_sem,aM,TG,MG,cv,D];exact U1 B n ih K s o h A u l j M;have D:decide ((a:Int)>0)=true:=decide_eq_true o_;have O:IntKind.i64.wrap ((a:Int)-1)=((a-1:Nat):Int):=d_;have g1:=bL d c (a-1) o_;have Z:=bL d c p o_;simp only[go_sem,aM,TG,MG,cv,D,O,aP,(o_:a-1<c.length),(o_:p<c.length),g1,Z];apply jU B (VL.get h o_) (VL.get h o_);simp only[go_sem,TG,MG,pY];refine aL (λL=>?_) (λL=>?_);have R:c.getD p 0<=c.getD (a-1) 0:=by simpa using L
 simp only[go_sem];apply aG [0,1,2,3] (aB _) s_ z_ l_ h_ (U0 B c h a b p s o A o_);rintro r T' ⟨H,⟨i,P,q,T,z,y,w⟩,V⟩;subst P;subst V;have S:=q.1;have t:∀k,a<=k->k<b->c.getD p 0<=H.getD k 0:=J_;simp only[go_sem,aM,TG,MG];apply C i b F E H _ o_ o_ z (cN _) q (.inr λk J I=>uR (y (i-1) o_ o_) (H9 (w k J I))) (λl6 X W=>Uc z o_ y w t X W);simp only[go_sem,aM,TG,MG,cv,pkS];simp only[go_sem];exact U1 B n ih K s o h A u l j M
def aDB (B:rF G g d f N) (n:Nat) (ih:∀m,m<n->XB G g d f N m) {a b p e:Nat} {F E:Bool} {c:O3} {Q:Ex->St->Prop} (K:b-a=n) (s:a<=p) (o:p<b) (h:VL N c) (A:b<=c.length) (u:c.length<=60000) (l:e<=1000000000) (j:SQ a b c) (M:PkN g d f a b e c (Q .normal)) (C:PkN g d f a b e c (Q (.exit 1))):
 @cW PQ G aFM ⟨4,[(13,iv p),(12,iv ((b-a:Nat):Int)),(0,.own 0),(1,iv a),(2,iv b),(3,iv e),(4,cv f),(10,.v (.bool F)),(11,.v (.bool E))],(aM g d c)⟩ ⟨Q⟩:=by
 unfold aFM;by_cases U:a=0;have D:decide ((a:Int)>0)=false:=decide_eq_false o_;simp only[go_sem,aM,TG,MG,cv,D];exact U2 B n ih K s o h A u l j M;have D:decide ((a:Int)>0)=true:=decide_eq_true o_;have O:IntKind.i64.wrap ((a:Int)-1)=((a-1:Nat):Int):=d_;have g1:=bL d c (a-1) o_;have Z:=bL d c p o_;simp only[go_sem,aM,TG,MG,cv,D,O,aP,(o_:a-1<c.length),(o_:p<c.length),g1,Z];apply jU B (VL.get h o_) (VL.get h o_);simp only[go_sem,TG,MG,pY];refine aL (λL=>?_) (λL=>?_);have R:c.getD p 0<=c.getD (a-1) 0:=by simpa using L
 simp only[go_sem];apply aG [0,1,2,3] (aB _) s_ z_ l_ h_ (U0 B c h a b p s o A o_);rintro r T' ⟨H,⟨i,P,q,T,z,y,w⟩,V⟩;subst P;subst V;have S:=q.1;have t:∀k,a<=k->k<b->c.getD p 0<=H.getD k 0:=J_;simp only[go_sem,aM,TG,MG];apply C i b F E H _ o_ o_ z (cN _) q (.inr λk J I=>uR (y (i-1) o_ o_) (H9 (w k J I))) (λl6 X W=>Uc z o_ y w t X W);simp only[go_sem,aM,TG,MG,cv,pkS];simp only[go_sem];exact U2 B n ih K s o h A u l j M
def aKe (F:rF G g d f N) (n:Nat) (ih:∀m,m<n->XB G g d f N m):XB G g d f N n:=by
 intro l C I H S ah X aj hl Q P;apply aC sP;simp only[go_sem,aM,TG,MG,cv];refine cO (λn s=>∃(a b k:Nat)(x w:Bool)(l1:O3),n=b-a/\I<=a/\a<=b/\b<=H/\k<=1000000000/\PR I H l l1/\SQ a b l1/\(∀l2,PR a b l1 l2->SR a b l2->SR I H l2)/\s=pkS g d f a b k x w l1) (H-I)
  ⟨I,H,S,true,true,l,rfl,cN _,X,cN _,Q,PR.refl _ _ l,P,λ_ _ h=>h,by simp only[go_sem,aM,TG,MG,cv,pkS]⟩ ?_
 rintro n1 s ⟨a,b,k,x,w,l1,af,K,ae,J,W,q,A,R,rfl⟩;have ai:=q.1;have w1:IntKind.i64.wrap ((b:Int)-(a:Int))=((b-a:Nat):Int):=d_;simp only[go_sem,aM,TG,MG,cv,w1];by_cases ak:b-a<=12;simp only[go_sem,show decide (((b-a:Nat):Int)<=12)=true from decide_eq_true o_];apply aG [0,1,2,3] (aB _) s_ z_ l_ h_ (aKd F l1 (VL.pr q C) a b ae o_ o_);rintro r L ⟨l2,⟨j,M⟩,rfl⟩;simp only[go_sem,aM,TG,MG];exact⟨l2,⟨q.trans (j.wide K J),R l2 j M⟩,rfl⟩;simp only[go_sem,show decide (((b-a:Nat):Int)<=12)=false from decide_eq_false o_];by_cases aa:k=0;subst aa;simp only[go_sem];apply aG [0,1,2,3] (aB _) s_ z_ l_ h_ (aIa F l1 (VL.pr q C) a b o_ o_ o_);rintro r L ⟨l2,⟨j,M⟩,rfl⟩;simp only[go_sem,aM,TG,MG];exact⟨l2,⟨q.trans (j.wide K J),R l2 j M⟩,rfl⟩;have V:((k:Int)==0)=false:=f_;simp only[go_sem,V];refine OF (λs=>∃(i:Nat)(l2:O3),i<=1000000000/\PR a b l1 l2/\(s=⟨4,[(3,iv i),(12,iv ((b-a:Nat):Int)),(0,.own 0),(1,iv a),(2,iv b),(4,cv f),(10,.v (.bool x)),(11,.v (.bool w))],(aM g d l2)⟩\/s=⟨4,[(12,iv ((b-a:Nat):Int)),(0,.own 0),(1,iv a),(2,iv b),(3,iv i),(4,cv f),(10,.v (.bool x)),(11,.v (.bool w))],(aM g d l2)⟩)) ?_ ?_ ?_;intro hw;simp only[go_sem];apply aG [0,1,2,3] (aB _) s_ z_ l_ h_ (aFL F l1 (VL.pr q C) a b o_ o_ o_);rintro r L ⟨l2,j,rfl⟩;have wl:IntKind.i64.wrap ((k:Int)-1)=((k-1:Nat):Int):=d_;simp only[go_sem,aM,TG,MG,cv,wl];exact⟨k-1,l2,o_,j,.inl rfl⟩;intro hw;simp only[go_sem,aM,TG,MG,cv];exact⟨k,l1,W,PR.refl _ _ _,.inr rfl⟩;rintro s ⟨i,l2,o,j,D|D⟩;subst D;have ad:=j.1;simp only[go_sem,aM,TG,MG,cv];apply aG [0,1,2,3] (aB _) s_ z_ l_ h_ (Uz F l2 (VL.pr j (VL.pr q C)) a b o_ o_ o_);rintro r L ⟨p,h,z,y,O,E⟩;subst O;subst E;simp only[go_sem,aM,TG,MG];refine OF (λs=>∃(p:Nat)(h:Int)(u:O3),a<=p/\p<b/\PR a b l1 u/\s=⟨4,[(14,iv h),(13,iv p),(3,iv i),(12,iv ((b-a:Nat):Int)),(0,.own 0),(1,iv a),(2,iv b),(4,cv f),(10,.v (.bool x)),(11,.v (.bool w))],(aM g d u)⟩) ?_ ?_ ?_;intro hh;have v1:IntKind.i64.wrap ((b:Int)-1)=((b-1:Nat):Int):=d_;have v2:IntKind.i64.wrap ((p:Int)-(a:Int))=((p-a:Nat):Int):=d_;have v3:IntKind.i64.wrap (((b-1:Nat):Int)-((p-a:Nat):Int))=((b-1-(p-a):Nat):Int):=d_;simp only[go_sem];apply aG [0,1,2,3] (aB _) s_ z_ l_ h_ (Q6 F l2 (VL.pr j (VL.pr q C)) a b o_ o_ o_);rintro r L ⟨u,c,E⟩;subst E;simp only[go_sem,aM,TG,MG,cv,v1,v2,v3];exact⟨b-1-(p-a),1,u,o_,o_,j.trans c,rfl⟩;intro hh;simp only[go_sem,aM,TG,MG,cv];grind;clear z y;rintro s ⟨p,h,u,z,y,c,D⟩;subst D;have ac:=c.1;rw[bC];refine Xs (λs=>∃t:O3,PR a b l1 t/\s=⟨4,[(13,iv p),(3,iv i),(12,iv ((b-a:Nat):Int)),(0,.own 0),(1,iv a),(2,iv b),(4,cv f),(10,.v (.bool x)),(11,.v (.bool w))],(aM g d t)⟩) ?_ ?_;by_cases B:x=true/\w=true;obtain⟨rfl,rfl⟩:=B;simp only[go_sem,aM,TG,MG,cv];refine aL (λhc=>?_) (λhc=>?_);simp only[go_sem];apply aG [0,1,2,3] (aB _) s_ z_ l_ h_ (Q7 F u (VL.pr c (VL.pr q C)) a b o_ o_ o_ (A.pr c o_));rintro r L ⟨t,⟨fb,O,e,hf⟩,E⟩;subst O;subst E
 cases fb with
 |true=>
  simp only[go_sem,aM,TG,MG];exact⟨t,⟨q.trans ((c.trans e).wide K J),R t (c.trans e) (hf rfl)⟩,rfl⟩
 |false=>
  simp only[go_sem,aM,TG,MG,cv];exact⟨t,c.trans e,rfl⟩
 simp only[go_sem,aM,TG,MG,cv];grind
 cases x with
 |false=>simp only[go_sem,aM,TG,MG,cv];exact⟨u,c,rfl⟩|true=>
  cases w with
  |false=>simp only[go_sem,aM,TG,MG,cv];exact⟨u,c,rfl⟩|true=>exact absurd ⟨rfl,rfl⟩ B
 rintro s ⟨t,e,D⟩;subst D;have ab:=e.1
 have Y:PkN g d f a b i t λs=>∃m,m<n1/\∃(a b k:Nat)(x w:Bool)(l1:O3),m=b-a/\I<=a/\a<=b/\b<=H/\k<=1000000000/\PR I H l l1/\SQ a b l1/\(∀l2,PR a b l1 l2->SR a b l2->SR I H l2)/\DB [] s=pkS g d f a b k x w l1 :=
  λa' b' v8 v9 l6 s h1 h2 h3 h4 Z h6 h7 h8=>⟨b'-a',o_,a',b',i,v8,v9,l6,rfl,o_,h3,o_,o,q.trans ((e.trans Z).wide K J),h6,λT U k2=>R T ((e.trans Z).trans (U.wide h2 h4)) (h7 T U k2),h8⟩
 exact aDA F (b-a) (λm hm=>ih m o_) rfl z y (VL.pr (q.trans (e.wide K J)) C) o_ o_ o (A.pr e o_) Y Y;subst D;have ad:=j.1;simp only[go_sem,aM,TG,MG,cv];apply aG [0,1,2,3] (aB _) s_ z_ l_ h_ (Uz F l2 (VL.pr j (VL.pr q C)) a b o_ o_ o_);rintro r L ⟨p,h,z,y,O,E⟩;subst O;subst E;simp only[go_sem,aM,TG,MG];refine OF (λs=>∃(p:Nat)(h:Int)(u:O3),a<=p/\p<b/\PR a b l1 u/\s=⟨4,[(14,iv h),(13,iv p),(12,iv ((b-a:Nat):Int)),(0,.own 0),(1,iv a),(2,iv b),(3,iv i),(4,cv f),(10,.v (.bool x)),(11,.v (.bool w))],(aM g d u)⟩) ?_ ?_ ?_;intro hh;have v1:IntKind.i64.wrap ((b:Int)-1)=((b-1:Nat):Int):=d_;have v2:IntKind.i64.wrap ((p:Int)-(a:Int))=((p-a:Nat):Int):=d_;have v3:IntKind.i64.wrap (((b-1:Nat):Int)-((p-a:Nat):Int))=((b-1-(p-a):Nat):Int):=d_;simp only[go_sem];apply aG [0,1,2,3] (aB _) s_ z_ l_ h_ (Q6 F l2 (VL.pr j (VL.pr q C)) a b o_ o_ o_);rintro r L ⟨u,c,E⟩;subst E;simp only[go_sem,aM,TG,MG,cv,v1,v2,v3];exact⟨b-1-(p-a),1,u,o_,o_,j.trans c,rfl⟩;intro hh;simp only[go_sem,aM,TG,MG,cv];grind;clear z y;rintro s ⟨p,h,u,z,y,c,D⟩;subst D;have ac:=c.1;rw[bC];refine Xs (λs=>∃t:O3,PR a b l1 t/\s=⟨4,[(13,iv p),(12,iv ((b-a:Nat):Int)),(0,.own 0),(1,iv a),(2,iv b),(3,iv i),(4,cv f),(10,.v (.bool x)),(11,.v (.bool w))],(aM g d t)⟩) ?_ ?_;by_cases B:x=true/\w=true;obtain⟨rfl,rfl⟩:=B;simp only[go_sem,aM,TG,MG,cv];refine aL (λhc=>?_) (λhc=>?_);simp only[go_sem];apply aG [0,1,2,3] (aB _) s_ z_ l_ h_ (Q7 F u (VL.pr c (VL.pr q C)) a b o_ o_ o_ (A.pr c o_));rintro r L ⟨t,⟨fb,O,e,hf⟩,E⟩;subst O;subst E
 cases fb with
 |true=>
  simp only[go_sem,aM,TG,MG];exact⟨t,⟨q.trans ((c.trans e).wide K J),R t (c.trans e) (hf rfl)⟩,rfl⟩
 |false=>
  simp only[go_sem,aM,TG,MG,cv];exact⟨t,c.trans e,rfl⟩
 simp only[go_sem,aM,TG,MG,cv];grind
 cases x with
 |false=>simp only[go_sem,aM,TG,MG,cv];exact⟨u,c,rfl⟩|true=>
  cases w with
  |false=>simp only[go_sem,aM,TG,MG,cv];exact⟨u,c,rfl⟩|true=>exact absurd ⟨rfl,rfl⟩ B
 rintro s ⟨t,e,D⟩;subst D;have ab:=e.1
 have Y:PkN g d f a b i t λs=>∃m,m<n1/\∃(a b k:Nat)(x w:Bool)(l1:O3),m=b-a/\I<=a/\a<=b/\b<=H/\k<=1000000000/\PR I H l l1/\SQ a b l1/\(∀l2,PR a b l1 l2->SR a b l2->SR I H l2)/\DB [] s=pkS g d f a b k x w l1 :=
  λa' b' v8 v9 l6 s h1 h2 h3 h4 Z h6 h7 h8=>⟨b'-a',o_,a',b',i,v8,v9,l6,rfl,o_,h3,o_,o,q.trans ((e.trans Z).wide K J),h6,λT U k2=>R T ((e.trans Z).trans (U.wide h2 h4)) (h7 T U k2),h8⟩
 exact aDB F (b-a) (λm hm=>ih m o_) rfl z y (VL.pr (q.trans (e.wide K J)) C) o_ o_ o (A.pr e o_) Y Y
end
def FY:∀{l m:O3},l.Perm m->l.Pairwise (· <= ·)->m.Pairwise (· <= ·)->l=m
 |[],m,a,_,_=>(List.nil_perm.1 a).symm ▸ rfl
 |x::l,[],a,_,_=>absurd a.length_eq k_
 | x::l,y::m,a,d,h2=>by
  obtain⟨i,h⟩:=H5.1 d;obtain⟨g,f⟩:=H5.1 h2;have e:x=y:=by have c:x∈y::m:=a.mem_iff.1 k_;have b:y∈x::l:=a.mem_iff.2 k_;rcases cS.1 c with e|c;exact e;rcases cS.1 b with e|b;exact e.symm;exact Nat.le_antisymm (i y b) (g x c)
  subst e;rw[FY (List.perm_cons x |>.1 a) h f]
def FZ{l:O3}(h:SR 0 l.length l):l.Pairwise (· <= ·):=by rw[QD];intro i j c b a;have:=h i j (pR _) (H9 a) b;simpa[rH,c,b]using this
def Gf(S:O6)(n:Nat):Id:=S.getD n default
def aDC{S:O6}{x:Id}(h:x∈S):Gf S (S.idxOf x)=x:=by have a:=aBR h;rw[Gf,rH,jN a];exact List.getElem_idxOf a
def aIb{S L:O6}(h:∀x∈L,x∈S):kl (Gf S) (L.map S.idxOf)=L.map Id.A:=by simp only[kl,rI];refine LD λx a=>?_;simp only[Function.comp_apply,aDC (h x a)]
def aAS{S:O6}(a:S.Nodup):S.map S.idxOf=List.range S.length:=by apply Ki;simp;intro i b h2;simp only[zL,List.getElem_range];exact a.idxOf_getElem i _
def aDD(S:O6):kl (Gf S) (List.range S.length)=S.map Id.A:=by
 apply Ki;simp;intro i b h2;have a:i<S.length:=dx;simp[Gf,rH,a]
section
variable{g:PGM}{d:Nat->Id}{f N:Nat}
def aAT(a:rF G g d f N)(n:Nat):XB G g d f N n:=Nat.strongRecOn n λm ih=>aKe a m ih
def XC(i:rF G g d f N)(l:O3)(b:VL N l)(h:l.length<=60000):aA PQ G bK [.own 0,cv f] (aM g d l) (Gz g d λr a=>r=.tup []/\PR 0 l.length l a/\SR 0 l.length a):=by refine aC pJ ?_;simp only[go_sem,aM,TG,MG,cv,aP,bS l.length o_];apply Jo (aD6 l.length o_);rintro r j ⟨⟨m,rfl,k,_⟩,rfl⟩;simp only[go_sem];apply aG [0,1,2,3] (aB _) s_ k_ l_ h_ (aAT i l.length l b 0 l.length m (QO _) (pR _) (cN _) h o_ (.inl rfl));rintro r j ⟨a,⟨e,c⟩,rfl⟩;simp only[go_sem,aM,TG,MG];exact⟨a,⟨rfl,e,c⟩,rfl⟩
def aIc{S L:O6}(o:S.Nodup)(e:L.Perm S)(p:L.length<=60000)(q:rF G g (Gf S) f S.length):aA PQ G bK [.own 0,cv f] (some (.arr 3 (L.map Id.A))::TG 1 g) λr T=>r=.tup []/\T=some (.arr 3 (S.map Id.A))::TG 1 g:=by
 have k:∀x∈L,x∈S:=λx c=>e.mem_iff.1 c
 have a:=XC q (L.map S.idxOf) (λn h=>by
  obtain⟨x,c,rfl⟩:=dF.1 h
  exact aBR (k x c)) (by simpa using p)
 have t:aM g (Gf S) (L.map S.idxOf)=some (.arr 3 (L.map Id.A))::TG 1 g:=by rw[aM,aIb k]
 rw[t]at a;apply a.mono;rintro r w ⟨m,⟨rfl,l,h2⟩,rfl⟩;have s:m=List.range S.length:=by have b:=l.1;apply FY ((l.2.2.trans (e.map S.idxOf)).trans (.of_eq (aAS o))) (FZ (by rw[b];exact h2));rw[QD];intro i j v u d;simpa using H9 d
 exact⟨rfl,by rw[s,aM,aDD]⟩
end
def Su(g:PGM)(x:Id):Int:=if x∈g.I then(g.nd x).lv else 0
def P0(g:PGM)(x y:Id):Bool:=decide (Su g x<Su g y)||(decide (Su g x=Su g y)&&x.lt y)
def aST(g:PGM)(x:Id):P0 g x x=false:=by simp_all[P0,Id.lt_irrefl,Ea,EB]
def aFP{g:PGM}{x y:Id}(h:P0 g x y=false)(k:P0 g y x=false):x=y:=by
 simp only[P0,YE,aBM,decide_eq_false_iff_not]at h k;have e:Su g x=Su g y:=o_;exact Id.lt_total (h.2.resolve_left o_) (k.2.resolve_left o_)
def aAX{g:PGM}{x y:Id}(h:P0 g x y=true):P0 g y x=false:=by
 simp only[P0,Ec,zJ,decide_eq_true_eq,YE,aBM,decide_eq_false_iff_not]at h⊢;rcases h with h|⟨a,h2⟩
 omega;exact⟨o_,.inr (Id.lt_asymm h2)⟩
def XE{g:PGM}{x y z:Id}(h:P0 g y x=false)(k:P0 g z y=false):P0 g z x=false:=by simp only[P0,YE,aBM,decide_eq_false_iff_not]at h k⊢;refine⟨o_,?_⟩;by_cases e:Su g z=Su g x;exact .inr (Id.nlt_trans (k.2.resolve_left o_) (h.2.resolve_left o_));exact .inl e
def aIW(g:PGM)(l:O6):O6:=l.mergeSort λx y=>!(P0 g y x)
def mE(g:PGM)(l:O6):(aIW g l).Perm l:=H4 l _
def aDM(g:PGM)(l:O6):(aIW g l).length=l.length:=(mE g l).length_eq
def U4(g:PGM)(l:O6):(aIW g l).Pairwise λx y=>P0 g y x=false:=by
 have:=List.pairwise_mergeSort (le:=λx y=>!(P0 g y x)) (λa b c d h2=>by simp only[EX]at *;exact XE d h2)
  (λa b=>by
   cases h:P0 g b a with
   |false=>simp|true=>simp[aAX h]) l
 refine this.imp λh=>?_;simpa using h
def aPZ {g:PGM}:∀{l m:O6},l.Perm m->l.Pairwise (λx y=>P0 g y x=false)->m.Pairwise (λx y=>P0 g y x=false)->l=m
 |[],m,a,_,_=>(List.nil_perm.1 a).symm ▸ rfl
 |x::l,[],a,_,_=>absurd a.length_eq k_
 | x::l,y::m,a,d,h2=>by
  obtain⟨j,i⟩:=H5.1 d;obtain⟨h,f⟩:=H5.1 h2;have e:x=y:=by have c:x∈y::m:=a.mem_iff.1 k_;have b:y∈x::l:=a.mem_iff.2 k_;rcases cS.1 c with e|c;exact e;rcases cS.1 b with e|b;exact e.symm;exact aFP (h x c) (j y b)
  subst e;rw[aPZ (List.perm_cons x |>.1 a) i f]
def B2(g:PGM)(x y:Id):Int:=nF [wG (Su g x) (Su g y),if x.lt y then -1 else if y.lt x then 1 else 0]
def U5{g:PGM}{x y:Id}(h:P0 g x y=true):B2 g x y=-1:=by simp only[P0,Ec,zJ,decide_eq_true_eq]at h;grind[B2,wG,nF]
def aDN{g:PGM}{x y:Id}(h:P0 g y x=true):B2 g x y=1:=by
 simp only[P0,Ec,zJ,decide_eq_true_eq]at h;rcases h with h|⟨a,h2⟩
 grind[B2,wG,nF];simp[B2,wG,nF,a,h2,Id.lt_asymm h2]
theorem aDO(g:PGM)(x:Id):B2 g x x=0:=by simp[B2,wG,nF,Id.lt_irrefl]
def aKk(n:ND)(h:n.W.length=4):n.A[34]?=some (iv n.lv):=by simp_all[ND.A,OpM.len,oC,Id.A]
def aV1{g:PGM}{x:Id}{j:Nat}(h:g.I.findIdx? (λy=>decide (y=x))=some j):g.nd x=g.nodes.getD j XD:=by simp[PGM.nd,PGM.at,h]
def GL(g:PGM)(h:g.ok)(x:Id):aA PQ G aJ5 [.ptr 0 0,.ag x.A] (TG 0 g) λr T=>r=iv (Su g x)/\T=TG 0 g:=by
 apply aC Dk;have m:=AL x;have a:=qH x g.I 0;by_cases b:x∈g.I;obtain⟨j,d,h2,_⟩:=dG b;have e:=aV1 d;rw[d]at a;have i:=yC g.I.length j h2;have f:j<g.nodes.length:=by grind[PGM.I]
 have k:(g.nodes.map ND.A)[j]?=some (g.nd x).A:=e_;have c:=(Q9 h x).1;have l:=aKk (g.nd x) c;have o:=ND.Alen (g.nd x) c;simp only[iX,mG]at a;simp only[Su,if_pos b];generalize(g.nd x)=n at *
 simp only[go_sem,TG,MG,a,i,aP,f,k,l];rw[aOH b]at a;simp only[xD]at a;simp only[go_sem,TG,MG,a,Su,if_neg b]
def aU8(g:PGM)(b:g.ok)(x y:Id):aA PQ G lL [.ag [.ptr 0 0],.ag x.A,.ag y.A] (TG 0 g) λr T=>r=iv (B2 g x y)/\T=TG 0 g:=by refine aC EP ?_;simp only[go_sem,TG,MG];apply cX (Cm x y);simp only[go_sem];refine aL (λh=>?_) (λh=>?_);rotate_left;simp only[go_sem];apply cX (Cm y x);simp only[go_sem];refine aL (λh2=>?_) (λh2=>?_);simp only[go_sem];apply aG [0,1,2] (aB _) s_ k_ a_ u_ (GL g b x);rintro r a ⟨rfl,rfl⟩;simp only[go_sem,TG,MG];apply aG [0,1,2] (aB _) s_ k_ a_ u_ (GL g b y);rintro r a ⟨rfl,rfl⟩;simp only[go_sem,TG,MG];apply cX (kB _ _);simp only[go_sem];apply cH (aB _) rfl rfl (AC [wG (Su g x) (Su g y),1] (by simp[maxLen]));rintro r a ⟨rfl,rfl⟩;refine⟨w_,k_,?_⟩;simp only[go_sem,B2,h,h2,jJ];simp only[go_sem];apply aG [0,1,2] (aB _) s_ k_ a_ u_ (GL g b x);rintro r a ⟨rfl,rfl⟩;simp only[go_sem,TG,MG];apply aG [0,1,2] (aB _) s_ k_ a_ u_ (GL g b y);rintro r a ⟨rfl,rfl⟩;simp only[go_sem,TG,MG];apply cX (kB _ _);simp only[go_sem];apply cH (aB _) rfl rfl (AC [wG (Su g x) (Su g y),0] (by simp[maxLen]));rintro r a ⟨rfl,rfl⟩;refine⟨w_,k_,?_⟩;simp only[go_sem,B2,h,h2,jJ];simp only[go_sem];apply aG [0,1,2] (aB _) s_ k_ a_ u_ (GL g b x);rintro r a ⟨rfl,rfl⟩;simp only[go_sem,TG,MG];apply aG [0,1,2] (aB _) s_ k_ a_ u_ (GL g b y);rintro r a ⟨rfl,rfl⟩;simp only[go_sem,TG,MG];apply cX (kB _ _);simp only[go_sem];apply cH (aB _) rfl rfl (AC [wG (Su g x) (Su g y),-1] (by simp[maxLen]));rintro r a ⟨rfl,rfl⟩;refine⟨w_,k_,?_⟩;simp only[go_sem,B2,h,jJ]
def K2{g:PGM}{l:O6}(c:l.Nodup):(aIW g l).Pairwise λx y=>P0 g x y=true:=by
 have d:=U4 g l;have h2:(aIW g l).Pairwise (· ≠ ·):=(mE g l).nodup_iff.2 c;refine(d.and h2).imp ?_;rintro x y ⟨a,b⟩
 cases h:P0 g x y with
 |true=>rfl|false=>exact absurd (aFP h a) b
def aFQ{g:PGM}(j:g.ok){l:O6}(i:l.Nodup):rF G g (Gf (aIW g l)) lL (aIW g l).length:=by
 intro a b d c;have e:=QD.1 (K2 (g:=g) i);have m:Gf (aIW g l) a=(aIW g l)[a]:=by simp[Gf,rH,d]
 have k:Gf (aIW g l) b=(aIW g l)[b]:=by simp[Gf,rH,c]
 have f:B2 g (Gf (aIW g l) a) (Gf (aIW g l) b)=XA a b:=by rw[m,k];unfold XA;rcases aGJ a b with h|h|h;rw[if_pos h,U5 (e a b d c h)];grind[aDO];rw[if_neg o_,if_pos h,aDN (e b a c d h)]
 have:=aU8 (G:=G) g j (Gf (aIW g l) a) (Gf (aIW g l) b);simp_all
def aDP(g:PGM)(c:g.ok)(l:O6)(a:l.Nodup)(b:l.length<=60000):aA PQ G mJ [.ptr 0 0,ids l] (TG 0 g) λr T=>r=.own 3/\T=TG 0 g++[some (.arr 3 ((aIW g l).map Id.A))]:=by refine aC LS ?_;simp only[go_sem,TG,MG];apply aBF (MO l o_);simp only[go_sem];apply aG [3,0,1,2] (aB _) s_ k_ l_ u_ (aIc ((mE g l).nodup_iff.2 a) (mE g l).symm b (aFQ c a));rintro r d ⟨rfl,rfl⟩;simp only[go_sem,TG,MG]
def ZK(g:PGM)(c:g.ok)(l:O6)(a:l.Nodup)(b:l.length<=60000):aA PQ G mJ [.ptr 0 0,ids l] (TG 0 g) λr T=>r=ids (aIW g l)/\T=TG 0 g:=by refine(aDP g c l a b).fin [3] ?_;rintro r d ⟨rfl,rfl⟩;simp only[go_sem,TG,MG]
def aB5{cs:List CardM}{d:Int}(h:(gM cs d).2=true):(gM cs d).1.Device=d:=by unfold gM at h⊢;grind
def aG0(a:List ND)(o:OpM)(W:O3)(n:Nat)(c:1<=o.Seq)(h:∀j,j<n->(a.getD j XD).o.By=o.By->qK W j=true->(a.getD j XD).o.Seq<o.Seq):(BY a o W n).1<o.Seq:=by
 induction n with
 |zero=>simp only[BY];omega|succ n ih=>
  have b:=ih λj d=>h j o_;unfold BY;grind
def XR(a:List ND)(o:OpM)(W:O3)(n j:Nat)(b:j<n)(d:(a.getD j XD).o.By=o.By)(h2:qK W j=true)(c:(a.getD j XD).o.Seq=o.Seq-1):(BY a o W n).2=true:=by
 induction n with
 |zero=>omega|succ n ih=>
  unfold BY;grind
def aE8{p:PGM}{g:GM}{o:OpM}(s:Sim p g)(z:p.ok)(w:g.wf)(h:(dV g o).1=0):(sR p o).2=0/\Sim (sR p o).1 (aMC g o).1:=by
 have a:=Ff h;have T:p.nodes.length=g.L.length:=by rw[<-s.l,aP]
 have f:=aE0 w a;have Z:vF o=0:=(Aq o).trans a.check;have hI:∀x∈o.Past,x∈p.I:=λx d=>by rw[s.i];exact(Cz g.I x).1 (a.there x d)
 have X:C7 o∉p.I:=λd=>a.twice ((Cz g.I _).2 (s.i ▸ d));have R:=s.c o.By;have W:((o.By==(gM p.cards o.By).1.Device)&&BW (gM p.cards o.By).1.Sign o.B o.SR o.SS)=true:=by rw[R,a.sig,yH,aB5 a.card];simp
 have V:CQ p o=[]:=List.filter_eq_nil_iff.2 λx d=>by simp[hI x d]
 have N:∀x,p.at x=(aW g.I x).toNat:=λx=>by rw[aDZ,s.i]
 have q:∀x∈o.Past,p.at x∈yW g o:=λx d=>by rw[N];exact dF.2 ⟨x,d,rfl⟩
 have A:∀k∈yW g o,∃x∈o.Past,p.at x=k:=λk u=>by obtain⟨x,d,e⟩:=dF.1 u;grind
 have C:∀k,(qK (Hg p o.Past) k=true)↔k∈yW g o:=λk=>by rw[aDX p z.n o.Past (λx d=>by have:=f _ (q x d);have:=z.n;omega)];grind
 have E:∀k,k<256->((qK (Hh p o.Past) k=true)↔∃i∈yW g o,(g.In.getD i []).getD k false=true):=λk u=>by rw[aDY z];constructor;rintro⟨x,d,H⟩;refine⟨p.at x,q x d,?_⟩;rw[<-s.w _ (f _ (q x d)) k u];exact H;rintro⟨i,t,H⟩;obtain⟨x,d,rfl⟩:=A i t;refine⟨x,d,?_⟩;rw[<-s.w _ (f _ t) k u]at H;exact H
 have J:∀i,i<g.L.length->(p.nodes.getD i XD).o=g.L.getD i default:=λi t=>by
  have Q:p.nodes.getD i XD=p.nodes[i]:=e_;have P:g.L.getD i default=g.L[i]:=e_;rw[Q,P];have b:(p.nodes.map (·.o))[i]?=g.L[i]?:=by rw[s.l]
  simp_all
 have y:=a.order;unfold J0 at y;rw[oD]at y;have U:Cu (Hg p o.Past) (Hh p o.Past)=z4:=by refine aB3 (JB p _) (JC z _) λk u b=>?_;grind
 have v:=Dv a.check;have k9:G0 p o.Past<=o.At:=by refine aFY p o.At o.Past v.2.2.2 λx d=>?_;have t:=q x d;have b:(p.nd x).o=g.L.getD (p.at x) default:=J _ (f _ t);grind
 have m:∀k,k<256->((qK (BF p o) k=true)↔((oL g (yW g o)).getD k false=true)):=λk u=>by rw[Ok g _ f w.up,RU.head,BF,ZM (JC z _) (JB p _),Ec,C,E k u];constructor;rintro(⟨i,t,b⟩|b);exact .inr ⟨i,t,(w.past i (f i t) k).1 b⟩;exact .inl b;rintro(b|⟨i,t,b⟩);exact .inr b;exact .inl ⟨i,t,(w.past i (f i t) k).2 b⟩
 have M:(oL g (yW g o)).length=g.L.length:=Cs g _;have F:=a.right;unfold FT at F;rw[zJ,oD]at F;have aa:(g.L.zip (oL g (yW g o))).length=g.L.length:=by simp[M]
 have S:∀j(G:j<g.L.length),(g.L.zip (oL g (yW g o)))[j]'o_=(g.L.getD j default,(oL g (yW g o)).getD j false):=λj G=>by rw[List.getElem_zip,rH,rH,jN G,jN o_];rfl
 have Y:(BY p.nodes o (BF p o) p.nodes.length).1<o.Seq:=by refine aG0 _ _ _ _ v.1 λj G b h2=>?_;rw[J j o_]at b⊢;have h3:=(m j (by have:=z.n;omega)).1 h2;have O:=F.1 _ (eQ (o_:j<(g.L.zip (oL g (yW g o))).length));rw[S j o_]at O;simp only[I0,h3,b]at O;simpa using O
 have K:MQ p o=false:=by
  unfold MQ;rw[decide_eq_false o_,EH];rcases Ec _ _ ▸ F.2 with b|b;have:o.Seq=1:=B_;rw[decide_eq_false o_];rfl;rw[CX]at b;obtain⟨e,he,h2⟩:=b;obtain⟨j,G,rfl⟩:=CU he;rw[S j o_]at h2;simp only[I0,zJ,beq_iff_eq]at h2;rw[XR p.nodes o (BF p o) p.nodes.length j o_ (by rw[J j o_];exact h2.1.2) ((m j (by have:=z.n;omega)).2 h2.1.1) (by rw[J j o_];exact h2.2)];simp
 have D:sR p o=(⟨p.cards,p.nodes++[⟨o,C7 o,BF p o,Fa p o.Past⟩]⟩,0):=by rw[sR,if_neg (by simp[Z]),Oa,if_neg X,if_neg (by have:=a.full;omega),if_neg (by rw[R,a.card];decide),if_neg (by rw[W];decide),if_neg (by rw[T,a.kind];decide),if_neg (by rw[V];decide),Q8,if_neg (by rw[U,decide_eq_false o_];decide),if_neg (by rw[K];decide)]
 rw[D,yE a h];refine⟨rfl,s.c,by simp[s.l],by simp only[PGM.I,bZ,fG,uP];rw[<-s.i];rfl,?_⟩;intro i t k u;simp only[dZ,GT]at t;rcases eD i g.L.length with b|b;rw[aE1 w _ i b k,Ol _ _ _ _ o_];exact s.w i b k u;obtain rfl:i=g.L.length:=o_;have Q:((g.In.map λr=>r++[false])++[oL g (yW g o)++[false]]).getD g.L.length []=oL g (yW g o)++[false]:=by
  have h2:g.L.length=(g.In.map λr=>r++[false]).length:=by simp[w.inn]
  rw[h2];exact D2 _ _ _
 have P:(p.nodes++[(⟨o,C7 o,BF p o,Fa p o.Past⟩:ND)]).getD g.L.length XD=⟨o,C7 o,BF p o,Fa p o.Past⟩:=by rw[<-T];exact D2 _ _ _
 rw[Q,P,RC,aO8];exact m k u
inductive Reach(cs:List CardM):GM->Prop
 |new:Reach cs ⟨cs,[],[],[],[]⟩|add {g:GM} {o:OpM}:Reach cs g->o.ok->(C7 o).ok->Reach cs (aMC g o).1
structure Good(cs:List CardM)(g:GM):Prop where
 ok:g.ok
 wf:g.wf
 cards:g.Cards=cs
 n:g.L.length<=200
 ids:∀o∈g.L,(C7 o).ok
 sim:Sim (AM cs g.L) g
 all:∀i(h:i<g.L.length),(sR (AM cs (g.L.take i)) g.L[i]).2=0
def Reach.good {cs:List CardM} (c:cardsOk cs) {g:GM} (h:Reach cs g):Good cs g:=by
 induction h with
 |new=>
  exact⟨⟨k_,c.n,c.cs,k_,rfl,k_,rfl,k_,rfl,k_⟩,aIh cs,rfl,k_,k_,aFZ c,k_⟩
 | @add g o _ l f ih=>
  by_cases h:(dV g o).1=0;have a:=Ff h;have e:=yE a h;have d:(AM cs g.L).ok:=XM c g.L λx b=>⟨ih.ok.ops x b,ih.ids x b⟩
  have p:=aE8 ih.sim d ih.wf h;have j:(aMC g o).1.L=g.L++[o]:=by rw[e]
  have q:=a.full;refine⟨aFI ih.ok l o_ f,aIi ih.wf h,by rw[e];exact ih.cards,by rw[j];simp;omega,?_,?_,?_⟩;intro x b;rw[j]at b;rcases cG.1 b with b|b;exact ih.ids x b;simp_all;grind[MS];intro i m;simp only[j,dZ,GT]at m⊢;rcases eD i g.L.length with k|k;rw[Rf o_,List.getElem_append_left k];exact ih.all i k;grind;grind[aMC]
def aU9{p:PGM}{o:OpM}(h:(sR p o).2=0):(sR p o).1=⟨p.cards,p.nodes++[⟨o,C7 o,BF p o,Fa p o.Past⟩]⟩:=by grind[sR,Oa,Q8]
def aSi(a:List O3)(u:O3):∀i,i<=a.length->aN5 (a++[u]) i=aN5 a i|0,_=>rfl|i+1,h=>by rw[aN5,aN5,aSi a u i o_,Ol _ _ _ _ o_]
structure RowOk(cs:List CardM)(g:GM):Prop where
 ids:g.I=g.L.map C7
 nd:g.I.Nodup
 par:∀i,i<g.L.length->∀y∈(g.L.getD i default).Past,∃k∈g.Up.getD i [],g.I[k]?=some y
 lv:∀i,i<g.L.length->((AM cs g.L).nodes.getD i XD).lv=(aN5 g.Up g.L.length).getD i 0
def aRr{I:O6}{x:Id}(h:0<=aW I x):I[(aW I x).toNat]?=some x:=by
 unfold aW qX at *
 cases e:I.findIdx? (λy=>decide (y=x)) with
 |none=>rw[e]at h;simp at h|some j=>
  obtain⟨a,h2,_⟩:=Ad.1 e;simp_all
def aSj(f:Id->Int)(h:Nat->Int)(a:Id->Nat):∀(l:O6)(m:Int),(∀x∈l,f x=h (a x))->l.foldl (λm x=>max m (f x+1)) m=(l.map a).foldl (λm k=>max m (1+h k)) m|[],_,_=>rfl|x::l,m,b=>by simp only[CW,fG];rw[b x k_,Int.add_comm];exact aSj f h a l _ λy c=>b y (by simp[c])
def Reach.row {cs:List CardM} (t:cardsOk cs) {g:GM} (h:Reach cs g):RowOk cs g:=by
 induction h with
 |new=>exact⟨rfl,Mm,k_,k_⟩| @add g o w E A ih=>
  by_cases h:(dV g o).1=0;rotate_left;grind[aMC];have c:=w.good t;have a:=Ff h;have r:=aE0 c.wf a;have p:(AM cs g.L).ok:=XM t g.L λx m=>⟨c.ok.ops x m,c.ids x m⟩
  have u:=aE8 c.sim p c.wf h;have v:=aU9 u.1;have s:(AM cs g.L).nodes.length=g.L.length:=by have:=congrArg List.length c.sim.l;rwa[aP]at this
  have G:=c.wf.i;have f:=c.wf.un;rw[yE a h];refine⟨by simp[ih.ids],?_,?_,?_⟩;rw[vQ];refine⟨ih.nd,k_,?_⟩;intro x m y d e;rw[aE5.1 d]at e;exact a.twice ((Cz g.I _).2 (e ▸ m));intro i j y d;simp only[dZ,GT]at j;rcases eD i g.L.length with b|b;rw[Ol _ _ _ _ b]at d;rw[Ol _ _ _ _ (by rw[f];exact b)];obtain⟨k,F,e⟩:=ih.par i b y d;grind;obtain rfl:i=g.L.length:=o_;rw[D2]at d;have q:(g.Up++[yW g o]).getD g.L.length []=yW g o:=by rw[<-f];exact D2 _ _ _
  rw[q];have z:=a.there y d;refine⟨(aW g.I y).toNat,dF.2 ⟨y,d,rfl⟩,?_⟩;have n:=r _ (dF.2 ⟨y,d,rfl⟩);rw[mY o_];exact aRr z;intro i j;simp only[dZ,GT]at j⊢;rw[MS,v];have D:aN5 (g.Up++[yW g o]) (g.L.length+1)=aN5 g.Up g.L.length++[Fa (AM cs g.L) o.Past]:=by
   rw[aN5,aSi _ _ _ o_];have q:(g.Up++[yW g o]).getD g.L.length []=yW g o:=by rw[<-f];exact D2 _ _ _
   rw[q];congr 2;unfold Fa;refine(aSj _ (λk=>(aN5 g.Up g.L.length).getD k 0) (λx=>(aW g.I x).toNat) o.Past 1 ?_).symm;intro x m;have n:=r _ (dF.2 ⟨x,m,rfl⟩);rw[PGM.nd,aDZ,c.sim.i];exact ih.lv _ n
  rw[D];rcases eD i g.L.length with b|b;rw[Ol _ _ _ _ (by rw[s];exact b),Ol _ _ _ _ (by rw[aP0];exact b)];exact ih.lv i b;obtain rfl:i=g.L.length:=o_;have C:((AM cs g.L).nodes++[(⟨o,C7 o,BF (AM cs g.L) o,Fa (AM cs g.L) o.Past⟩:ND)]).getD g.L.length XD=⟨o,C7 o,BF (AM cs g.L) o,Fa (AM cs g.L) o.Past⟩:=by rw[<-s];exact D2 _ _ _
  have B:(aN5 g.Up g.L.length++[Fa (AM cs g.L) o.Past]).getD g.L.length 0=Fa (AM cs g.L) o.Past:=by
   have:=aP0 g.Up g.L.length
   conv=>lhs;arg 2;rw[<-this]
   exact D2 _ _ _
  rw[C,B]
section
variable{cs:List CardM}{g:GM}
def aQI(b:cardsOk cs)(h:Reach cs g)(i:Nat)(m:i<g.L.length):(AM cs g.L).nd (g.I.getD i default)=(AM cs g.L).nodes.getD i XD/\((AM cs g.L).nd (g.I.getD i default)).o=g.L.getD i default:=by
 have a:=h.good b;have r:=h.row b;have hI:=a.wf.i;have k:(AM cs g.L).nodes.length=g.L.length:=by have:=congrArg List.length a.sim.l;rwa[aP]at this
 have j:g.I.getD i default=g.I[i]'o_:=e_;have f:(AM cs g.L).at (g.I.getD i default)=i:=by
  rw[aDZ,a.sim.i,j];have c:0<=aW g.I g.I[i]:=(Cz _ _).2 (eQ _);have h2:=aRr c;have e:(aW g.I g.I[i]).toNat<g.I.length:=m_;rw[jN e]at h2;exact(C9 r.nd).1 (Option.some.inj h2)
 have d:(AM cs g.L).nd (g.I.getD i default)=(AM cs g.L).nodes.getD i XD:=by rw[PGM.nd,f]
 refine⟨d,?_⟩;rw[d];have c:((AM cs g.L).nodes.map (·.o))[i]?=g.L[i]?:=by rw[a.sim.l]
 simp_all
def aSk(a:cardsOk cs)(h:Reach cs g)(i:Nat)(b:i<g.L.length):Su (AM cs g.L) (g.I.getD i default)=(aN5 g.Up g.L.length).getD i 0:=by
 have c:=h.good a;have hI:=c.wf.i;have d:g.I.getD i default=g.I[i]'o_:=e_;rw[Su,if_pos (by rw[c.sim.i,d];exact eQ _),(aQI a h i b).1,(h.row a).lv i b]
def aV2(a:cardsOk cs)(h:Reach cs g)(i k:Nat)(c:i<g.L.length)(b:k<g.L.length):P0 (AM cs g.L) (g.I.getD i default) (g.I.getD k default)=ahM (aN5 g.Up g.L.length) g.I i k:=by unfold P0 ahM;rw[aSk a h i c,aSk a h k b];grind
def aXr (p:cardsOk cs) (h:Reach cs g) {x y:Id} (z:x∈g.I) (s:y∈((AM cs g.L).nd x).o.Past):P0 (AM cs g.L) y x=true:=by
 have v:=h.good p;have r:=h.row p;have hI:=v.wf.i;obtain⟨i,E,rfl⟩:=CU z;have c:i<g.L.length:=o_;have D:g.I.getD i default=g.I[i]:=e_;rw[<-D]at s⊢;rw[(aQI p h i c).2]at s;obtain⟨k,d,e⟩:=r.par i c y s;have t:=v.wf.up i k d;have C:y=g.I.getD k default:=e_;rw [C,aV2 p h k i o_ c];have q:(aN5 g.Up g.L.length).getD k 0<(aN5 g.Up g.L.length).getD i 0:=by
  have b:∀n,∀j,j<n->(aN5 g.Up n).getD j 0=(aN5 g.Up (j+1)).getD j 0:=by
   intro n
   induction n with
   |zero=>intro j A;omega|succ n ih=>
    intro j A;rcases eD j n with u|u;rw[aN5,Ol _ _ _ _ (by rw[aP0];exact u)];exact ih j u;grind
  rw[b _ i c,b _ k o_];have B:(aN5 g.Up (i+1)).getD i 0=(g.Up.getD i []).foldl (λm k=>max m (1+(aN5 g.Up i).getD k 0)) 1:=by have:=aP0 g.Up i;grind[aN5]
  rw[B,<-b i k t];have w:∀(f:Nat->Int)(l:O3)(m:Int),(m<=l.foldl (λm k=>max m (1+f k)) m)/\∀k∈l,1+f k<=l.foldl (λm k=>max m (1+f k)) m:=by
   intro f l
   induction l with
   |nil=>intro m;exact⟨Int.le_refl _,k_⟩|cons a l ih=>
    intro m;have:=ih (max m (1+f a));refine⟨Int.le_trans (Int.le_max_left _ _) this.1,λk d=>?_⟩;rcases cS.1 d with rfl|d;exact Int.le_trans (Int.le_max_right _ _) this.1;exact this.2 k d
  have:=(w (λk=>(aN5 g.Up i).getD k 0) (g.Up.getD i []) 1).2 k d;omega
 unfold ahM;rw[if_neg o_];exact decide_eq_true q
end
def aE6(I:O6)(l:O4)(i:Nat)(h:i<l.length)(a:i<4):Hj I (l.take (i+1))=Hj I (l.take i)++[I.getD (pX l[i] I.length).toNat default]:=by unfold Hj;rw[Mj,Mj,(o_:min 4 (i+1)=i+1),(o_:min 4 i=i),<-aBV h,bZ];rfl
def Ot(I:O6)(l:O4):(Hj I l).length<=4:=by grind[Hj,List.length_map,List.length_take]
def BJ(n:Int)(m:Int)(a:0<m):0<=pX n m/\pX n m<m:=by unfold pX;exact⟨Int.emod_nonneg _ o_,Int.emod_lt_of_pos _ a⟩
def aB4 (g:GM) (d:g.ok) (l:O4) (K:l.length<=2^63-1) (w:∀n∈l,mZ n):aA PQ G zR [.ag g.A,rG l] [] λr T=>(r=ids (qI g l)/\T=[]/\(l=[]\/g.L=[]))\/(r=.own 0/\T=[some (.arr 3 ((qI g l).map Id.A))]):=by
 apply aC LJ;have hI:=d.i;by_cases h:l=[]
 subst h;simp only[go_sem,gQ,undef];apply cX (JG g d);simp only[go_sem,qI,true_or,true_and];have u:0<l.length:=H3.2 h;have q:((l.length:Int)==0)=false:=n_;by_cases h2:g.L=[]
 have F:((g.I.length:Int)==0)=true:=by rw[hI,h2];rfl
 have m:((g.L.length:Int)==0)=true:=by rw[h2];rfl
 simp only[go_sem,aP,q,m];apply cX (JG g d);simp only[go_sem,qI,h2,or_true];simp;have z:0<g.L.length:=H3.2 h2;have F:((g.I.length:Int)==0)=false:=e_;have m:((g.L.length:Int)==0)=false:=dx;have E:qI g l=Fd g (Hj g.I l):=by grind[qI]
 rw[E];have J:=d.n;simp only[go_sem,aP,q,m];refine jG (λs=>s=⟨0,[(2,.ptr 0 0),(5,.own 1)],[some (.box g.A),some (.arr 3 ((Hj g.I l).map Id.A))]⟩) ?_ ?_;refine aQ (min l.length 4) (λi=>⟨0,[(1,rG l),(2,.ptr 0 0),(5,.own 1),(6,iv i)],[some (.box g.A),some (.arr 3 ((Hj g.I (l.take i)).map Id.A))]⟩) (λ_=>True) ?_ trivial ?_ ?_;rfl;intro i v _;have a:i<l.length:=o_;have f:i<4:=o_;have t:=fQ i o_;have C:(l.map λn=>[iv n])[i]?=some [iv l[i]]:=aO _ l i a;have c:=w l[i] (eQ a);have H:decide ((i:Int)<4)=true:=decide_eq_true o_;have b:=Ot g.I (l.take i);rw[aE6 g.I l i a f];generalize l[i]=x at *
 generalize Hj g.I (l.take i)=O at *
 have N:=BJ x g.I.length o_;have p:(g.I.map Id.A)[(pX x g.I.length).toNat]?=some (g.I.getD (pX x g.I.length).toNat default).A:=e_;have M:(pX x g.I.length).toNat<g.I.length:=o_;have e:((pX x g.I.length).toNat:Int)=pX x g.I.length:=o_;simp only[go_sem,aP,aT a,H,C];apply cX (Dl x g.I.length c.1 c.2 o_ o_);rw[<-e];generalize(pX x g.I.length).toNat=k at *
 obtain⟨y,o⟩:∃y,y=g.I.getD k default:=⟨_,rfl⟩
 rw[<-o]at p;simp only[go_sem,aP,p,bZ,fG,uP,t,(g_:O.length+1<=maxLen),(o_:(O.length+1)*24<=140737488355328)];rw[o];intro _;rcases eD 4 l.length with B|B;have j:min l.length 4=4:=o_;have D:Hj g.I (l.take 4)=Hj g.I l:=by grind[Hj]
 rw[j,D];simp only[go_sem,aP,show decide ((4:Int)<(l.length:Int))=true from decide_eq_true o_];have j:min l.length 4=l.length:=o_;rw[j,dE];simp only[go_sem,aP,aS (bP _),undef];rintro s rfl;have b:=Ot g.I l;simp only[go_sem];apply cH (aB _) rfl rfl (XG g (Hj g.I l) d o_);rintro r P ⟨rfl,rfl⟩;refine⟨w_,by simp only[aE5,forall_eq,xH];exact MR _,?_⟩;simp only[go_sem];exact .inr trivial
def aE7(g:GM)(c:g.ok)(l:O4)(a:l.length<=2^63-1)(b:∀n∈l,mZ n):aA PQ G zR [.ag g.A,rG l] [] λr T=>r=ids (qI g l)/\T=[]:=by refine(aB4 g c l a b).fin [0] ?_;rintro r d (⟨rfl,rfl,_⟩|⟨rfl,rfl⟩);simp only[go_sem,gQ,List.getElem?_nil];simp only[go_sem,gQ]
def aUa(g:GM)(c:g.ok)(l:O4)(a:l.length<=2^63-1)(b:∀n∈l,mZ n)(d:l≠[])(h2:g.L≠[]):aA PQ G zR [.ag g.A,rG l] [] λr T=>r=.own 0/\T=[some (.arr 3 ((qI g l).map Id.A))]:=by refine(aB4 g c l a b).mono ?_;simp_all
def XS(out:O6)(x:Id):(Ps out x).Perm (out++[x]):=by
 unfold Ps;have e:out=out.take (Ha x out out.length)++out.drop (Ha x out out.length):=(LC _ _).symm;generalize Ha x out out.length=p at *
 refine List.Perm.trans ?_ (List.Perm.append_right [x] (List.Perm.of_eq e.symm));rw[lq2,lq2];exact YB _ List.perm_append_comm
def VC(l:O6):∀out,(l.foldl Ps out).Perm (out++l):=by
 induction l with
 |nil=>intro out;simp|cons x l ih=>
  intro out;refine(ih (Ps out x)).trans ?_;have:=List.Perm.append_right l (XS out x);simpa using this
def dQ(l:O6):(jI l).Perm l:=by have:=VC l [];simpa[jI]using this
def aE9{I:O6}{p:Nat->Bool}{n:Nat}(c:n<=I.length):∀x∈Le I p n,x∈I:=by intro x a;unfold Le at a;obtain⟨i,b,rfl⟩:=dF.1 a;have:=uM.1 (gR.1 b).1;rw[rH,jN o_];exact eQ _
def XT{I:O6}{p:Nat->Bool}{n:Nat}(d:n<=I.length)(hI:I.Nodup):(Le I p n).Nodup:=by unfold Le;rw[List.Nodup,Mh];refine(aBT.filter p).imp_of_mem ?_;intro i j c b a e;have f:=uM.1 (gR.1 c).1;have h2:=uM.1 (gR.1 b).1;rw[rH,jN o_,rH,jN o_]at e;exact a ((C9 hI).1 E_)
def RD {I:O6}:∀(l out:O6),(∀x∈out,x∈I)->∀x∈l.foldl (vL I) out,x∈I|[],_,h=>h| y::l,out,h=>RD l _ (by
   intro x a;unfold vL at a;split at a;rename_i b;simp only[zJ,decide_eq_true_eq]at b;rcases cG.1 a with a|a;exact h x a;rw[aE5.1 a];exact(Cz I y).1 b.1
   exact h x a)
def K3{I:O6}:∀(l out:O6),out.Nodup->(l.foldl (vL I) out).Nodup|[],_,h=>h| y::l,out,h=>K3 l _ (by
   unfold vL;split;rename_i c;simp only[zJ,decide_eq_true_eq,EX,decide_eq_false_iff_not]at c;rw[vQ];refine⟨h,k_,?_⟩;intro a f b d e;rw[aE5.1 d]at e;exact c.2 (e ▸ f)
   exact h)
def RE {I c:O6}:∀(l out:O6),(∀x∈out,x∈I)->∀x∈l.foldl (uD I c) out,x∈I|[],_,h=>h| y::l,out,h=>RE l _ (by
   intro x a;unfold uD at a;split at a;rename_i b;simp only[zJ,decide_eq_true_eq]at b;rcases cG.1 a with a|a;exact h x a;rw[aE5.1 a];exact(Cz I y).1 b.1
   exact h x a)
section
variable{g:GM}
def aEa(b:g.I.length=g.L.length)(l:O6):∀x∈rV g l,x∈g.I:=λx a=>aE9 o_ x ((dQ _).mem_iff.1 a)
def XU(b:g.I.length=g.L.length)(a:g.I.Nodup)(l:O6):(rV g l).Nodup:=(dQ _).nodup_iff.2 (XT o_ a)
def Fg(b:g.I.length=g.L.length)(l:O6):∀x∈Fd g l,x∈g.I:=λx a=>RD l _ (aEa b l) x ((dQ _).mem_iff.1 a)
def XV(b:g.I.length=g.L.length)(a:g.I.Nodup)(l:O6):(Fd g l).Nodup:=(dQ _).nodup_iff.2 (K3 l _ (XU b a l))
def aEb(l:O6):(rV g l).length<=g.L.length:=by rw[rV,(dQ _).length_eq];exact JF _ _ _
def Ou(l:O6):(Fd g l).length<=g.L.length+l.length:=by have a:=aEb (g:=g) l;have h2:=GN g.I l (rV g l);rw[Fd,(dQ _).length_eq];omega
def KF(l:O6):∀x∈yV g l,x∈g.I:=λx a=>RE l [] k_ x ((dQ _).mem_iff.1 a)
def aUb(l:O6):(yV g l).length<=l.length:=by have h2:=KE g.I (rV g l) l [];rw[yV,(dQ _).length_eq];simpa using h2
def XW(b:g.I.length=g.L.length)(l:O4):∀x∈qI g l,x∈g.I:=by intro x a;unfold qI at a;split at a;exact(dQ _).mem_iff.1 a;exact Fg b _ x a
def Sy(b:g.I.length=g.L.length)(a:g.I.Nodup)(l:O4):(qI g l).Nodup:=by unfold qI;split;exact(dQ _).nodup_iff.2 a;exact XV b a _
def XX(a:g.ok)(l:O4):(qI g l).length<=g.L.length+4:=by unfold qI;split;rw[(dQ _).length_eq,a.i];omega;have:=Ou (g:=g) (Hj g.I l);have:=Ot g.I l;omega
end
def Ov{o:OpM}(h:jB o=0):o.Seq<=2147483647/\o.At<=2147483647:=by
 unfold jB at h;split at h;simp at h;split at h;simp at h;split at h;simp at h;rename_i a;have:fP o=true:=by cases e:fP o<;>simp_all
 unfold fP oI at this;simp only[zJ,decide_eq_true_eq]at this;omega
def Reach.seqb{cs:List CardM}{g:GM}(h:Reach cs g):∀x∈g.I,x.b<=2147483647:=by
 induction h with
 |new=>simp| @add g o f i d ih=>
  by_cases h:(dV g o).1=0;have a:=Ff h;rw[yE a h];intro x c;rcases cG.1 c with c|c;exact ih x c;rw[aE5.1 c];exact(Ov a.check).1;have e:(aMC g o).1=g:=by rw[aMC,if_pos h]
  rw[e];exact ih
end Hud
