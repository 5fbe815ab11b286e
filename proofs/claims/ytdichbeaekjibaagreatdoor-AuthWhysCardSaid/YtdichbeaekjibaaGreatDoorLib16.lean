import Derived.Test.YtdichbeaekjibaaGreatDoorLib15
set_option linter.all false
set_option maxHeartbeats 40000000
namespace Hud
open Go
variable{G:L_}
section
variable{g:PGM}{d:Nat->Id}{f N:Nat}
def Q7 (hC:rF G g d f N) (l:V_) (J:VL N l) (a b:Nat) (ao:a+12<b) (hb:b<=l.length) (hl:l.length<=1000000000) (V:SQ a b l):
 aA PQ G dA [.own 0,iv a,iv b,cv f] (aM g d l) (Gz g d λr l'=>∃f:Bool,r=.v (.bool f)/\PR a b l l'/\(f=true->SR a b l')):=by
 apply aC lS;simp only[go_sem,aM,TG,MG,cv,fQ a o_];refine cO (λn s=>∃(m i:Nat)(l1:V_),n=5-m/\m<=5/\a<i/\i<=b/\PR a b l l1/\SR a i l1/\s=⟨4,[(0,.own 0),(1,iv a),(2,iv b),(3,cv f),(9,iv i),(10,iv m)],(aM g d l1)⟩) 5
  ⟨0,a+1,l,rfl,o_,o_,o_,PR.refl a b l,SR.small o_,j_⟩ ?_
 rintro n s ⟨m,i,l1,Z,aj,u,A,L,D,rfl⟩;have al:=L.1;have Q:=fQ m o_;by_cases hm:m<5;simp only[go_sem,aM,TG,MG,cv,show decide ((m:Int)<5)=true from decide_eq_true o_];refine jG (λs=>∃i:Nat,a<i/\i<=b/\SR a i l1/\(i=b\/l1.getD i 0<l1.getD (i-1) 0)/\s=⟨4,[(0,.own 0),(1,iv a),(2,iv b),(3,cv f),(9,iv i),(10,iv m)],(aM g d l1)⟩) ?_ ?_;refine cO (λn s=>∃i:Nat,n=b-i/\a<i/\i<=b/\SR a i l1/\s=⟨4,[(0,.own 0),(1,iv a),(2,iv b),(3,cv f),(9,iv i),(10,iv m)],(aM g d l1)⟩) (b-i)
  ⟨i,rfl,u,A,D,j_⟩ ?_
 clear D A u Z;rintro n s ⟨i,Z,u,A,D,rfl⟩;by_cases S:i<b;have X:IntKind.i64.wrap ((i:Int)-1)=((i-1:Nat):Int):=k_;have P:=bL d l1 i o_;have O:=bL d l1 (i-1) o_;simp only[go_sem,aM,TG,MG,cv,aT S,aP,(o_:i<l1.length),(o_:i-1<l1.length),X,P,O];apply jU hC (VL.get (VL.pr L J) o_) (VL.get (VL.pr L J) o_);simp only[go_sem,TG,MG,pY];refine aL (λB=>?_) (λB=>?_);have z:l1.getD (i-1) 0<=l1.getD i 0:=by simpa using B
 simp only[go_sem,aM,TG,MG,cv,fQ i o_];exact⟨b-(i+1),o_,i+1,rfl,o_,o_,Ax (cN _) (Ir D) (.inr z),rfl⟩;have z:l1.getD i 0<l1.getD (i-1) 0:=by simpa using B
 simp only[go_sem,aM,TG,MG,cv];grind;simp only[go_sem,aM,TG,MG,cv,aS S];grind;clear D A u;rintro s ⟨i,u,A,D,he,rfl⟩;simp only[go_sem,aM,TG,MG,cv];by_cases S:i=b;simp only[go_sem,S,beq_self_eq_true];exact⟨l1,⟨true,rfl,L,λ_=>by rw[S]at D;exact D⟩,rfl⟩;have an:=he.resolve_left S;have ac:((i:Int)==(b:Int))=false:=c_;have ab:IntKind.i64.wrap ((b:Int)-(a:Int))=((b-a:Nat):Int):=k_;simp only[go_sem,ac,ab];by_cases ap:b-a<50;simp only[go_sem,show decide (((b-a:Nat):Int)<50)=true from decide_eq_true o_];exact⟨l1,⟨false,rfl,L,λh=>by cases h⟩,rfl⟩;simp only[go_sem,show decide (((b-a:Nat):Int)<50)=false from decide_eq_false o_];have X:IntKind.i64.wrap ((i:Int)-1)=((i-1:Nat):Int):=k_;have T:=fQ i o_;have aa:IntKind.i64.wrap ((i:Int)-(a:Int))=((i-a:Nat):Int):=k_;have C:IntKind.i64.wrap ((b:Int)-(i:Int))=((b-i:Nat):Int):=k_;have I:=bL d l1 (i) o_;have q2:=bL d l1 (i-1) o_;obtain⟨yy,H⟩:=vK d l1 (i) (i-1) (d (l1.getD (i-1) 0)) o_;simp only[go_sem,aP,cL,(o_:i<l1.length),(o_:i-1<l1.length),I,q2,H,kT,X,aa];have w:PR (i-1) (i+1) l1 (iO l1 i (i-1)):=gW o_ o_ o_ o_ o_;have E:PR a b l (iO l1 i (i-1)):=L.trans (w.wide o_ o_);have U:SR a (i-1) (iO l1 i (i-1)):=SR.outside (λp q h1 h2 h3=>D p q h1 h2 o_) w (.inl o_);generalize iO l1 i (i-1)=Y at E U;clear I q2 H w;have ak:=E.1;by_cases am:2<=i-a;simp only[go_sem,show decide (((i-a:Nat):Int)>=2)=true from decide_eq_true o_,X];refine jG (λs=>∃o:V_,PR a b l o/\SR a i o/\s=⟨4,[(0,.own 0),(1,iv a),(2,iv b),(3,cv f),(9,iv i),(10,iv m)],(aM g d o)⟩) ?_ ?_;refine cO (λj s=>∃o:V_,a<=j/\j<=i-1/\PR a b l o/\(∀p q,a<=p->p<q->q<=i-1->q≠j->o.getD p 0<=o.getD q 0)/\s=⟨4,[(0,.own 0),(1,iv a),(2,iv b),(3,cv f),(9,iv i),(10,iv m),(11,iv j)],(aM g d o)⟩) (i-1)
  ⟨Y,o_,cN _,E,Ir U,j_⟩ ?_
 rintro j s ⟨o,ai,M,t,x,rfl⟩;have ae:=t.1;have K:=V.pr t hb;by_cases R:1<=j;have F:IntKind.i64.wrap ((j:Int)-1)=((j-1:Nat):Int):=k_;have P:=bL d o j o_;have O:=bL d o (j-1) o_;simp only[go_sem,aM,TG,MG,cv,show decide ((j:Int)>=1)=true from decide_eq_true o_,aP,(o_:j<o.length),(o_:j-1<o.length),F,P,O];apply jU hC (VL.get (VL.pr t J) o_) (VL.get (VL.pr t J) o_);simp only[go_sem,TG,MG,pY];refine aL (λB=>?_) (λB=>?_);have z:o.getD (j-1) 0<=o.getD j 0:=by simpa using B
 simp only[go_sem,aM,TG,MG,cv];have:=Ax M x (.inr z);grind;have z:o.getD j 0<o.getD (j-1) 0:=by simpa using B
 have W:a<j:=by rcases Nat.eq_or_lt_of_le ai with e|e;subst e;rcases K with h0|h0;omega;grind;exact e
 simp only[go_sem];have I:=bL d o (j) o_;have q2:=bL d o (j-1) o_;obtain⟨yy,H⟩:=vK d o (j) (j-1) (d (o.getD (j-1) 0)) o_;simp only[go_sem,aM,TG,MG,cv,aP,cL,(o_:j<o.length),(o_:j-1<o.length),I,q2,H,kT,F];exact⟨j-1,o_,_,o_,o_,t.trans (gW o_ o_ o_ o_ o_),N8 o_ W M x z,rfl⟩;simp only[go_sem,aM,TG,MG,cv,show decide ((j:Int)>=1)=false from decide_eq_false o_];have:=Ax M x (.inl o_);grind;rintro s ⟨o,t,x,rfl⟩;have ae:=t.1;simp only[go_sem,aM,TG,MG,cv];by_cases hr:2<=b-i;simp only[go_sem,C,show decide (((b-i:Nat):Int)>=2)=true from decide_eq_true o_,T];refine cO (λn s=>∃(j:Nat)(c:V_),n=b-j/\i<j/\j<=b/\PR a b l c/\SR a i c/\s=⟨4,[(0,.own 0),(1,iv a),(2,iv b),(3,cv f),(9,iv i),(10,iv m),(12,iv j)],(aM g d c)⟩) (b-(i+1))
  ⟨i+1,o,rfl,o_,o_,t,x,j_⟩ ?_
 rintro n s ⟨j,c,Z,ah,af,k,y,rfl⟩;have ad:=k.1;by_cases R:j<b;have F:IntKind.i64.wrap ((j:Int)-1)=((j-1:Nat):Int):=k_;have P:=bL d c j o_;have O:=bL d c (j-1) o_;simp only[go_sem,aM,TG,MG,cv,aT R,aP,(o_:j<c.length),(o_:j-1<c.length),F,P,O];apply jU hC (VL.get (VL.pr k J) o_) (VL.get (VL.pr k J) o_);simp only[go_sem,TG,MG,pY];refine aL (λB=>?_) (λB=>?_);simp only[go_sem,aM,TG,MG,cv,Q];exact⟨5-(m+1),o_,m+1,i,c,rfl,o_,u,o_,k,y,rfl⟩;simp only[go_sem];have I:=bL d c (j) o_;have q2:=bL d c (j-1) o_;obtain⟨yy,H⟩:=vK d c (j) (j-1) (d (c.getD (j-1) 0)) o_;simp only[go_sem,aM,TG,MG,cv,aP,cL,(o_:j<c.length),(o_:j-1<c.length),I,q2,H,kT,F,fQ j o_];have w:PR (j-1) (j+1) c (iO c j (j-1)):=gW o_ o_ o_ o_ o_;exact⟨b-(j+1),o_,j+1,_,rfl,o_,o_,k.trans (w.wide o_ o_),y.outside w (.inl o_),rfl⟩;simp only[go_sem,aM,TG,MG,cv,aS R,Q];exact⟨5-(m+1),o_,m+1,i,c,rfl,o_,u,o_,k,y,rfl⟩;simp only[go_sem,aM,TG,MG,cv,C,show decide (((b-i:Nat):Int)>=2)=false from decide_eq_false o_,Q];exact⟨5-(m+1),o_,m+1,i,o,rfl,o_,u,o_,t,x,rfl⟩;simp only[go_sem,show decide (((i-a:Nat):Int)>=2)=false from decide_eq_false o_];have t:=E;have x:SR a i Y:=SR.small o_;by_cases hr:2<=b-i;simp only[go_sem,C,show decide (((b-i:Nat):Int)>=2)=true from decide_eq_true o_,T];refine cO (λn s=>∃(j:Nat)(c:V_),n=b-j/\i<j/\j<=b/\PR a b l c/\SR a i c/\s=⟨4,[(0,.own 0),(1,iv a),(2,iv b),(3,cv f),(9,iv i),(10,iv m),(12,iv j)],(aM g d c)⟩) (b-(i+1))
  ⟨i+1,Y,rfl,o_,o_,t,x,j_⟩ ?_
 rintro n s ⟨j,c,Z,ah,af,k,y,rfl⟩;have ad:=k.1;by_cases R:j<b;have F:IntKind.i64.wrap ((j:Int)-1)=((j-1:Nat):Int):=k_;have P:=bL d c j o_;have O:=bL d c (j-1) o_;simp only[go_sem,aM,TG,MG,cv,aT R,aP,(o_:j<c.length),(o_:j-1<c.length),F,P,O];apply jU hC (VL.get (VL.pr k J) o_) (VL.get (VL.pr k J) o_);simp only[go_sem,TG,MG,pY];refine aL (λB=>?_) (λB=>?_);simp only[go_sem,aM,TG,MG,cv,Q];exact⟨5-(m+1),o_,m+1,i,c,rfl,o_,u,o_,k,y,rfl⟩;simp only[go_sem];have I:=bL d c (j) o_;have q2:=bL d c (j-1) o_;obtain⟨yy,H⟩:=vK d c (j) (j-1) (d (c.getD (j-1) 0)) o_;simp only[go_sem,aM,TG,MG,cv,aP,cL,(o_:j<c.length),(o_:j-1<c.length),I,q2,H,kT,F,fQ j o_];have w:PR (j-1) (j+1) c (iO c j (j-1)):=gW o_ o_ o_ o_ o_;exact⟨b-(j+1),o_,j+1,_,rfl,o_,o_,k.trans (w.wide o_ o_),y.outside w (.inl o_),rfl⟩;simp only[go_sem,aM,TG,MG,cv,aS R,Q];exact⟨5-(m+1),o_,m+1,i,c,rfl,o_,u,o_,k,y,rfl⟩;simp only[go_sem,aM,TG,MG,cv,C,show decide (((b-i:Nat):Int)>=2)=false from decide_eq_false o_,Q];exact⟨5-(m+1),o_,m+1,i,Y,rfl,o_,u,o_,t,x,rfl⟩;simp only[go_sem,aM,TG,MG,cv,show decide ((m:Int)<5)=false from decide_eq_false o_];exact⟨l1,⟨false,rfl,L,λh=>by cases h⟩,rfl⟩
end
section
variable{g:PGM}{d:Nat->Id}{f N:Nat}
abbrev pkS(g:PGM)(d:Nat->Id)(f:Nat)(a b c:Nat)(h e:Bool)(l:List Nat):St:=⟨4,[(0,.own 0),(1,.v (.int .i64 (a:Int))),(2,.v (.int .i64 (b:Int))),(3,.v (.int .i64 (c:Int))),(4,cv f),(10,.v (.bool h)),(11,.v (.bool e))],(aM g d l)⟩
def XB(G:L_)(g:PGM)(d:Nat->Id)(f N:Nat)(n:Nat):Prop:=∀(l:V_),VL N l->∀(a b c:Nat),b-a=n->a<=b->b<=l.length->l.length<=60000->c<=1000000000->SQ a b l->aA PQ G bO [.own 0,iv a,iv b,iv c,cv f] (aM g d l) (Gz g d λ_ e=>PR a b l e/\SR a b e)
def PkN(g:PGM)(d:Nat->Id)(f:Nat)(a b h:Nat)(k:V_)(Q:St->Prop):Prop:=∀(e c:Nat)(v8 v9:Bool)(i:V_)(s:St),c-e<b-a->a<=e->e<=c->c<=b->PR a b k i->SQ e c i->(∀j,PR e c i j->SR e c j->SR a b j)->DB [] s=pkS g d f e c h v8 v9 i->Q s
def aDz:HC:=.seq (.seq (.reg [⟨some 106,.mov (.tmp 0),none⟩,⟨some 107,.mov (.tmp 1),none⟩,⟨some 108,.mov (.tmp 2),none⟩,⟨some 109,.mov (.tmp 13),none⟩,⟨some 110,.mov (.tmp 4),none⟩,⟨some 111,.call (.func dL) [.tmp 106,.tmp 107,.tmp 108,.tmp 109,.tmp 110],none⟩,⟨some 105,.mov (.tmp 111),none⟩,⟨some 112,.ext (.tmp 105) 0,none⟩,⟨some 113,.ext (.tmp 105) 1,none⟩,⟨some 16,.mov (.tmp 112),none⟩,⟨some 17,.mov (.tmp 113),none⟩]) (.kill [13,113,112,105,111,110,109,108,107,106])) (.seq (.seq (.reg [⟨some 114,.mov (.tmp 17),none⟩,⟨some 11,.mov (.tmp 114),none⟩]) (.kill [17,114])) (.seq (.seq (.reg [⟨some 115,.mov (.tmp 16),none⟩,⟨some 116,.mov (.tmp 1),none⟩,⟨some 117,.bin .sub (.tmp 115) (.tmp 116),none⟩,⟨some 118,.mov (.tmp 2),none⟩,⟨some 119,.mov (.tmp 16),none⟩,⟨some 120,.bin .sub (.tmp 118) (.tmp 119),none⟩,⟨some 18,.mov (.tmp 117),none⟩,⟨some 19,.mov (.tmp 120),none⟩]) (.kill [120,119,118,117,116,115])) (.seq (.seq (.reg [⟨some 121,.mov (.tmp 12),none⟩,⟨some 122,.bin .quo (.tmp 121) (.const (.int .i64 8)),none⟩,⟨some 20,.mov (.tmp 122),none⟩]) (.kill [12,122,121])) (.seq (.seq (.reg [⟨some 123,.mov (.tmp 18),none⟩,⟨some 124,.mov (.tmp 19),none⟩,⟨some 125,.bin .lss (.tmp 123) (.tmp 124),none⟩]) (.kill [124,123])) (.cond (.tmp 125) (.seq (.kill [19,125]) (.seq (.seq (.reg [⟨some 126,.mov (.tmp 18),none⟩,⟨some 127,.mov (.tmp 20),none⟩,⟨some 128,.bin .geq (.tmp 126) (.tmp 127),none⟩,⟨some 10,.mov (.tmp 128),none⟩]) (.kill [18,20,128,127,126])) (.seq (.seq (.reg [⟨some 129,.mov (.tmp 0),none⟩,⟨some 130,.mov (.tmp 1),none⟩,⟨some 131,.mov (.tmp 16),none⟩,⟨some 132,.mov (.tmp 3),none⟩,⟨some 133,.mov (.tmp 4),none⟩,⟨some 134,.call (.func bO) [.tmp 129,.tmp 130,.tmp 131,.tmp 132,.tmp 133],none⟩]) (.kill [1,134,133,132,131,130,129])) (.seq (.reg [⟨some 135,.mov (.tmp 16),none⟩,⟨some 136,.bin .add (.tmp 135) (.const (.int .i64 1)),none⟩,⟨some 1,.mov (.tmp 136),none⟩]) (.kill [16,136,135]))))) (.seq (.kill [18,125]) (.seq (.seq (.reg [⟨some 137,.mov (.tmp 19),none⟩,⟨some 138,.mov (.tmp 20),none⟩,⟨some 139,.bin .geq (.tmp 137) (.tmp 138),none⟩,⟨some 10,.mov (.tmp 139),none⟩]) (.kill [19,20,139,138,137])) (.seq (.seq (.reg [⟨some 140,.mov (.tmp 0),none⟩,⟨some 141,.mov (.tmp 16),none⟩,⟨some 142,.bin .add (.tmp 141) (.const (.int .i64 1)),none⟩,⟨some 143,.mov (.tmp 2),none⟩,⟨some 144,.mov (.tmp 3),none⟩,⟨some 145,.mov (.tmp 4),none⟩,⟨some 146,.call (.func bO) [.tmp 140,.tmp 142,.tmp 143,.tmp 144,.tmp 145],none⟩]) (.kill [2,146,145,144,143,142,141,140])) (.seq (.reg [⟨some 147,.mov (.tmp 16),none⟩,⟨some 2,.mov (.tmp 147),none⟩]) (.kill [16,147]))))))))))
def U1(U:rF G g d f N)(n:Nat)(ih:∀m,m<n->XB G g d f N m){a b p c:Nat}{q:V_}{Q:Ex->St->Prop}(V:b-a=n)(E:a<=p)(B:p<b)(s:VL N q)(H:b<=q.length)(S:q.length<=60000)(o:c<=1000000000)(u:SQ a b q)(I:PkN g d f a b c q (Q .normal)):
 @cW PQ G aDz ⟨4,[(13,iv p),(3,iv c),(12,iv ((b-a:Nat):Int)),(0,.own 0),(1,iv a),(2,iv b),(4,cv f)],(aM g d q)⟩ ⟨Q⟩:=by
 unfold aDz;simp only[go_sem,aM,TG,MG,cv];apply aG [0,1,2,3] (aB _) d_ H_ l_ h_ (aDx U q s a b p E B H o_);rintro r K ⟨A,⟨j,J,P,i,l⟩,x⟩;subst P;subst x;have R:=i.1;have D:=l.1;have T:=l.2.1;have M:IntKind.i64.wrap ((j:Int)-(a:Int))=((j-a:Nat):Int):=k_;have L:IntKind.i64.wrap ((b:Int)-(j:Int))=((b-j:Nat):Int):=k_;have k:SQ a b A:=u.pr i H;simp only[go_sem,aM,TG,MG,M,L,aJV (b-a) o_];by_cases w:j-a<b-j;simp only[go_sem,aT w];apply aG [0,1,2,3] (aB _) d_ H_ l_ h_ (ih (j-a) o_ A (VL.pr i s) a j c rfl D o_ o_ o (k.sub o_));rintro r K ⟨z,⟨e,t⟩,x⟩;subst x;have C:=e.1;have h:=Bv l o_ e;simp only[go_sem,aM,TG,MG,fQ j o_];apply I (j+1) b (decide (((j-a:Nat):Int)>=(((b-a)/8:Nat):Int))) J z _ o_ o_ o_ o_ (i.trans (e.wide (cN _) o_)) (Dm h) (λO y F=>Bw (AE h o_ y) (t.outside y (.inl o_)) F);simp only[go_sem,aM,TG,MG,cv,pkS];simp only[go_sem,aS w,fQ j o_];apply aG [0,1,2,3] (aB _) d_ H_ l_ h_ (ih (b-(j+1)) o_ A (VL.pr i s) (j+1) b c rfl o_ o_ o_ o (Dm l));rintro r K ⟨z,⟨e,t⟩,x⟩;subst x;have C:=e.1;have h:=AE l o_ e;simp only[go_sem,aM,TG,MG];apply I a j (decide (((b-j:Nat):Int)>=(((b-a)/8:Nat):Int))) J z _ o_ o_ o_ o_ (i.trans (e.wide o_ (cN _))) ((k.pr (e.wide o_ (cN _)) o_).sub o_) (λO y F=>Bw (Bv h o_ y) F (t.outside y (.inr o_)));simp only[go_sem,aM,TG,MG,cv,pkS]
def U2(U:rF G g d f N)(n:Nat)(ih:∀m,m<n->XB G g d f N m){a b p c:Nat}{q:V_}{Q:Ex->St->Prop}(V:b-a=n)(E:a<=p)(B:p<b)(s:VL N q)(H:b<=q.length)(S:q.length<=60000)(o:c<=1000000000)(u:SQ a b q)(I:PkN g d f a b c q (Q .normal)):
 @cW PQ G aDz ⟨4,[(13,iv p),(12,iv ((b-a:Nat):Int)),(0,.own 0),(1,iv a),(2,iv b),(3,iv c),(4,cv f)],(aM g d q)⟩ ⟨Q⟩:=by
 unfold aDz;simp only[go_sem,aM,TG,MG,cv];apply aG [0,1,2,3] (aB _) d_ H_ l_ h_ (aDx U q s a b p E B H o_);rintro r K ⟨A,⟨j,J,P,i,l⟩,x⟩;subst P;subst x;have R:=i.1;have D:=l.1;have T:=l.2.1;have M:IntKind.i64.wrap ((j:Int)-(a:Int))=((j-a:Nat):Int):=k_;have L:IntKind.i64.wrap ((b:Int)-(j:Int))=((b-j:Nat):Int):=k_;have k:SQ a b A:=u.pr i H;simp only[go_sem,aM,TG,MG,M,L,aJV (b-a) o_];by_cases w:j-a<b-j;simp only[go_sem,aT w];apply aG [0,1,2,3] (aB _) d_ H_ l_ h_ (ih (j-a) o_ A (VL.pr i s) a j c rfl D o_ o_ o (k.sub o_));rintro r K ⟨z,⟨e,t⟩,x⟩;subst x;have C:=e.1;have h:=Bv l o_ e;simp only[go_sem,aM,TG,MG,fQ j o_];apply I (j+1) b (decide (((j-a:Nat):Int)>=(((b-a)/8:Nat):Int))) J z _ o_ o_ o_ o_ (i.trans (e.wide (cN _) o_)) (Dm h) (λO y F=>Bw (AE h o_ y) (t.outside y (.inl o_)) F);simp only[go_sem,aM,TG,MG,cv,pkS];simp only[go_sem,aS w,fQ j o_];apply aG [0,1,2,3] (aB _) d_ H_ l_ h_ (ih (b-(j+1)) o_ A (VL.pr i s) (j+1) b c rfl o_ o_ o_ o (Dm l));rintro r K ⟨z,⟨e,t⟩,x⟩;subst x;have C:=e.1;have h:=AE l o_ e;simp only[go_sem,aM,TG,MG];apply I a j (decide (((b-j:Nat):Int)>=(((b-a)/8:Nat):Int))) J z _ o_ o_ o_ o_ (i.trans (e.wide o_ (cN _))) ((k.pr (e.wide o_ (cN _)) o_).sub o_) (λO y F=>Bw (Bv h o_ y) F (t.outside y (.inr o_)));simp only[go_sem,aM,TG,MG,cv,pkS]
def aFM:HC:=.seq (.seq (.seq (.regd (.q ⟨some 81,.mov (.tmp 1),none⟩ (.q ⟨some 82,.bin .gtr (.tmp 81) (.const (.int .i64 0)),none⟩ (.q ⟨some 83,.mov (.tmp 82),none⟩ (.q ⟨some 84,.mov (.tmp 4),some (83,true)⟩ (.q ⟨some 85,.mov (.tmp 0),some (83,true)⟩ (.q ⟨some 86,.mov (.tmp 1),some (83,true)⟩ (.q ⟨some 87,.bin .sub (.tmp 86) (.const (.int .i64 1)),some (83,true)⟩ (.q ⟨some 88,.iad (.tmp 85) (.tmp 87) 3,some (83,true)⟩ (.q ⟨some 89,.ld (some 3) (.tmp 88),some (83,true)⟩ (.q ⟨some 90,.mov (.tmp 0),some (83,true)⟩ (.q ⟨some 91,.mov (.tmp 13),some (83,true)⟩ (.q ⟨some 92,.iad (.tmp 90) (.tmp 91) 3,some (83,true)⟩ (.q ⟨some 93,.ld (some 3) (.tmp 92),some (83,true)⟩ (.alt ⟨some 94,.call (.tmp 84) [.tmp 89,.tmp 93],some (83,true)⟩ [] (.q ⟨some 95,.bin .lss (.tmp 94) (.const (.int .i64 0)),some (83,true)⟩ (.q ⟨some 96,.un .not (.tmp 95),some (83,true)⟩ (.q ⟨some 97,.pick (.tmp 83) (.tmp 96) (.const (.bool false)),none⟩ (.done false)))) .no))))))))))))))) (.kill [96,95,94,93,92,91,90,89,88,87,86,85,84,83,82,81])) (.cond (.tmp 97) (.seq (.kill [12,97]) (.seq (.seq (.reg [⟨some 98,.mov (.tmp 0),none⟩,⟨some 99,.mov (.tmp 1),none⟩,⟨some 100,.mov (.tmp 2),none⟩,⟨some 101,.mov (.tmp 13),none⟩,⟨some 102,.mov (.tmp 4),none⟩,⟨some 103,.call (.func cQ) [.tmp 98,.tmp 99,.tmp 100,.tmp 101,.tmp 102],none⟩,⟨some 15,.mov (.tmp 103),none⟩]) (.kill [1,13,103,102,101,100,99,98])) (.seq (.seq (.reg [⟨some 104,.mov (.tmp 15),none⟩,⟨some 1,.mov (.tmp 104),none⟩]) (.kill [15,104])) (.exit 1)))) (.seq (.kill [11,10,97]) .skip))) (aDz)
def aDA (B:rF G g d f N) (n:Nat) (ih:∀m,m<n->XB G g d f N m) {a b p e:Nat} {F E:Bool} {c:V_} {Q:Ex->St->Prop} (K:b-a=n) (s:a<=p) (o:p<b) (h:VL N c) (A:b<=c.length) (u:c.length<=60000) (l:e<=1000000000) (j:SQ a b c) (M:PkN g d f a b e c (Q .normal)) (C:PkN g d f a b e c (Q (.exit 1))):
 @cW PQ G aFM ⟨4,[(13,iv p),(3,iv e),(12,iv ((b-a:Nat):Int)),(0,.own 0),(1,iv a),(2,iv b),(4,cv f),(10,.v (.bool F)),(11,.v (.bool E))],(aM g d c)⟩ ⟨Q⟩:=by
 unfold aFM;by_cases U:a=0;have D:decide ((a:Int)>0)=false:=decide_eq_false o_;simp only[go_sem,aM,TG,MG,cv,D];exact U1 B n ih K s o h A u l j M;have D:decide ((a:Int)>0)=true:=decide_eq_true o_;have O:IntKind.i64.wrap ((a:Int)-1)=((a-1:Nat):Int):=k_;have Z:=bL d c (a-1) o_;have Y:=bL d c p o_;simp only[go_sem,aM,TG,MG,cv,D,O,aP,(o_:a-1<c.length),(o_:p<c.length),Z,Y];apply jU B (VL.get h o_) (VL.get h o_);simp only[go_sem,TG,MG,pY];refine aL (λL=>?_) (λL=>?_);have R:c.getD p 0<=c.getD (a-1) 0:=by simpa using L
 simp only[go_sem];apply aG [0,1,2,3] (aB _) d_ H_ l_ h_ (U0 B c h a b p s o A o_);rintro r T' ⟨H,⟨i,P,q,T,z,y,w⟩,V⟩;subst P;subst V;have S:=q.1;have t:∀k,a<=k->k<b->c.getD p 0<=H.getD k 0:=dg;simp only[go_sem,aM,TG,MG];apply C i b F E H _ o_ o_ z (cN _) q (.inr λk J I=>uR (y (i-1) o_ o_) (H9 (w k J I))) (λl6 X W=>Uc z o_ y w t X W);simp only[go_sem,aM,TG,MG,cv,pkS];simp only[go_sem];exact U1 B n ih K s o h A u l j M
def aDB (B:rF G g d f N) (n:Nat) (ih:∀m,m<n->XB G g d f N m) {a b p e:Nat} {F E:Bool} {c:V_} {Q:Ex->St->Prop} (K:b-a=n) (s:a<=p) (o:p<b) (h:VL N c) (A:b<=c.length) (u:c.length<=60000) (l:e<=1000000000) (j:SQ a b c) (M:PkN g d f a b e c (Q .normal)) (C:PkN g d f a b e c (Q (.exit 1))):
 @cW PQ G aFM ⟨4,[(13,iv p),(12,iv ((b-a:Nat):Int)),(0,.own 0),(1,iv a),(2,iv b),(3,iv e),(4,cv f),(10,.v (.bool F)),(11,.v (.bool E))],(aM g d c)⟩ ⟨Q⟩:=by
 unfold aFM;by_cases U:a=0;have D:decide ((a:Int)>0)=false:=decide_eq_false o_;simp only[go_sem,aM,TG,MG,cv,D];exact U2 B n ih K s o h A u l j M;have D:decide ((a:Int)>0)=true:=decide_eq_true o_;have O:IntKind.i64.wrap ((a:Int)-1)=((a-1:Nat):Int):=k_;have Z:=bL d c (a-1) o_;have Y:=bL d c p o_;simp only[go_sem,aM,TG,MG,cv,D,O,aP,(o_:a-1<c.length),(o_:p<c.length),Z,Y];apply jU B (VL.get h o_) (VL.get h o_);simp only[go_sem,TG,MG,pY];refine aL (λL=>?_) (λL=>?_);have R:c.getD p 0<=c.getD (a-1) 0:=by simpa using L
 simp only[go_sem];apply aG [0,1,2,3] (aB _) d_ H_ l_ h_ (U0 B c h a b p s o A o_);rintro r T' ⟨H,⟨i,P,q,T,z,y,w⟩,V⟩;subst P;subst V;have S:=q.1;have t:∀k,a<=k->k<b->c.getD p 0<=H.getD k 0:=dg;simp only[go_sem,aM,TG,MG];apply C i b F E H _ o_ o_ z (cN _) q (.inr λk J I=>uR (y (i-1) o_ o_) (H9 (w k J I))) (λl6 X W=>Uc z o_ y w t X W);simp only[go_sem,aM,TG,MG,cv,pkS];simp only[go_sem];exact U2 B n ih K s o h A u l j M
def aKe (F:rF G g d f N) (n:Nat) (ih:∀m,m<n->XB G g d f N m):XB G g d f N n:=by
 intro l C I H S ah X aj hl Q P;apply aC sP;simp only[go_sem,aM,TG,MG,cv];refine cO (λn s=>∃(a b k:Nat)(x w:Bool)(l1:V_),n=b-a/\I<=a/\a<=b/\b<=H/\k<=1000000000/\PR I H l l1/\SQ a b l1/\(∀l2,PR a b l1 l2->SR a b l2->SR I H l2)/\s=pkS g d f a b k x w l1) (H-I)
  ⟨I,H,S,true,true,l,rfl,cN _,X,cN _,Q,PR.refl _ _ l,P,λ_ _ h=>h,by simp only[go_sem,aM,TG,MG,cv,pkS]⟩ ?_
 rintro n1 s ⟨a,b,k,x,w,l1,af,K,ae,J,W,q,A,R,rfl⟩;have ai:=q.1;have w1:IntKind.i64.wrap ((b:Int)-(a:Int))=((b-a:Nat):Int):=k_;simp only[go_sem,aM,TG,MG,cv,w1];by_cases ak:b-a<=12;simp only[go_sem,show decide (((b-a:Nat):Int)<=12)=true from decide_eq_true o_];apply aG [0,1,2,3] (aB _) d_ H_ l_ h_ (aKd F l1 (VL.pr q C) a b ae o_ o_);rintro r L ⟨l2,⟨j,M⟩,rfl⟩;simp only[go_sem,aM,TG,MG];exact⟨l2,⟨q.trans (j.wide K J),R l2 j M⟩,rfl⟩;simp only[go_sem,show decide (((b-a:Nat):Int)<=12)=false from decide_eq_false o_];by_cases aa:k=0;subst aa;simp only[go_sem];apply aG [0,1,2,3] (aB _) d_ H_ l_ h_ (aIa F l1 (VL.pr q C) a b o_ o_ o_);rintro r L ⟨l2,⟨j,M⟩,rfl⟩;simp only[go_sem,aM,TG,MG];exact⟨l2,⟨q.trans (j.wide K J),R l2 j M⟩,rfl⟩;have V:((k:Int)==0)=false:=c_;simp only[go_sem,V];refine OF (λs=>∃(i:Nat)(l2:V_),i<=1000000000/\PR a b l1 l2/\(s=⟨4,[(3,iv i),(12,iv ((b-a:Nat):Int)),(0,.own 0),(1,iv a),(2,iv b),(4,cv f),(10,.v (.bool x)),(11,.v (.bool w))],(aM g d l2)⟩\/s=⟨4,[(12,iv ((b-a:Nat):Int)),(0,.own 0),(1,iv a),(2,iv b),(3,iv i),(4,cv f),(10,.v (.bool x)),(11,.v (.bool w))],(aM g d l2)⟩)) ?_ ?_ ?_;intro hw;simp only[go_sem];apply aG [0,1,2,3] (aB _) d_ H_ l_ h_ (aFL F l1 (VL.pr q C) a b o_ o_ o_);rintro r L ⟨l2,j,rfl⟩;have wl:IntKind.i64.wrap ((k:Int)-1)=((k-1:Nat):Int):=k_;simp only[go_sem,aM,TG,MG,cv,wl];exact⟨k-1,l2,o_,j,.inl rfl⟩;intro hw;simp only[go_sem,aM,TG,MG,cv];exact⟨k,l1,W,PR.refl _ _ _,.inr rfl⟩;rintro s ⟨i,l2,o,j,D|D⟩;subst D;have ad:=j.1;simp only[go_sem,aM,TG,MG,cv];apply aG [0,1,2,3] (aB _) d_ H_ l_ h_ (Uz F l2 (VL.pr j (VL.pr q C)) a b o_ o_ o_);rintro r L ⟨p,h,z,y,O,E⟩;subst O;subst E;simp only[go_sem,aM,TG,MG];refine OF (λs=>∃(p:Nat)(h:Int)(u:V_),a<=p/\p<b/\PR a b l1 u/\s=⟨4,[(14,iv h),(13,iv p),(3,iv i),(12,iv ((b-a:Nat):Int)),(0,.own 0),(1,iv a),(2,iv b),(4,cv f),(10,.v (.bool x)),(11,.v (.bool w))],(aM g d u)⟩) ?_ ?_ ?_;intro hh;have v1:IntKind.i64.wrap ((b:Int)-1)=((b-1:Nat):Int):=k_;have v2:IntKind.i64.wrap ((p:Int)-(a:Int))=((p-a:Nat):Int):=k_;have v3:IntKind.i64.wrap (((b-1:Nat):Int)-((p-a:Nat):Int))=((b-1-(p-a):Nat):Int):=k_;simp only[go_sem];apply aG [0,1,2,3] (aB _) d_ H_ l_ h_ (Q6 F l2 (VL.pr j (VL.pr q C)) a b o_ o_ o_);rintro r L ⟨u,c,E⟩;subst E;simp only[go_sem,aM,TG,MG,cv,v1,v2,v3];exact⟨b-1-(p-a),1,u,o_,o_,j.trans c,rfl⟩;intro hh;simp only[go_sem,aM,TG,MG,cv];grind;clear z y;rintro s ⟨p,h,u,z,y,c,D⟩;subst D;have ac:=c.1;rw[bC];refine cB (λs=>∃t:V_,PR a b l1 t/\s=⟨4,[(13,iv p),(3,iv i),(12,iv ((b-a:Nat):Int)),(0,.own 0),(1,iv a),(2,iv b),(4,cv f),(10,.v (.bool x)),(11,.v (.bool w))],(aM g d t)⟩) ?_ ?_;by_cases B:x=true/\w=true;obtain⟨rfl,rfl⟩:=B;simp only[go_sem,aM,TG,MG,cv];refine aL (λhc=>?_) (λhc=>?_);simp only[go_sem];apply aG [0,1,2,3] (aB _) d_ H_ l_ h_ (Q7 F u (VL.pr c (VL.pr q C)) a b o_ o_ o_ (A.pr c o_));rintro r L ⟨t,⟨fb,O,e,hf⟩,E⟩;subst O;subst E
 cases fb with
 |true=>
  simp only[go_sem,aM,TG,MG];exact⟨t,⟨q.trans ((c.trans e).wide K J),R t (c.trans e) (hf rfl)⟩,rfl⟩
 |false=>
  simp only[go_sem,aM,TG,MG,cv];exact⟨t,c.trans e,rfl⟩
 simp only[go_sem,aM,TG,MG,cv];grind
 cases x with
 |false=>simp only[go_sem,aM,TG,MG,cv];exact⟨u,c,rfl⟩|true=>
  cases w with
  |false=>simp only[go_sem,aM,TG,MG,cv];exact⟨u,c,rfl⟩|true=>exact absurd ⟨rfl,rfl⟩ B
 rintro s ⟨t,e,D⟩;subst D;have ab:=e.1
 have Y:PkN g d f a b i t λs=>∃m,m<n1/\∃(a b k:Nat)(x w:Bool)(l1:V_),m=b-a/\I<=a/\a<=b/\b<=H/\k<=1000000000/\PR I H l l1/\SQ a b l1/\(∀l2,PR a b l1 l2->SR a b l2->SR I H l2)/\DB [] s=pkS g d f a b k x w l1 :=
  λa' b' v8 v9 l6 s h1 h2 h3 h4 Z h6 h7 h8=>⟨b'-a',o_,a',b',i,v8,v9,l6,rfl,o_,h3,o_,o,q.trans ((e.trans Z).wide K J),h6,λT U k2=>R T ((e.trans Z).trans (U.wide h2 h4)) (h7 T U k2),h8⟩
 exact aDA F (b-a) (λm hm=>ih m o_) rfl z y (VL.pr (q.trans (e.wide K J)) C) o_ o_ o (A.pr e o_) Y Y;subst D;have ad:=j.1;simp only[go_sem,aM,TG,MG,cv];apply aG [0,1,2,3] (aB _) d_ H_ l_ h_ (Uz F l2 (VL.pr j (VL.pr q C)) a b o_ o_ o_);rintro r L ⟨p,h,z,y,O,E⟩;subst O;subst E;simp only[go_sem,aM,TG,MG];refine OF (λs=>∃(p:Nat)(h:Int)(u:V_),a<=p/\p<b/\PR a b l1 u/\s=⟨4,[(14,iv h),(13,iv p),(12,iv ((b-a:Nat):Int)),(0,.own 0),(1,iv a),(2,iv b),(3,iv i),(4,cv f),(10,.v (.bool x)),(11,.v (.bool w))],(aM g d u)⟩) ?_ ?_ ?_;intro hh;have v1:IntKind.i64.wrap ((b:Int)-1)=((b-1:Nat):Int):=k_;have v2:IntKind.i64.wrap ((p:Int)-(a:Int))=((p-a:Nat):Int):=k_;have v3:IntKind.i64.wrap (((b-1:Nat):Int)-((p-a:Nat):Int))=((b-1-(p-a):Nat):Int):=k_;simp only[go_sem];apply aG [0,1,2,3] (aB _) d_ H_ l_ h_ (Q6 F l2 (VL.pr j (VL.pr q C)) a b o_ o_ o_);rintro r L ⟨u,c,E⟩;subst E;simp only[go_sem,aM,TG,MG,cv,v1,v2,v3];exact⟨b-1-(p-a),1,u,o_,o_,j.trans c,rfl⟩;intro hh;simp only[go_sem,aM,TG,MG,cv];grind;clear z y;rintro s ⟨p,h,u,z,y,c,D⟩;subst D;have ac:=c.1;rw[bC];refine cB (λs=>∃t:V_,PR a b l1 t/\s=⟨4,[(13,iv p),(12,iv ((b-a:Nat):Int)),(0,.own 0),(1,iv a),(2,iv b),(3,iv i),(4,cv f),(10,.v (.bool x)),(11,.v (.bool w))],(aM g d t)⟩) ?_ ?_;by_cases B:x=true/\w=true;obtain⟨rfl,rfl⟩:=B;simp only[go_sem,aM,TG,MG,cv];refine aL (λhc=>?_) (λhc=>?_);simp only[go_sem];apply aG [0,1,2,3] (aB _) d_ H_ l_ h_ (Q7 F u (VL.pr c (VL.pr q C)) a b o_ o_ o_ (A.pr c o_));rintro r L ⟨t,⟨fb,O,e,hf⟩,E⟩;subst O;subst E
 cases fb with
 |true=>
  simp only[go_sem,aM,TG,MG];exact⟨t,⟨q.trans ((c.trans e).wide K J),R t (c.trans e) (hf rfl)⟩,rfl⟩
 |false=>
  simp only[go_sem,aM,TG,MG,cv];exact⟨t,c.trans e,rfl⟩
 simp only[go_sem,aM,TG,MG,cv];grind
 cases x with
 |false=>simp only[go_sem,aM,TG,MG,cv];exact⟨u,c,rfl⟩|true=>
  cases w with
  |false=>simp only[go_sem,aM,TG,MG,cv];exact⟨u,c,rfl⟩|true=>exact absurd ⟨rfl,rfl⟩ B
 rintro s ⟨t,e,D⟩;subst D;have ab:=e.1
 have Y:PkN g d f a b i t λs=>∃m,m<n1/\∃(a b k:Nat)(x w:Bool)(l1:V_),m=b-a/\I<=a/\a<=b/\b<=H/\k<=1000000000/\PR I H l l1/\SQ a b l1/\(∀l2,PR a b l1 l2->SR a b l2->SR I H l2)/\DB [] s=pkS g d f a b k x w l1 :=
  λa' b' v8 v9 l6 s h1 h2 h3 h4 Z h6 h7 h8=>⟨b'-a',o_,a',b',i,v8,v9,l6,rfl,o_,h3,o_,o,q.trans ((e.trans Z).wide K J),h6,λT U k2=>R T ((e.trans Z).trans (U.wide h2 h4)) (h7 T U k2),h8⟩
 exact aDB F (b-a) (λm hm=>ih m o_) rfl z y (VL.pr (q.trans (e.wide K J)) C) o_ o_ o (A.pr e o_) Y Y
end
def FY:∀{l m:V_},l.Perm m->l.Pairwise (· <= ·)->m.Pairwise (· <= ·)->l=m
 |[],m,a,_,_=>(List.nil_perm.1 a).symm ▸ rfl
 |x::l,[],a,_,_=>absurd a.length_eq s_
 | x::l,y::m,a,h1,h2=>by
  obtain⟨h,g⟩:=H5.1 h1;obtain⟨f,d⟩:=H5.1 h2;have e:x=y:=by have c:x∈y::m:=a.mem_iff.1 s_;have b:y∈x::l:=a.mem_iff.2 s_;rcases cS.1 c with e|c;exact e;rcases cS.1 b with e|b;exact e.symm;exact Nat.le_antisymm (h y b) (f x c)
  subst e;rw[FY (List.perm_cons x |>.1 a) g d]
def FZ{l:V_}(h:SR 0 l.length l):l.Pairwise (· <= ·):=by rw[QD];intro i j c b a;have:=h i j (pR _) (H9 a) b;simpa[rH,c,b]using this
def Gf(S:D_)(n:Nat):Id:=S.getD n default
def aDC{S:D_}{x:Id}(h:x∈S):Gf S (S.idxOf x)=x:=by have h1:=aBR h;rw[Gf,rH,jN h1];exact List.getElem_idxOf h1
def aIb{S L:D_}(h:∀x∈L,x∈S):kl (Gf S) (L.map S.idxOf)=L.map Id.A:=by simp only[kl,rI];refine aM2 λx a=>?_;simp only[Function.comp_apply,aDC (h x a)]
def aAS{S:D_}(a:S.Nodup):S.map S.idxOf=List.range S.length:=by apply Ki;simp;intro i h1 h2;simp only[zL,List.getElem_range];exact a.idxOf_getElem i _
def aDD(S:D_):kl (Gf S) (List.range S.length)=S.map Id.A:=by
 apply Ki;simp;intro i h1 h2;have h3:i<S.length:=oo;simp[Gf,rH,h3]
section
variable{g:PGM}{d:Nat->Id}{f N:Nat}
def aAT(a:rF G g d f N)(n:Nat):XB G g d f N n:=Nat.strongRecOn n λm ih=>aKe a m ih
def XC(i:rF G g d f N)(l:V_)(b:VL N l)(h:l.length<=60000):aA PQ G bK [.own 0,cv f] (aM g d l) (Gz g d λr a=>r=.tup []/\PR 0 l.length l a/\SR 0 l.length a):=by refine aC pJ ?_;simp only[go_sem,aM,TG,MG,cv,aP,bS l.length o_];apply Jo (aD6 l.length o_);rintro r j ⟨⟨m,rfl,k,_⟩,rfl⟩;simp only[go_sem];apply aG [0,1,2,3] (aB _) d_ s_ l_ h_ (aAT i l.length l b 0 l.length m (QO _) (pR _) (cN _) h o_ (.inl rfl));rintro r j ⟨a,⟨e,c⟩,rfl⟩;simp only[go_sem,aM,TG,MG];exact⟨a,⟨rfl,e,c⟩,rfl⟩
def aIc{S L:D_}(m:S.Nodup)(e:L.Perm S)(o:L.length<=60000)(p:rF G g (Gf S) f S.length):aA PQ G bK [.own 0,cv f] (some (.arr 3 (L.map Id.A))::TG 1 g) λr T=>r=.tup []/\T=some (.arr 3 (S.map Id.A))::TG 1 g:=by
 have k:∀x∈L,x∈S:=λx c=>e.mem_iff.1 c
 have a:=XC p (L.map S.idxOf) (λn h=>by
  obtain⟨x,c,rfl⟩:=dF.1 h
  exact aBR (k x c)) (by simpa using o)
 have q:aM g (Gf S) (L.map S.idxOf)=some (.arr 3 (L.map Id.A))::TG 1 g:=by rw[aM,aIb k]
 rw[q]at a;apply a.mono;rintro r u ⟨l,⟨rfl,h1,h2⟩,rfl⟩;have h3:l=List.range S.length:=by have b:=h1.1;apply FY ((h1.2.2.trans (e.map S.idxOf)).trans (.of_eq (aAS m))) (FZ (by rw[b];exact h2));rw[QD];intro i j t s d;simpa using H9 d
 exact⟨rfl,by rw[h3,aM,aDD]⟩
end
def aDE(g:PGM)(l:D_)(r:AV)(T:aK):Prop:=(r=.own 0/\(l.filter λx=>!decide (x∈g.I))=l/\T=[some (.arr 3 (l.map Id.A)),some (.box [.ptr 2 0]),some (.box [.ls 5 (g.cards.map CardM.A),.mp 3,.own 4]),some (MG g.I),some (.arr 35 (g.nodes.map ND.A))]) \/
 ∃(L:D_)(n:Nat),n<=L.length/\L.length=l.length/\L.take n=(l.filter λx=>!decide (x∈g.I))/\r=.vw 0 3 0 n/\T=[some (.arr 3 (L.map Id.A)),some (.box [.ptr 2 0]),some (.box [.ls 5 (g.cards.map CardM.A),.mp 3,.own 4]),some (MG g.I),some (.arr 35 (g.nodes.map ND.A))]
def Sr(g:PGM)(l:D_)(d:l.length<=1000000):aA PQ G bB [.own 0,.cl dX [.ptr 1 0]] [some (.arr 3 (l.map Id.A)),some (.box [.ptr 2 0]),some (.box [.ls 5 (g.cards.map CardM.A),.mp 3,.own 4]),some (MG g.I),some (.arr 35 (g.nodes.map ND.A))] λr T=>
 ((r=iv (-1)/\∀x∈l,x∉g.I)\/(∃j:Nat,j<l.length/\r=iv j/\(∀x∈l.take j,x∉g.I)/\∃h:j<l.length,l[j]∈g.I))/\T=[some (.arr 3 (l.map Id.A)),some (.box [.ptr 2 0]),some (.box [.ls 5 (g.cards.map CardM.A),.mp 3,.own 4]),some (MG g.I),some (.arr 35 (g.nodes.map ND.A))]:=by
 apply aC cJ;simp only[go_sem,MG,aP];refine aQ l.length (λi=>⟨5,[(0,.own 0),(1,.cl dX [.ptr 1 0]),(7,iv l.length),(8,iv i)],[some (.arr 3 (l.map Id.A)),some (.box [.ptr 2 0]),some (.box [.ls 5 (g.cards.map CardM.A),.mp 3,.own 4]),some (MG g.I),some (.arr 35 (g.nodes.map ND.A))]⟩) (λi=>∀x∈l.take i,x∉g.I) ?_ s_ ?_ ?_;simp only[go_sem,MG];intro i a b;simp only[go_sem,MG,aP,aT a,a,aO Id.A l i a,Id.A_def];apply aG [1,2,3,4] (aB _) d_ s_ rfl v_ (Q5 g l[i]);rintro r e ⟨rfl,rfl⟩;simp only[go_sem,TG,MG];refine aL (λh=>?_) (λh=>?_)<;>simp only[go_sem,MG,fQ i o_];grind;refine λx c=>?_;rw[lB a]at c;grind;intro b;rw[dE]at b;simp only[go_sem,MG,aS (bP _)];exact .inl b
def Pz (g:PGM) (l:D_) (z:l.length<=1000000):aA PQ G bE [.own 0,.cl dX [.ptr 1 0]] [some (.arr 3 (l.map Id.A)),some (.box [.ptr 2 0]),some (.box [.ls 5 (g.cards.map CardM.A),.mp 3,.own 4]),some (MG g.I),some (.arr 35 (g.nodes.map ND.A))] (aDE g l):=by
 apply aC iD;simp only[go_sem,MG];apply aG [0,1,2,3,4] (aB _) d_ s_ rfl (by simp only[go_sem,MG]) (Sr g l z);rintro r E ⟨y,rfl⟩;rcases y with⟨rfl,c⟩|⟨b,q,rfl,c,_,t⟩
 simp only[go_sem,MG];refine .inl ⟨rfl,?_,rfl⟩;simp_all;have D:((b:Int)==-1)=false:=Y_;simp only[go_sem,MG,D,fQ b o_];refine cO (λm s=>∃(i j:Nat)(L:D_),m=l.length-j/\i<j/\j<=l.length/\L.length=l.length/\L.take i=((l.take j).filter λx=>!decide (x∈g.I))/\L.drop j=l.drop j/\s=⟨5,[(0,.own 0),(1,.cl dX [.ptr 1 0]),(5,iv i),(6,iv j)],[some (.arr 3 (L.map Id.A)),some (.box [.ptr 2 0]),some (.box [.ls 5 (g.cards.map CardM.A),.mp 3,.own 4]),some (MG g.I),some (.arr 35 (g.nodes.map ND.A))]⟩) (l.length-(b+1))
  ⟨b,b+1,l,rfl,o_,o_,rfl,?_,rfl,by simp only[go_sem,MG]⟩ ?_
 rw[lB q,Mf,Gm.2 (λx w=>by simp[c x w])];simp[t];rintro m s ⟨i,j,L,rfl,B,F,k,n,u,rfl⟩;by_cases a:j<l.length;have p:j<L.length:=o_;have e:i<L.length:=o_;have C:L[j]=l[j]:=by
  have h1:(L.drop j)[0]?=(l.drop j)[0]?:=by rw[u]
  grind
 have f:L.drop (j+1)=l.drop (j+1):=by have:=congrArg (List.drop 1) u;grind[List.drop_drop]
 simp only[go_sem,MG,aP,k,aT a,a,aO Id.A L j p,Id.A_def];apply aG [1,2,3,4] (aB _) d_ s_ rfl v_ (Q5 g L[j]);rintro r E ⟨rfl,rfl⟩;simp only[go_sem,TG,MG];refine aL (λh=>?_) (λh=>?_);have o:L[j]∉g.I:=y_;simp only[go_sem,MG,aP,k,(o_:i<l.length),aO Id.A L i e,Id.A_def,fQ i o_,fQ j o_];refine⟨l.length-(j+1),o_,i+1,j+1,L.set i L[j],rfl,o_,o_,by simpa using k,?_,?_,?_⟩;rw[lB Z_,lB a,Mf,<-n,YC,List.take_set_of_le (cN i)];simp_all;rw[List.drop_set_of_lt o_,f];rw[Ba];rfl;have o:L[j]∈g.I:=y_;simp only[go_sem,MG,fQ j o_];refine⟨l.length-(j+1),o_,i,j+1,L,rfl,o_,o_,k,?_,f,rfl⟩;rw[lB a,Mf,<-n];simp_all;obtain rfl:j=l.length:=o_;rw[dE]at n;have d:i<=l.length:=o_;simp only[go_sem,MG,aP,k,aS a,d,(o_:i+(l.length-i)=l.length),QE,eC,vY,Kj d,YN];refine .inr ⟨L.take i++List.replicate (l.length-i) ⟨0,0,0⟩,i,c_,c_,?_,rfl,?_⟩;grind;simp only[bZ,QN,YH,Id.A_zero];rw[LB c_,jO];rfl
@[go_sem] def aDF{α:Type}(i k:Nat)(es:N_)(f:α->Value):∀l:List α,IB i k es (l.map λx=>.v (f x))=l.map λx=>.v (f x)|[]=>rfl|x::l=>by show CB i k es (.v (f x))::IB i k es (l.map λx=>.v (f x))=_;rw[aDF i k es f l];rfl
def CQ(g:PGM)(o:OpM):D_:=o.Past.filter λx=>!decide (x∈g.I)
def aDG(g:PGM)(o:OpM)(b:o.ok):aA PQ G nB [.ptr 0 0,.ag o.A] (TG 0 g) λr T=>(r=.own 3/\T=TG 0 g++[some (.arr 3 ((CQ g o).map Id.A))])\/∃(L:D_)(n:Nat),n<=L.length/\L.take n=CQ g o/\r=.vw 3 3 0 n/\T=TG 0 g++[some (.arr 3 (L.map Id.A))]:=by refine aC Dj ?_;have e:=b.past.1;simp only[go_sem,TG,MG];apply kM (MO o.Past o_);simp only[go_sem];apply aG [5,3,0,1,2] (aB _) d_ s_ rfl (by simp only[go_sem,MG]) (Pz g o.Past o_);rintro r h (⟨rfl,d,rfl⟩|⟨L,n,c,f,a,rfl,rfl⟩);simp only[go_sem,MG];left;rw[CQ,d];simp only[go_sem,MG];exact .inr ⟨L,n,c,a,rfl,rfl⟩
def aFN(g:PGM)(o:OpM)(b:o.ok):aA PQ G nB [.ptr 0 0,.ag o.A] (TG 0 g) λr T=>r=ids (CQ g o)/\T=TG 0 g:=by
 refine(aDG g o b).fin [3] ?_;rintro r d (⟨rfl,rfl⟩|⟨L,n,c,a,rfl,rfl⟩);simp only[go_sem,TG,MG];have h1:(L.map Id.A).take n=(CQ g o).map Id.A:=by rw[<-QN,a]
 have h2:n<=(L.map Id.A).length:=oy;generalize L.map Id.A=E at h1 h2;simp only[go_sem,TG,MG,h2,h1]
def PGM.at(g:PGM)(x:Id):Nat:=(g.I.findIdx? λy=>decide (y=x)).getD 0
def z4:V_:=[0,0,0,0]
def XD:ND:=⟨default,⟨0,0,0⟩,z4,0⟩
def PGM.nd(g:PGM)(x:Id):ND:=g.nodes.getD (g.at x) XD
def Hg(g:PGM)(l:D_):V_:=l.foldl (λW x=>Py W (g.at x)) z4
def Hh(g:PGM)(l:D_):V_:=l.foldl (λW x=>Kz W (g.nd x).W) z4
def G0(g:PGM)(l:D_):Int:=l.foldl (λm x=>max m (g.nd x).o.At) 0
def Fa(g:PGM)(l:D_):Int:=l.foldl (λm x=>max m ((g.nd x).lv+1)) 1
def Cu(W V:V_):V_:=List.zipWith (λa b=>a &&& b) W V
def BY(a:List ND)(o:OpM)(W:V_):Nat->Int×Bool|0=>(0,false)|i+1=>if((a.getD i XD).o.By==o.By)&&qK W i then(max (BY a o W i).1 (a.getD i XD).o.Seq,(BY a o W i).2||((a.getD i XD).o.Seq==o.Seq-1)) else BY a o W i
def BF(g:PGM)(o:OpM):V_:=Kz (Hh g o.Past) (Hg g o.Past)
def MQ(g:PGM)(o:OpM):Bool :=
 decide (o.Seq<=(BY g.nodes o (BF g o) g.nodes.length).1)||(decide (1<o.Seq)&&!(BY g.nodes o (BF g o) g.nodes.length).2)
def Q8(g:PGM)(o:OpM):PGM×Int :=
 if !(Cu (Hg g o.Past) (Hh g o.Past)==z4&&!decide (o.At<G0 g o.Past)) then(g,6)
 else if MQ g o then(g,11)
 else(⟨g.cards,g.nodes++[⟨o,C7 o,BF g o,Fa g o.Past⟩]⟩,0)
def Oa(g:PGM)(o:OpM):PGM×Int :=
 if C7 o∈g.I then(g,5)
 else if 200<=g.nodes.length then(g,3)
 else if(gM g.cards o.By).2=false then(g,17)
 else if((o.By==(gM g.cards o.By).1.Device)&&BW (gM g.cards o.By).1.Sign o.B o.SR o.SS)=false then(g,12)
 else if((o.Kind==1)&&decide (0<g.nodes.length))=true then(g,1)
 else if 0<(CQ g o).length then(g,10)
 else Q8 g o
def sR(g:PGM)(o:OpM):PGM×Int:=if vF o≠0 then(g,vF o) else Oa g o
structure PGM.ok(g:PGM):Prop where
 n:g.nodes.length<=200
 cn:g.cards.length<=1000
 cs:∀c∈g.cards,c.ok
 ops:∀x∈g.nodes,x.o.ok
 ids:∀x∈g.nodes,x.id.ok
 ws:∀x∈g.nodes,Hu x.W
 lv:∀x∈g.nodes,0<=x.lv/\x.lv<=g.nodes.length
def ND.Alen(x:ND)(h:x.W.length=4):x.A.length=35:=by simp only[ND.A,dZ,aP,h,OpM.len];rfl
def TA(g:PGM)(o:OpM):aK:=[some (.box [.ls 5 (g.cards.map CardM.A),.mp 1,.own 2]),some (.map true (g.I.map Id.K) ((List.range g.I.length).map λi:Nat=>iv (i:Int)) (List.range g.I.length) g.I.length),some (.arr 35 (g.nodes.map ND.A)),some (.box o.A)]
def TN(o:OpM)(W:V_)(a:Int):Option AObj:=some (.box (o.A++((C7 o).A++(oC W++[iv a]))))
def Ob:Hu z4:=⟨rfl,λw a=>by simp[z4]at a;omega⟩
def Q9{g:PGM}(a:g.ok)(x:Id):Hu (g.nd x).W:=by unfold PGM.nd;rw[rH];rcases eD (g.at x) g.nodes.length with h|h;rw[jN h];exact a.ws _ (eQ h);rw[sX h];exact Ob
def aDH(g:PGM)(l:D_)(x:Id):Hg g (l++[x])=Py (Hg g l) (g.at x):=by simp[Hg]
def aDI(g:PGM)(l:D_)(x:Id):Hh g (l++[x])=Kz (Hh g l) (g.nd x).W:=by simp[Hh]
def aAU(g:PGM)(l:D_)(x:Id):G0 g (l++[x])=max (G0 g l) (g.nd x).o.At:=by simp[G0]
def aDJ(g:PGM)(l:D_)(x:Id):Fa g (l++[x])=max (Fa g l) ((g.nd x).lv+1):=by simp[Fa]
def Ss{α:Type}(p:V_->Prop)(f:V_->α->V_)(a:∀W x,p W->p (f W x)):∀(l:List α)(W:V_),p W->p (l.foldl f W)|[],_,h=>h|x::l,W,h=>Ss p f a l (f W x) (a W x h)
def JB(g:PGM)(l:D_):Hu (Hg g l):=Ss Hu _ (λW x h=>ZG h _) l z4 Ob
def JC{g:PGM}(a:g.ok)(l:D_):Hu (Hh g l):=Ss Hu _ (λW x h=>Sp h (Q9 a x)) l z4 Ob
def aKf(o:OpM)(i:Id)(X:O_):(o.A++(i.A++X)).drop 30=X:=Y_
def tk4(W:V_)(h:W.length=4)(X:O_):(oC W++X).take 4=oC W:=TY (by rw[aP,h])
def aDK(o:OpM)(X:O_)(k:Nat)(h:k<27):(o.A++X)[k]?=o.A[k]?:=mY (by rw[OpM.len];exact h)
def aId(o:OpM)(i:Id)(W:V_)(a:AV)(h:W.length=4):(o.A++(i.A++(oC W++[a]))).drop 34=[a]:=by rw[show 34=o.A.length+7 by rw[OpM.len],X3,show 7=i.A.length+4 from rfl,X3,show 4=(oC W).length by rw[aP,h]];simp
def aH6(o:OpM)(i:Id)(W:V_)(a:AV)(h:W.length=4):(o.A++(i.A++(oC W++[a])))[34]?=some a:=by have:=congrArg (λl=>l[0]?) (aId o i W a h);simpa using this
def aKg(o:OpM)(i:Id)(W:V_)(a:AV)(h:W.length=4):(o.A++(i.A++(oC W++[a]))).drop 35=[]:=by have:=congrArg (λl=>l.drop 1) (aId o i W a h);simpa using this
def aKh(o:OpM)(i:Id)(W:V_)(a:AV)(h:W.length=4):(o.A++(i.A++(oC W++[a]))).take 34=o.A++(i.A++oC W):=by rw[(s_:o.A++(i.A++(oC W++[a]))=(o.A++(i.A++oC W))++[a])];exact TY (by simp only[dZ,aP,h,OpM.len];rfl)
def U3{W V:V_}(a:Hu W)(b:Hu V):(Cu W V).length=4:=by unfold Cu;rw[aGC,a.1,b.1];rfl
def aAV(W V:V_)(c:V.length=W.length)(i:Nat)(h:i<W.length):(Cu W V).take (i+1)++W.drop (i+1)=((Cu W V).take i++W.drop i).set i (W.getD i 0 &&& V.getD i 0):=by
 have b:(Cu W V).length=W.length:=by grind[Cu,List.length_zipWith]
 have a:((Cu W V).take i).length=i:=b_;have e:(Cu W V)[i]'o_=W.getD i 0 &&& V.getD i 0:=by grind[Cu]
 rw[lB o_,eB,e,Kc h,aBL _ _ o_,a,YN];rfl
def aNy(o:OpM)(X:O_):(o.A++X).take 27=o.A:=TY (OpM.len o)
def aNz(o:OpM)(a b c:AV)(X:O_):(o.A++(a::b::c::X)).drop 30=X:=Y_
def aNA(o:OpM)(i:Id)(a b c d e:AV):(o.A++i.A++[a,b,c,d,e]).take 34=o.A++(i.A++[a,b,c,d]):=Y_
def aNB(o:OpM)(i:Id)(a b c d e:AV):(o.A++i.A++[a,b,c,d,e]).drop 35=[]:=Y_
def aFO(o:OpM)(X:O_):(o.A++X).drop 27=X:=List.drop_left' (OpM.len o)
def tk3(i:Id)(X:O_):(i.A++X).take 3=i.A:=TY rfl
def TL(g:PGM)(o:OpM)(i:Nat):aK:=TA g o++[TN o z4 (Fa g (o.Past.take i)),some (.box (oC (Hg g (o.Past.take i)))),some (.box (oC (Hh g (o.Past.take i))))]
def mx(a b:Int):(if b>a then b else a)=max a b:=o_
def aNC(o:OpM)(i:Id)(X:O_):(o.A++(i.A++X)).take 30=o.A++i.A:=Y_
def aAW{o:OpM}(h:vF o=0):1<=o.Seq:=(Dv (by rw[<-Aq];exact h)).1
def aKi(o:OpM)(i:Id)(W:V_)(a:AV)(h:W.length=4):(o.A++(i.A++(oC W++[a]))).take 35=o.A++(i.A++(oC W++[a])):=
 sG (by simp only[dZ,aP,h,OpM.len];exact cN _)
def aKj(o:OpM)(i:Id)(W:V_)(a:Int):(o.A++(i.A++(oC W++[iv a]))).all gS=true:=by simp only[YK,OpM.one,mF];simp[Id.A,oC,gS]
def ZJ(o:OpM)(i:Id)(W:V_)(a:Int):(o.A++(i.A++(oC W++[iv a]))).all aX=true:=by simp only[YK,OpM.closed,mF];simp[Id.A,oC,aX]
def TH(g:PGM):aK:=[some (.box [.ls 5 (g.cards.map CardM.A),.mp 1,.own 3]),some (MG g.I),none,some (.arr 35 (g.nodes.map ND.A))]
def aDL(g:PGM)(n:ND):TH ⟨g.cards,g.nodes++[n]⟩=[some (.box [.ls 5 (g.cards.map CardM.A),.mp 1,.own 3]),some (.map true (g.I.map Id.K++[n.id.K]) ((List.range g.I.length).map (λx:Nat=>AV.v (Value.int IntKind.i64 (x:Int)))++[AV.v (Value.int IntKind.i64 (g.nodes.length:Int))]) (List.range g.I.length++[g.I.length]) (g.I.length+1)),none,some (.arr 35 (g.nodes.map ND.A++[n.A]))]:=by
 have hI:PGM.I ⟨g.cards,g.nodes++[n]⟩=g.I++[n.id]:=by simp[PGM.I]
 have a:g.I.length=g.nodes.length:=by simp[PGM.I]
 simp only[TH,MG,hI,dZ,GT,bZ,QH,fG,uP,a]
def aIe(U:GK G)(g:PGM)(o:OpM)(N:g.ok)(M:o.ok):aA PQ G uW [.ptr 0 0,.ag o.A] (TG 0 g) λr T=>r=iv (sR g o).2/\((T=TG 0 (sR g o).1/\(sR g o).1=g)\/T=TH (sR g o).1):=by
 apply aC FL;have hn:=N.n;have aw:=M.past.1;simp only[go_sem,TG,MG];apply cX (Wp U o M);simp only[go_sem];refine aL (λh=>?_) (λh=>?_);simp only[bne_iff_ne,ne_eq]at h;simp only[go_sem,sR,h,true_or];simp only[bne_eq_false_iff_eq]at h;have k1:=h;have e:sR g o=Oa g o:=by grind[sR]
 unfold Oa at e;clear h;apply cB (λs=>s=⟨3,[(3,.ptr 3 0),(0,.ptr 0 0)],TA g o⟩) (by simp only[go_sem,TA]);rintro s rfl;rw[bC];refine cB (λs=>s=⟨3,[(0,.ptr 0 0),(3,.ptr 3 0),(6,.ptr 4 0)],TA g o++[TN o z4 1]⟩) ?_ ?_
 ·simp only[go_sem,TA];refine And.intro ?_ ?_
  all_goals refine cX (ZH o M) ?_
  all_goals simp only[go_sem]
  all_goals try with_reducible refine And.intro ?_ ?_
  all_goals refine cX (aFD o M) ?_
  all_goals simp only[go_sem,aNy,aNz,aNA,aNB,TN,jO,YK,aBY,gS]
  all_goals rfl
 rintro s rfl;have l:z4.length=4:=rfl;have q:30<=27+(3+(4+1)):=d_;have hk:=AL (C7 o);have F:=qH (C7 o) g.I 0;by_cases hx:C7 o∈g.I;rw[e,if_pos hx];obtain⟨j,h1,h2,_⟩:=dG hx;rw[h1]at F;have gv:=yC g.I.length j h2;simp only[iX,mG]at F;simp only[go_sem,TA,TN,aFO,tk3,l,q,F,gv,true_or];rw[eG hx]at F;rw[if_neg hx]at e;simp only[xD]at F;rw[bC];refine cB (λs=>s=⟨3,[(0,.ptr 0 0),(3,.ptr 3 0),(6,.ptr 4 0)],TA g o++[TN o z4 1]⟩) ?_ ?_;simp only[go_sem,TA,TN,aFO,tk3,l,q,F];rintro s rfl;have H:decide ((200:Int)<=(g.nodes.length:Int))=decide (200<=g.nodes.length):=m_;simp only[go_sem,TA,TN,aP,ge_iff_le,H];refine aL (λh=>?_) (λh=>?_)<;>simp only[decide_eq_true_eq,decide_eq_false_iff_not]at h;rw[e,if_pos h];simp only[go_sem,true_or];rw[if_neg h]at e;have au:=h;clear h H;simp only[go_sem];apply aG [0,1,2] (aB _) d_ s_ rfl v_ (ZI g o.By N.cn);rintro r T' ⟨rfl,rfl⟩;simp only[go_sem,TG,MG,CardM.A_def];cases hc:(gM g.cards o.By).2;rw[e,if_pos hc];simp only[go_sem,true_or];rw[if_neg (by simp[hc])]at e;have aq:=Uw (d:=o.By) N.cs;generalize(gM g.cards o.By).1=c at *
 simp only[go_sem];apply cX (aDq c o M aq);simp only[go_sem];cases aa:((o.By==c.Device)&&BW c.Sign o.B o.SR o.SS);rw[e,if_pos aa];simp only[go_sem,true_or];rw[if_neg (by simp[aa])]at e;have E:decide ((g.nodes.length:Int)>0)=decide (0<g.nodes.length):=s_;refine cB (λs=>s=⟨3,[(0,.ptr 0 0),(3,.ptr 3 0),(6,.ptr 4 0)],TA g o++[TN o z4 1,some (.box [iv c.Device,iv c.Member,uv c.Lead,uv c.Keep,uv c.Sign])]⟩) ?_ ?_;rfl;rintro s rfl;rw[bC];refine cB (λs=>s=⟨3,[(0,.ptr 0 0),(3,.ptr 3 0),(6,.ptr 4 0)],TA g o++[TN o z4 1,some (.box [iv c.Device,iv c.Member,uv c.Lead,uv c.Keep,uv c.Sign])]⟩/\((o.Kind==1)&&decide (0<g.nodes.length))=false) ?_ ?_;cases U:(o.Kind==1);simp only[go_sem,TA,TN,U,undef];cases h2:decide (0<g.nodes.length);simp only[go_sem,TA,TN,aP,E,U,h2];rw[e,if_pos (by rw[U,h2];rfl)];simp only[go_sem,TA,TN,aP,E,U,h2,true_or];rintro s ⟨rfl,ap⟩;rw[if_neg (by simp[ap])]at e;simp only[go_sem,TA,TN];apply aG [0,1,2] (aB _) d_ s_ rfl v_ (aFN g o M);rintro r T' ⟨rfl,rfl⟩;have dl:decide (((CQ g o).length:Int)>0)=decide (0<(CQ g o).length):=s_;simp only[go_sem,TG,MG,aP,dl];refine aL (λh=>?_) (λh=>?_)<;>simp only[decide_eq_true_eq,decide_eq_false_iff_not]at h;rw[e,if_pos h];simp only[go_sem,true_or];rw[if_neg h]at e;have ao:∀x∈o.Past,x∈g.I:=by intro x al;have h0:CQ g o=[]:=Ae o_;have:=List.filter_eq_nil_iff.1 h0 x al;simpa using this
 clear h dl;simp only[go_sem];refine aQ o.Past.length (λi=>⟨3,[(0,.ptr 0 0),(3,.ptr 3 0),(6,.ptr 4 0),(11,.ptr 5 0),(12,.ptr 6 0),(13,iv (G0 g (o.Past.take i))),(80,ids o.Past),(81,iv o.Past.length),(82,iv i)],TL g o i⟩) (λ_=>True) ?_ trivial ?_ ?_;simp only[go_sem,TA,TN,TL,uQ,Hg,Hh,G0,Fa,Kk,z4];rfl;intro i p _;have C:=fQ i o_;have g0:(o.Past.map Id.A)[i]?=some o.Past[i].A:=aO _ o.Past i p;have am:=ao _ (eQ p);obtain⟨j,f1,f2,_⟩:=dG am;have ft:=lB p;have ax:=AL o.Past[i];have O:=qH o.Past[i] g.I 0;rw[f1]at O;simp only[iX,mG]at O;have gv:=yC g.I.length j f2;have u:j<g.nodes.length:=by grind[PGM.I]
 have ac:g.at o.Past[i]=j:=by grind[PGM.at]
 have ab:g.nd o.Past[i]=g.nodes[j]:=by grind[PGM.nd]
 have Q:(g.nodes.map ND.A)[j]?=some (g.nodes[j].o.A++(g.nodes[j].id.A++(oC g.nodes[j].W++[iv g.nodes[j].lv]))):=aO _ g.nodes j u;have av:=N.lv _ (eQ u);have Z:=N.ws _ (eQ u);have eP:=aDH g (o.Past.take i) o.Past[i];have eA:=aDI g (o.Past.take i) o.Past[i];have eL:=aAU g (o.Past.take i) o.Past[i];have eV:=aDJ g (o.Past.take i) o.Past[i];rw[<-ft,ac]at eP;rw[<-ft,ab]at eA eL eV;have J:=JB g (o.Past.take i);have K:=JC N (o.Past.take i);simp only[TL];generalize Hg g (o.Past.take i)=f at *
 generalize Hh g (o.Past.take i)=k at *
 generalize G0 g (o.Past.take i)=la at *
 generalize Fa g (o.Past.take i)=t at *
 clear ac ab;generalize g.nodes[j]=x at *
 have w1:IntKind.i64.wrap (x.lv+1)=x.lv+1:=aJ o_ o_;have L:=Z.1;simp only[go_sem,TA,TN,aP,aT p,g0,O,gv,u];apply aG (T2:=[some (.box (oC f))]) [5] (aB _) d_ s_ rfl f_ (aAP f j J o_);rintro r T' rfl;have ak:34<=27+(3+(4+1)):=d_;simp only[go_sem,aP,Q,aKf,tk4 _ L,L,ak];apply aG (T2:=[some (.box (oC k))]) (args2:=[.ptr 0 0,.ag (oC x.W)]) [6] (aB _) d_ s_ f_ f_ (W8 k x.W K Z);rintro r T' rfl;simp only[go_sem,TA,TN,l,TL,aP,Q,aDK,aH6 _ _ _ _ L,aH6 _ _ _ _ l,aKh _ _ _ _ l,aKg _ _ _ _ l,w1,C,eP,eA,eL,eV,mx,eB];intro _;rw[dE];have J:=JB g o.Past;have K:=JC N o.Past;unfold Q8 MQ BF at e;have ad:TL g o o.Past.length=TA g o++[TN o z4 (Fa g o.Past),some (.box (oC (Hg g o.Past))),some (.box (oC (Hh g o.Past)))]:=by rw[TL,dE]
 rw[ad];clear ad;generalize Hg g o.Past=f at *
 generalize Hh g o.Past=k at *
 generalize Fa g o.Past=t at *
 generalize G0 g o.Past=la at *
 have P:=J.1;have af:=K.1;have tP:(oC f).take 4=oC f:=sG (by rw[aP,P];decide);have tA:(oC k).take 4=oC k:=sG (by rw[aP,af];decide);have ai:(oC f).all gS=true:=by simp[oC,gS]
 simp only[go_sem,TA,TN,aP,aS (bP _),P,tP,ai];have an:=U3 J K;refine aQ 4 (λi=>⟨3,[(0,.ptr 0 0),(3,.ptr 3 0),(6,.ptr 4 0),(11,.ptr 5 0),(12,.ptr 6 0),(13,iv la),(17,.ptr 7 0),(127,iv i)],TA g o++[TN o z4 t,some (.box (oC f)),some (.box (oC k)),some (.box (oC ((Cu f k).take i++f.drop i)))]⟩) (λ_=>True) ?_ trivial ?_ ?_;simp only[go_sem,TA,TN,uQ,TZ,dM];intro i p _;have C:=fQ i o_;have hX:((Cu f k).take i++f.drop i).length=4:=b_;have gX:((Cu f k).take i++f.drop i).getD i 0=f.getD i 0:=m_;have eX:=aAV f k o_ i o_;have a1:=J5 (f.getD i 0) (k.getD i 0) (AJ J _) (AJ K _);have gv:=Dw k i o_;generalize az:(Cu f k).take i++f.drop i=X at *
 have gx:=Dw X i o_;rw[gX]at gx;have es:(oC X).take i++[uv (f.getD i 0 &&& k.getD i 0)]++(oC X).drop (i+1)=oC (X.set i (f.getD i 0 &&& k.getD i 0)):=by show _=(X.set i (f.getD i 0 &&& k.getD i 0)).map λw=>uv w;rw[Ba,aGB,if_pos (by rw[aP,hX];exact p),eB];rfl
 have d1:decide ((i:Int)<4)=true:=decide_eq_true o_;have i1:(i:Int)<4:=o_;simp only[go_sem,TA,TN,aP,i1,hX,gx,gv,↓a1,es,C,eX,Bb,pQ,(o_:i<=3)];intro _;rw[sG o_,LB o_,jO];obtain⟨b0,b1,b2,V,hb⟩:∃a b c d:Nat,Cu f k=[a,b,c,d]:=by
  match h:Cu f k,an with
  |[a,b,c,d],_=>exact⟨a,b,c,d,rfl⟩
 rw[hb]at e⊢;have e4:((b0:Int)==0&&((b1:Int)==0&&((b2:Int)==0&&(V:Int)==0)))=([b0,b1,b2,V]==z4):=by rw[CT];simp[z4]
 cases R:([b0,b1,b2,V]==z4);rw[e,if_pos (by rw[R];rfl)];simp only[go_sem,TA,TN,e4,R,undef,true_or];cases hl:decide (o.At<la);rotate_left;rw[e,if_pos (by rw[R,hl];rfl)];simp only[go_sem,TA,TN,e4,R,hl,true_or];rw[if_neg (by rw[R,hl];decide)]at e;have aj:(oC k).all gS=true:=by simp[oC,gS]
 simp only[go_sem,TA,TN,l,e4,R,hl,af,tA,aId _ _ _ _ l,aNC,aj,P,tP];apply aG (T2:=[some (.box ((o.A++(C7 o).A)++(oC k++[iv t])))]) (args2:=[.ptr 0 30,.ag (oC f)]) [4] (aB _) d_ s_ f_ (by simp only[go_sem,eB]) (K1 (o.A++(C7 o).A) [iv t] 30 (by rw[dZ,OpM.len];rfl) k f K J f_ rfl);rintro r T' rfl;have ae:=Sp K J;generalize Kz k f=m at *
 simp only[go_sem,eB];have z:=ae.1;have w2:IntKind.i64.wrap (o.Seq-1)=o.Seq-1:=aJ (by have:=aAW k1;omega) (by have:=(M.ints o.Seq s_).2;omega);refine aQ g.nodes.length (λi=>⟨3,[(0,.ptr 0 0),(3,.ptr 3 0),(6,.ptr 4 0),(19,iv (BY g.nodes o m i).1),(20,.v (.bool (BY g.nodes o m i).2)),(157,iv g.nodes.length),(158,iv i)],TA g o++[TN o m t]⟩) (λ_=>True) ?_ trivial ?_ ?_;simp only[go_sem,TA,TN,BY];intro i p _;have C:=fQ i o_;have Q:(g.nodes.map ND.A)[i]?=some (g.nodes[i].o.A++(g.nodes[i].id.A++(oC g.nodes[i].W++[iv g.nodes[i].lv]))):=aO _ g.nodes i p;have gd:g.nodes.getD i XD=g.nodes[i]:=by rw[rH,jN p];rfl
 have D:BY g.nodes o m (i+1)=if((g.nodes[i].o.By==o.By)&&qK m i) then(max (BY g.nodes o m i).1 g.nodes[i].o.Seq,(BY g.nodes o m i).2||(g.nodes[i].o.Seq==o.Seq-1)) else BY g.nodes o m i:=by rw[BY,gd]
 generalize BY g.nodes o m (i+1)=S1 at *
 generalize BY g.nodes o m i=S at *
 obtain⟨Y,ah⟩:=S;clear gd;generalize g.nodes[i]=x at *
 cases y:(x.o.By==o.By);rw[y,lR,if_neg d_]at D;simp only[go_sem,TA,TN,aP,aT p,p,Q,aDK,y,undef,C,D];rw[y,mF]at D;simp only[go_sem,TA,TN,aP,aT p,p,Q,aDK,y];apply aG (T2:=[some (.box ((o.A++(C7 o).A)++(oC m++[iv t])))]) (args2:=[.ptr 0 30,iv i]) [4] (aB _) d_ s_ f_ (by simp only[go_sem,eB]) (aAQ (o.A++(C7 o).A) [iv t] 30 (by rw[dZ,OpM.len];rfl) m i ae o_ f_ rfl);rintro r T' ⟨rfl,rfl⟩;cases hh:qK m i;rw[hh,if_neg d_]at D;simp only[go_sem,TA,TN,eB,C,D];rw[hh,if_pos rfl]at D;cases ah;simp only[go_sem,TA,TN,eB,Q,aDK,C,D,w2,mx];simp only[go_sem,TA,TN,eB,Q,aDK,C,D,mx,undef];intro _;generalize BY g.nodes o m g.nodes.length=S at *
 obtain⟨Y,ah⟩:=S;have ay:(g.nodes.map ND.A).length=g.nodes.length:=aP _;cases h1:decide (o.Seq<=Y);rotate_left;rw[if_pos sj]at e;rw[e];simp only[go_sem,TA,TN,aS (bP _),ge_iff_le,h1,undef,true_or];have ar:∀V:Bool,decide (1<o.Seq)=V->(V=true->ah=false)->True:=λ_ _ _=>trivial;clear ar;cases h2:decide (1<o.Seq);rw[if_neg (by simp[h1,h2])]at e;rw[e];simp only[go_sem,TA,TN,aFO,tk3,q,aP,aS (bP _),ge_iff_le,gt_iff_lt,h1,h2,undef,z,F,aKi _ _ _ _ z,aKj,ZJ,(g_:g.nodes.length+1<=maxLen),(o_:(g.nodes.length+1)*392<=140737488355328)];exact .inr (aDL g ⟨o,C7 o,m,t⟩).symm;cases ah;rw[if_pos (by simp[h1,h2])]at e;rw[e];simp only[go_sem,TA,TN,aS (bP _),ge_iff_le,gt_iff_lt,h1,h2,true_or];rw[if_neg (by simp[h1,h2])]at e;rw[e];simp only[go_sem,TA,TN,aFO,tk3,q,aP,aS (bP _),ge_iff_le,gt_iff_lt,h1,h2,undef,z,F,aKi _ _ _ _ z,aKj,ZJ,(g_:g.nodes.length+1<=maxLen),(o_:(g.nodes.length+1)*392<=140737488355328)];exact .inr (aDL g ⟨o,C7 o,m,t⟩).symm
def Su(g:PGM)(x:Id):Int:=if x∈g.I then(g.nd x).lv else 0
def P0(g:PGM)(x y:Id):Bool:=decide (Su g x<Su g y)||(decide (Su g x=Su g y)&&x.lt y)
def aFP{g:PGM}{x y:Id}(h:P0 g x y=false)(k:P0 g y x=false):x=y:=by
 simp only[P0,YE,aBM,decide_eq_false_iff_not]at h k;have e:Su g x=Su g y:=o_;exact Id.lt_total (h.2.resolve_left o_) (k.2.resolve_left o_)
def aAX{g:PGM}{x y:Id}(h:P0 g x y=true):P0 g y x=false:=by
 simp only[P0,Ec,zJ,decide_eq_true_eq,YE,aBM,decide_eq_false_iff_not]at h⊢;rcases h with h|⟨h1,h2⟩
 omega;exact⟨o_,.inr (Id.lt_asymm h2)⟩
def XE{g:PGM}{x y z:Id}(h:P0 g y x=false)(k:P0 g z y=false):P0 g z x=false:=by simp only[P0,YE,aBM,decide_eq_false_iff_not]at h k⊢;refine⟨o_,?_⟩;by_cases e:Su g z=Su g x;exact .inr (Id.nlt_trans (k.2.resolve_left o_) (h.2.resolve_left o_));exact .inl e
def eO(g:PGM)(l:D_):D_:=l.mergeSort λx y=>!(P0 g y x)
def mE(g:PGM)(l:D_):(eO g l).Perm l:=H4 l _
def aDM(g:PGM)(l:D_):(eO g l).length=l.length:=(mE g l).length_eq
def U4(g:PGM)(l:D_):(eO g l).Pairwise λx y=>P0 g y x=false:=by
 have:=List.pairwise_mergeSort (le:=λx y=>!(P0 g y x)) (λa b c h1 h2=>by simp only[EX]at *;exact XE h1 h2)
  (λa b=>by
   cases h:P0 g b a with
   |false=>simp|true=>simp[aAX h]) l
 refine this.imp λh=>?_;simpa using h
def aK8 {g:PGM}:∀{l m:D_},l.Perm m->l.Pairwise (λx y=>P0 g y x=false)->m.Pairwise (λx y=>P0 g y x=false)->l=m
 |[],m,a,_,_=>(List.nil_perm.1 a).symm ▸ rfl
 |x::l,[],a,_,_=>absurd a.length_eq s_
 | x::l,y::m,a,h1,h2=>by
  obtain⟨i,h⟩:=H5.1 h1;obtain⟨f,d⟩:=H5.1 h2;have e:x=y:=by have c:x∈y::m:=a.mem_iff.1 s_;have b:y∈x::l:=a.mem_iff.2 s_;rcases cS.1 c with e|c;exact e;rcases cS.1 b with e|b;exact e.symm;exact aFP (f x c) (i y b)
  subst e;rw[aK8 (List.perm_cons x |>.1 a) h d]
def B2(g:PGM)(x y:Id):Int:=nF [wG (Su g x) (Su g y),if x.lt y then -1 else if y.lt x then 1 else 0]
def U5{g:PGM}{x y:Id}(h:P0 g x y=true):B2 g x y=-1:=by simp only[P0,Ec,zJ,decide_eq_true_eq]at h;grind[B2,wG,nF]
def aDN{g:PGM}{x y:Id}(h:P0 g y x=true):B2 g x y=1:=by
 simp only[P0,Ec,zJ,decide_eq_true_eq]at h;rcases h with h|⟨h1,h2⟩
 grind[B2,wG,nF];simp[B2,wG,nF,h1,h2,Id.lt_asymm h2]
theorem aDO(g:PGM)(x:Id):B2 g x x=0:=by simp[B2,wG,nF,Id.lt_irrefl]
def aKk(n:ND)(h:n.W.length=4):n.A[34]?=some (iv n.lv):=by simp_all[ND.A,OpM.len,oC,Id.A]
def RA{g:PGM}{x:Id}{j:Nat}(h:g.I.findIdx? (λy=>decide (y=x))=some j):g.nd x=g.nodes.getD j XD:=by simp[PGM.nd,PGM.at,h]
def GL(g:PGM)(f:g.ok)(x:Id):aA PQ G nC [.ptr 0 0,.ag x.A] (TG 0 g) λr T=>r=iv (Su g x)/\T=TG 0 g:=by
 apply aC Dk;have l:=AL x;have a:=qH x g.I 0;by_cases b:x∈g.I;obtain⟨j,h1,h2,_⟩:=dG b;have d:=RA h1;rw[h1]at a;have h:=yC g.I.length j h2;have e:j<g.nodes.length:=by grind[PGM.I]
 have i:(g.nodes.map ND.A)[j]?=some (g.nd x).A:=u_;have c:=(Q9 f x).1;have k:=aKk (g.nd x) c;have m:=ND.Alen (g.nd x) c;simp only[iX,mG]at a;simp only[Su,if_pos b];generalize(g.nd x)=n at *
 simp only[go_sem,TG,MG,a,h,aP,e,i,k];rw[eG b]at a;simp only[xD]at a;simp only[go_sem,TG,MG,a,Su,if_neg b]
def aPo(g:PGM)(b:g.ok)(x y:Id):aA PQ G lL [.ag [.ptr 0 0],.ag x.A,.ag y.A] (TG 0 g) λr T=>r=iv (B2 g x y)/\T=TG 0 g:=by refine aC EP ?_;simp only[go_sem,TG,MG];apply cX (Cm x y);simp only[go_sem];refine aL (λh=>?_) (λh=>?_);rotate_left;simp only[go_sem];apply cX (Cm y x);simp only[go_sem];refine aL (λh2=>?_) (λh2=>?_);simp only[go_sem];apply aG [0,1,2] (aB _) d_ s_ f_ v_ (GL g b x);rintro r a ⟨rfl,rfl⟩;simp only[go_sem,TG,MG];apply aG [0,1,2] (aB _) d_ s_ f_ v_ (GL g b y);rintro r a ⟨rfl,rfl⟩;simp only[go_sem,TG,MG];apply cX (kB _ _);simp only[go_sem];apply cH (aB _) rfl rfl (AC [wG (Su g x) (Su g y),1] (by simp[maxLen]));rintro r a ⟨rfl,rfl⟩;refine⟨z_,s_,?_⟩;simp only[go_sem,B2,h,h2,jJ];simp only[go_sem];apply aG [0,1,2] (aB _) d_ s_ f_ v_ (GL g b x);rintro r a ⟨rfl,rfl⟩;simp only[go_sem,TG,MG];apply aG [0,1,2] (aB _) d_ s_ f_ v_ (GL g b y);rintro r a ⟨rfl,rfl⟩;simp only[go_sem,TG,MG];apply cX (kB _ _);simp only[go_sem];apply cH (aB _) rfl rfl (AC [wG (Su g x) (Su g y),0] (by simp[maxLen]));rintro r a ⟨rfl,rfl⟩;refine⟨z_,s_,?_⟩;simp only[go_sem,B2,h,h2,jJ];simp only[go_sem];apply aG [0,1,2] (aB _) d_ s_ f_ v_ (GL g b x);rintro r a ⟨rfl,rfl⟩;simp only[go_sem,TG,MG];apply aG [0,1,2] (aB _) d_ s_ f_ v_ (GL g b y);rintro r a ⟨rfl,rfl⟩;simp only[go_sem,TG,MG];apply cX (kB _ _);simp only[go_sem];apply cH (aB _) rfl rfl (AC [wG (Su g x) (Su g y),-1] (by simp[maxLen]));rintro r a ⟨rfl,rfl⟩;refine⟨z_,s_,?_⟩;simp only[go_sem,B2,h,jJ]
def K2{g:PGM}{l:D_}(c:l.Nodup):(eO g l).Pairwise λx y=>P0 g x y=true:=by
 have h1:=U4 g l;have h2:(eO g l).Pairwise (· ≠ ·):=(mE g l).nodup_iff.2 c;refine(h1.and h2).imp ?_;rintro x y ⟨a,b⟩
 cases h:P0 g x y with
 |true=>rfl|false=>exact absurd (aFP h a) b
def aFQ{g:PGM}(j:g.ok){l:D_}(i:l.Nodup):rF G g (Gf (eO g l)) lL (eO g l).length:=by
 intro a b d c;have e:=QD.1 (K2 (g:=g) i);have ea:Gf (eO g l) a=(eO g l)[a]:=by simp[Gf,rH,d]
 have k:Gf (eO g l) b=(eO g l)[b]:=by simp[Gf,rH,c]
 have f:B2 g (Gf (eO g l) a) (Gf (eO g l) b)=XA a b:=by rw[ea,k];unfold XA;rcases aGJ a b with h|h|h;rw[if_pos h,U5 (e a b d c h)];grind[aDO];rw[if_neg o_,if_pos h,aDN (e b a c d h)]
 have:=aPo (G:=G) g j (Gf (eO g l) a) (Gf (eO g l) b);simp_all
def aDP(g:PGM)(c:g.ok)(l:D_)(a:l.Nodup)(b:l.length<=60000):aA PQ G mJ [.ptr 0 0,ids l] (TG 0 g) λr T=>r=.own 3/\T=TG 0 g++[some (.arr 3 ((eO g l).map Id.A))]:=by refine aC LS ?_;simp only[go_sem,TG,MG];apply kM (MO l o_);simp only[go_sem];apply aG [3,0,1,2] (aB _) d_ s_ l_ v_ (aIc ((mE g l).nodup_iff.2 a) (mE g l).symm b (aFQ c a));rintro r d ⟨rfl,rfl⟩;simp only[go_sem,TG,MG]
def ZK(g:PGM)(c:g.ok)(l:D_)(a:l.Nodup)(b:l.length<=60000):aA PQ G mJ [.ptr 0 0,ids l] (TG 0 g) λr T=>r=ids (eO g l)/\T=TG 0 g:=by refine(aDP g c l a b).fin [3] ?_;rintro r d ⟨rfl,rfl⟩;simp only[go_sem,TG,MG]
end Hud
