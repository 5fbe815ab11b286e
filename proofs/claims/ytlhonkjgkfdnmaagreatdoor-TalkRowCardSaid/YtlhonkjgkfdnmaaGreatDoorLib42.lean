import Derived.Test.YtlhonkjgkfdnmaaGreatDoorLib39
set_option linter.all false
set_option maxHeartbeats 40000000
namespace Hud
open Go
structure PGM.wf(g:PGM):Prop where
 nd:g.I.Nodup
 back:∀x∈g.I,∀k,qK (g.nd x).W k=true->k<g.at x
def aCW{g:PGM}{x:Id}(h:x∈g.I):g.at x<g.nodes.length/\g.I[g.at x]?=some x:=by
 obtain⟨j,e,a,_,h2⟩:=dG h;have b:g.at x=j:=by unfold PGM.at;rw[e];rfl
 rw[b];refine⟨by simpa[PGM.I]using a,?_⟩;rw[jN a,h2]
def aQm{g:PGM}{x y:Id}(d:x∈g.I)(c:y∈g.I)(h:g.at x=g.at y):x=y:=by have a:=(aCW d).2;have b:=(aCW c).2;rw[h,b]at a;exact(Option.some.inj a).symm
def aOa{g:PGM}(w:g.wf){k:Nat}(h:k<g.nodes.length):∃y∈g.I,g.at y=k/\g.nd y=g.nodes.getD k XD:=by
 have c:k<g.I.length:=by simpa[PGM.I]using h
 have m:=eQ c;have a:=(aCW m).2;have e:g.at g.I[k]=k:=by
  have b:g.at g.I[k]<g.I.length:=by have:=(aCW m).1;simpa[PGM.I]using this
  rw[jN b]at a;exact(C9 w.nd).1 (Option.some.inj a)
 exact⟨_,m,e,by unfold PGM.nd;rw[e]⟩
def aID{g:PGM}{x y:Id}(b:x∈g.I)(a:y∈g.I):oH g x y=qK (g.nd y).W (g.at x):=by unfold oH;simp[b,a]
def aPb{W V:V_}(a:Hu W)(b:Hu V)(k:Nat):qK (Cu W V) k=(qK W k&&qK V k):=by unfold qK;rw[aB2 W V (by rw[a.1,b.1]),Nat.testBit_and]
def aPE(a:List ND)(o:OpM)(W:V_)(n j:Nat)(b:j<n)(h1:(a.getD j XD).o.By=o.By)(h2:qK W j=true):(a.getD j XD).o.Seq<=(BY a o W n).1:=by
 induction n with
 |zero=>omega|succ n ih=>
  unfold BY;grind
def aPc(a:List ND)(o:OpM)(W:V_)(n:Nat):0<=(BY a o W n).1:=by
 induction n with
 |zero=>simp[BY]|succ n ih=>unfold BY;grind
def aPF(a:List ND)(o:OpM)(W:V_)(n:Nat)(h:(BY a o W n).2=true):∃j,j<n/\(a.getD j XD).o.By=o.By/\qK W j=true/\(a.getD j XD).o.Seq=o.Seq-1:=by
 induction n with
 |zero=>simp[BY]at h|succ n ih=>
  unfold BY at h;grind
def anc(g:PGM)(o:OpM)(y:Id):Bool:=o.Past.any λx=>decide (y=x)||oH g y x
def aJb{g:PGM}(c:g.ok){o:OpM}(b:∀x∈o.Past,x∈g.I){y:Id}(d:y∈g.I):qK (BF g o) (g.at y)=anc g o y:=by have e:=c.n;rw[BF,ZM (JC c _) (JB g _),CT,Ec,aDY c,aDX g c.n o.Past λx a=>by have:=(aCW (b x a)).1;omega];unfold anc;rw[CX];constructor;rintro(⟨x,a,h⟩|⟨x,a,h⟩);exact⟨x,a,by simp[aID d (b x a),h]⟩;exact⟨x,a,by simp[aQm (b x a) d h]⟩;rintro⟨x,a,h⟩;rcases Ec _ _ ▸ h with h|h;exact .inr ⟨x,a,by rw[of_decide_eq_true h]⟩;exact .inl ⟨x,a,by rw[<-aID d (b x a)];exact h⟩
structure Took(g:PGM)(o:OpM):Prop where
 check:vF o=0
 new:C7 o∉g.I
 full:g.nodes.length<200
 card:(gM g.cards o.By).2=true
 sig:((o.By==(gM g.cards o.By).1.Device)&&BW (gM g.cards o.By).1.Sign o.B o.SR o.SS)=true
 kind:o.Kind=1->g.nodes=[]
 there:∀x∈o.Past,x∈g.I
 order:∀x∈o.Past,∀y∈o.Past,oH g y x=false
 late:G0 g o.Past<=o.At
 seq:∀y∈g.I,anc g o y=true->(g.nd y).o.By=o.By->(g.nd y).o.Seq<o.Seq
 pos:0<o.Seq
 pre:1<o.Seq->∃y∈g.I,anc g o y=true/\(g.nd y).o.By=o.By/\(g.nd y).o.Seq=o.Seq-1
def aMz{g:PGM}(d:g.ok)(w:g.wf){o:OpM}(h:(sR g o).2=0):Took g o/\(sR g o).1=⟨g.cards,g.nodes++[⟨o,C7 o,BF g o,Fa g o.Past⟩]⟩:=by
 unfold sR at h⊢;by_cases c1:vF o=0;rotate_left;rw[if_pos c1]at h;exact absurd h c1;rw[if_neg (by simp[c1])]at h⊢;unfold Oa at h⊢;split at h;exact absurd h s_;rename_i c2;split at h;exact absurd h s_;rename_i c3;split at h;exact absurd h s_;rename_i r;split at h;exact absurd h s_;rename_i q;split at h;exact absurd h s_;rename_i k;split at h;exact absurd h s_;rename_i z;rw[if_neg c2,if_neg c3,if_neg r,if_neg q,if_neg k,if_neg z];unfold Q8 at h⊢;split at h;exact absurd h s_;rename_i m;split at h;exact absurd h s_;rename_i i;rw[if_neg m,if_neg i];refine⟨?_,rfl⟩;have A:=d.n;have c:∀x∈o.Past,x∈g.I:=λx b=>by have e:CQ g o=[]:=Ae o_;unfold CQ at e;have:=List.filter_eq_nil_iff.1 e x b;simpa using this
 have l:∀x∈o.Past,g.at x<256:=λx b=>by have:=(aCW (c x b)).1;omega
 simp only[EX,Bool.not_eq_false,zJ,beq_iff_eq,decide_eq_false_iff_not]at m;unfold MQ at i;simp only[Ec,zJ,decide_eq_true_eq,EX,not_or,not_and,Bool.not_eq_false]at i;have p:=aPc g.nodes o (BF g o) g.nodes.length;refine⟨c1,c2,o_,kv,by simpa using q,?_,c,?_,o_,?_,o_,?_⟩;intro t;apply Ae;rw[t]at k;simp at k;simp[k];intro x b y a
 cases f:oH g y x with
 |false=>rfl|true=>
  rw[aID (c y a) (c x b)]at f;have h1:=(aDY d o.Past (g.at y)).2 ⟨x,b,f⟩;have h2:=(aDX g d.n o.Past l (g.at y)).2 ⟨y,a,rfl⟩;have h3:=aPb (JB g o.Past) (JC d o.Past) (g.at y);rw[m.1,ZN,h1,h2]at h3;exact absurd h3 d_
 intro y a v f;have:=aPE g.nodes o (BF g o) g.nodes.length (g.at y) (aCW a).1 f (by rw[aJb d c a];exact v);have e:(g.nd y).o.Seq=(g.nodes.getD (g.at y) XD).o.Seq:=rfl;omega;intro s;obtain⟨j,u,h1,h2,h3⟩:=aPF _ _ _ _ (i.2 s);obtain⟨y,a,rfl,e⟩:=aOa w u;rw[aJb d c a]at h2;rw[<-e]at h1 h3;exact⟨y,a,h2,h1,h3⟩
def aNh{g:PGM}(h:g.ok)(w:g.wf){o:OpM}(t:Took g o):(sR g o).2=0:=by
 have A:=h.n;have l:∀x∈o.Past,g.at x<256:=λx f=>by have:=(aCW (t.there x f)).1;omega
 have p:CQ g o=[]:=List.filter_eq_nil_iff.2 λx f=>by simp[t.there x f]
 have m:Cu (Hg g o.Past) (Hh g o.Past)=z4:=by
  refine aB3 (JB g _) (JC h _) λk _ h1=>?_;obtain⟨y,d,rfl⟩:=(aDX g h.n o.Past l k).1 h1
  cases v:qK (Hh g o.Past) (g.at y) with
  |false=>rfl|true=>
   obtain⟨x,f,h2⟩:=(aDY h o.Past _).1 v;have:=t.order x f y d;rw[aID (t.there y d) (t.there x f),h2]at this;exact absurd this d_
 have r:(BY g.nodes o (BF g o) g.nodes.length).1<o.Seq:=by have z:=t.pos;refine aG0 _ _ _ _ o_ λj u h1 h2=>?_;obtain⟨y,d,rfl,e⟩:=aOa w u;rw[aJb h t.there d]at h2;rw[<-e]at h1⊢;exact t.seq y d h2 h1
 have i:MQ g o=false:=by unfold MQ;rw[decide_eq_false o_,EH];by_cases h1:1<o.Seq;obtain⟨y,d,a,b,c⟩:=t.pre h1;rw[XR g.nodes o (BF g o) g.nodes.length (g.at y) (aCW d).1 b (by rw[aJb h t.there d];exact a) c];simp;simp[h1]
 have q:((o.Kind==1)&&decide (0<g.nodes.length))=false:=by
  cases s:o.Kind==1 with
  |false=>rfl|true=>simp[t.kind (by simpa using s)]
 have:=t.full;have:=t.late;rw[sR,if_neg (by simp[t.check]),Oa,if_neg t.new,if_neg o_,if_neg (by rw[t.card];decide),if_neg (by rw[t.sig];decide),if_neg (by rw[q];decide),if_neg (by rw[p];decide),Q8,if_neg (by rw[m,decide_eq_false o_];decide),if_neg (by rw[i];decide)]
structure Same(p q:PGM)(x:Id):Prop where
 l:x∈p.I
 r:x∈q.I
 o:(p.nd x).o=(q.nd x).o
 lv:(p.nd x).lv=(q.nd x).lv
 b:∀y,oH p y x=oH q y x
def Same.symm{p q:PGM}{x:Id}(h:Same p q x):Same q p x:=⟨h.r,h.l,h.o.symm,h.lv.symm,λy=>(h.b y).symm⟩
def Same.trans{p q r:PGM}{x:Id}(h:Same p q x)(k:Same q r x):Same p r x:=⟨h.l,k.r,h.o.trans k.o,h.lv.trans k.lv,λy=>(h.b y).trans (k.b y)⟩
def aOu{g:PGM}{x y:Id}(h:oH g x y=true):x∈g.I/\y∈g.I:=by unfold oH at h;simp only[zJ,decide_eq_true_eq]at h;exact⟨h.1,h.2.1⟩
def aK4{p q:PGM}{o:OpM}(c:∀x∈o.Past,Same p q x)(y:Id):anc p o y=anc q o y:=by unfold anc;rw[CT,CX,CX];refine exists_congr λx=>and_congr_right λa=>?_;rw[(c x a).b y]
def aMA{g:PGM}{o:OpM}(b:∀x∈o.Past,x∈g.I){y:Id}(h:anc g o y=true):y∈g.I:=by unfold anc at h;obtain⟨x,a,h⟩:=CX.1 h;rcases Ec _ _ ▸ h with h|h;rw[of_decide_eq_true h];exact b x a;exact(aOu h).1
def aOE{p q:PGM}{l:D_}(a:∀x∈l,Same p q x):G0 p l=G0 q l:=by
 unfold G0;generalize(0:Int)=m
 induction l generalizing m with
 |nil=>rfl|cons x l ih=>rw[CW,CW,(a x s_).o,ih λy b=>a y (by simp[b])]
def aPd{p q:PGM}{l:D_}(c:∀x∈l,Same p q x):Fa p l=Fa q l:=by
 have a:∀(l:D_)(m:Int),(∀x∈l,Same p q x)->l.foldl (λm x=>max m ((p.nd x).lv+1)) m=l.foldl (λm x=>max m ((q.nd x).lv+1)) m:=by
  intro l
  induction l with
  |nil=>intro m _;rfl|cons x l ih=>intro m h;rw[CW,CW,(h x s_).lv,ih _ λy b=>h y (by simp[b])]
 exact a l 1 c
def aOF{p q:PGM}{o:OpM}(t:Took p o)(i:p.cards=q.cards)(d:∀x∈o.Past,Same p q x)(h2:∀y,anc p o y=true->Same p q y)(k:C7 o∉q.I)(m:q.nodes.length<200)(n:o.Kind=1->q.nodes=[]):Took q o where
 check:=t.check
 new:=k
 full:=m
 card:=i ▸ t.card
 sig:=i ▸ t.sig
 kind:=n
 there:=λx e=>(d x e).r
 order:=λx e y f=>by rw[<-(d x e).b y];exact t.order x e y f
 late:=by rw[<-aOE d];exact t.late
 seq:=λy f g j=>by rw[<-aK4 d]at g;have s:=h2 y g;rw[<-s.o]at j⊢;exact t.seq y s.l g j
 pos:=t.pos
 pre:=λh=>by obtain⟨y,f,a,b,c⟩:=t.pre h;have s:=h2 y a;exact⟨y,s.r,by rw[<-aK4 d];exact a,by rw[<-s.o];exact b,by rw[<-s.o];exact c⟩
def aMB {g:PGM} (q:g.ok) (w:g.wf) {o:OpM} (t:Took g o) {d:PGM} (e:d=⟨g.cards,g.nodes++[⟨o,C7 o,BF g o,Fa g o.Past⟩]⟩):
 d.wf/\d.I=g.I++[C7 o]/\(∀x∈g.I,Same g d x)/\(d.nd (C7 o)).o=o/\(d.nd (C7 o)).lv=Fa g o.Past/\∀y,oH d y (C7 o)=anc g o y:=by
 have hI:d.I=g.I++[C7 o]:=by subst e;simp[PGM.I]
 have A:g.I.length=g.nodes.length:=by simp[PGM.I]
 have l:d.I.Nodup:=by rw[hI,vQ];refine⟨w.nd,s_,?_⟩;intro a E b r;rw[cA.1 r];rintro rfl;exact t.new E
 have z:∀x∈g.I,d.at x=g.at x:=λx c=>by
  have h1:=aCW c;have h2:=aCW (g:=d) (x:=x) (by rw[hI];simp[c]);have h3:g.at x<g.I.length:=by rw[A];exact h1.1
  have B:d.at x<d.I.length:=by have:=h2.1;simpa[PGM.I]using this
  have u:d.I[g.at x]?=some x:=by rw[hI,mY h3];exact h1.2
  have D:g.at x<d.I.length:=by rw[hI];simp;omega
  rw[jN D]at u;have s:=h2.2;rw[jN B]at s;exact((C9 l).1 ((Option.some.inj u).trans (Option.some.inj s).symm)).symm
 have v:d.at (C7 o)=g.nodes.length:=by
  have h2:=aCW (g:=d) (x:=C7 o) (by rw[hI];simp);have B:d.at (C7 o)<d.I.length:=by have:=h2.1;simpa[PGM.I]using this
  have s:=h2.2;rw[jN B]at s;have D:g.nodes.length<d.I.length:=by rw[hI];simp[A]
  have u:d.I[g.nodes.length]=C7 o:=by simp[hI,<-A]
  exact(C9 l).1 ((Option.some.inj s).trans u.symm)
 have p:∀x∈g.I,d.nd x=g.nd x:=λx c=>by unfold PGM.nd;rw[z x c];subst e;exact Ol _ _ _ _ (aCW c).1
 have m:d.nd (C7 o)=⟨o,C7 o,BF g o,Fa g o.Past⟩:=by unfold PGM.nd;rw[v];subst e;exact D2 _ _ _
 have bk:∀k,qK (BF g o) k=true->k<g.nodes.length:=λk h=>by
  rw[BF,ZM (JC q _) (JB g _),Ec,aDY q,aDX g q.n o.Past λx c=>by have:=(aCW (t.there x c)).1;have:=q.n;omega]at h;rcases h with⟨x,c,h⟩|⟨x,c,rfl⟩
  have:=w.back x (t.there x c) k h;have:=(aCW (t.there x c)).1;omega;exact(aCW (t.there x c)).1
 have f:∀y,y∈d.I↔y∈g.I\/y=C7 o:=λy=>by rw[hI];simp
 refine⟨⟨l,?_⟩,hI,?_,by rw[m],by rw[m],?_⟩;intro x c k h;rcases(f x).1 c with h1|rfl;rw[p x h1]at h;rw[z x h1];exact w.back x h1 k h;rw[m]at h;rw[v];exact bk k h;intro x c;refine⟨c,(f x).2 (.inl c),by rw[p x c],by rw[p x c],λy=>?_⟩;by_cases j:y∈g.I;rw[aID j c,aID ((f y).2 (.inl j)) ((f x).2 (.inl c)),p x c,z y j];have C:oH g y x=false:=by unfold oH;simp[j]
 rw[C];by_cases i:y=C7 o;subst i;rw[aID ((f _).2 (.inr rfl)) ((f x).2 (.inl c)),p x c,v]
 cases r:qK (g.nd x).W g.nodes.length with
 |false=>rfl|true=>
  have:=w.back x c _ r;have:=(aCW c).1;omega
 unfold oH;simp[f,j,i];intro y;by_cases j:y∈g.I;rw[aID ((f y).2 (.inl j)) ((f _).2 (.inr rfl)),m,z y j,aJb q t.there j];have C:anc g o y=false:=by
  cases h:anc g o y with
  |false=>rfl|true=>exact absurd (aMA t.there h) j
 rw[C];by_cases i:y=C7 o;subst i;rw[aID ((f _).2 (.inr rfl)) ((f _).2 (.inr rfl)),m,v]
 cases r:qK (BF g o) g.nodes.length with
 |false=>rfl|true=>exact absurd (bk _ r) (bP _)
 unfold oH;simp[f,j,i]
section
variable{p q:PGM}
def aPG{x y:Id}(b:Same p q x)(a:Same p q y):P0 p x y=P0 q x y:=by unfold P0 Su;simp[b.l,b.r,a.l,a.r,b.lv,a.lv]
def aNi{l:D_}(a:∀x∈l,Same p q x):eO p l=eO q l:=by refine aJ6 (g:=p) ((mE p l).trans (mE q l).symm) (U4 p l) ?_;refine(U4 q l).imp_of_mem λc b h=>?_;rw[aPG (a _ ((mE q l).mem_iff.1 b)) (a _ ((mE q l).mem_iff.1 c))];exact h
def aPe{l m:D_}(h:l.Perm m):eO p l=eO p m:=aJ6 ((mE p l).trans (h.trans (mE p m).symm)) (U4 p l) (U4 p m)
variable(hc:p.cards=q.cards)
include hc
def aMj{x y:Id}(c:Same p q x)(a:Same p q y):lA p x y=lA q x y:=by unfold lA;rw[hc,c.o,a.o,c.b,a.b];simp[c.l,c.r,a.l,a.r]
def aMk{row:D_}(e:∀z∈row,Same p q z){x y:Id}(d:Same p q x)(c:Same p q y):B7 p row x y=B7 q row x y:=by unfold B7;congr 1;rw[CT,CX,CX];refine exists_congr λz=>and_congr_right λa=>?_;rw[d.b,aMj hc c (e z a)]
def aPf{s:D_}(f:∀y∈s,Same p q y){x:Id}(e:Same p q x):Lo p s x=Lo q s x:=by
 unfold Lo;rw[hc,List.filter_congr λy _=>e.b y];have a:∀(l:D_)(r:RM),(∀y∈l,Same p q y)->l.foldl (ZO p) r=l.foldl (ZO q) r:=by
  intro l
  induction l with
  |nil=>intro r _;rfl|cons y l ih=>
   intro r h;rw[CW,CW,ih _ λz c=>h z (.tail _ c),ZO,ZO,(h y (.head _)).o]
 exact a _ _ λy d=>f y (gR.1 d).1
def aMn {V row:D_} (c:∀x∈row,Same p q x):mW p V row=mW q V row:=by
 have b:∀(row out:D_),(∀x∈row,Same p q x)->(∀x∈out,Same p q x)->row.foldl (iS p V) out=row.foldl (iS q V) out:=by
  intro row
  induction row with
  |nil=>intro out _ _;rfl| cons x row ih=>
   intro out h k;have e:iS p V out x=iS q V out x:=by unfold iS;rw[aPf hc k (h x (.head _)),(h x (.head _)).o]
   rw[CW,CW,e];refine ih _ (λz a=>h z (.tail _ a)) λz a=>?_;unfold iS at a;split at a;rcases cG.1 a with a|a;exact k z a;rw[cA.1 a];exact h x (.head _);exact k z a
 exact b row [] c s_
def aOc {row:D_} (g:∀z∈row,Same p q z) {S:List (Int×Int)} {a:D_} (f:∀x∈a,Same p q x):yY p row S a=yY q row S a:=by
 have c:∀(l:D_)(i:Nat)(b:Int),(∀x∈l,Same p q x)->AP p row S a l i b=AP q row S a l i b:=by
  intro l
  induction l with
  |nil=>intro i b _;rfl| cons x l ih=>
   intro i b h;have e:(a.any λy=>B7 p row x y)=a.any λy=>B7 q row x y:=by rw[CT,CX,CX];exact exists_congr λz=>and_congr_right λd=>by rw[aMk hc g (h x (.head _)) (f z d)]
   rw[AP,AP,e,ih _ _ λz d=>h z (.tail _ d)]
 exact c a 0 (-1) f
def aJI {row:D_} (a:∀z∈row,Same p q z) {S:List (Int×Int)}:∀(n:Nat)(V left:D_),(∀x∈left,Same p q x)->uL p row S n V left=uL q row S n V left
 |0,_,_,_=>rfl
 | n+1,V,left,h=>by
  have d:∀x∈left.filter (λx=>!decide (x∈V)),Same p q x:=λx o=>h x (gR.1 o).1;rw[uL,uL];dsimp only;generalize left.filter (λx=>!decide (x∈V))=L at *
  split;rfl;rename_i e;have s:=RY (g:=p) (row:=row) (S:=S) e;rw[<-aOc hc a d,aMn hc a];generalize yY p row S L=k at *
  have j:k.toNat<L.length:=by omega
  generalize k.toNat=i at *
  have ex:L.getD i default=L[i]:=by simp[rH,j]
  rw[ex];have f:=d _ (eQ j);have m:∀z∈L.eraseIdx i,Same p q z:=λz c=>d z (List.mem_of_mem_eraseIdx c);split;have r:Mb p row L[i] (L.eraseIdx i) V=Mb q row L[i] (L.eraseIdx i) V:=by
   unfold Mb;have b:∀(l V:D_),(∀x∈l,Same p q x)->l.foldl (λV y=>if(lA p L[i] y||(decide (y∈L.eraseIdx i)&&B7 p row L[i] y))=true then AQ V y else V) V=l.foldl (λV y=>if(lA q L[i] y||(decide (y∈L.eraseIdx i)&&B7 q row L[i] y))=true then AQ V y else V) V:=by
    intro l
    induction l with
    |nil=>intro V _;rfl
    |cons y l ih=>
     intro V h;rw[CW,CW,aMj hc f (h y (.head _)),aMk hc a f (h y (.head _)),ih _ λz c=>h z (.tail _ c)]
   exact b row V a
  rw[r,aJI a n _ _ m];exact aJI a n _ _ m
def aPg {row:D_} (b:∀z∈row,Same p q z) (V:D_):sU p row V=sU q row V:=by
 have f:aBt p row=aBt q row:=by
  unfold aBt BQ;rw[hc,aNi b];congr 1;have c:∀(l:D_)(out:B_),(∀x∈l,Same p q x)->l.foldl (kV p) out=l.foldl (kV q) out:=by
   intro l
   induction l with
   |nil=>intro out _;rfl|cons y l ih=>
    intro out h;rw[CW,CW,ih _ λz d=>h z (.tail _ d),kV,kV,(h y (.head _)).o]
  exact c _ _ λx a=>b x ((mE q row).mem_iff.1 a)
 have e:(row.filter λx=>jM (p.nd x).o)=row.filter λx=>jM (q.nd x).o:=List.filter_congr λx a=>by rw[(b x a).o]
 unfold sU;rw[f,e];exact aJI hc b _ _ _ λx a=>b x (gR.1 a).1
def aNk{l:D_}(a:∀x∈l,Same p q x):kW p l=kW q l:=by have b:∀x∈eO q l,Same p q x:=λx c=>a x ((mE q l).mem_iff.1 c);unfold kW;rw[aNi a,aPg hc b,aMn hc b]
end
def aKJ{g:PGM}{l m:D_}(h:l.Perm m):kW g l=kW g m:=by
 have a:∀x,B8 l x=B8 m x:=λx=>by unfold B8;rw[CT,CX,CX];refine exists_congr λy=>and_congr h.mem_iff ?_;rw[CX,CX];exact exists_congr λz=>and_congr_left' h.mem_iff
 have b:∀x,x∈zH l↔x∈zH m:=λx=>by unfold zH;rw[gR,gR,h.mem_iff,a]
 unfold kW;rw[aPe h,LA (Xw b)]
def aQn(g:PGM)(l:D_):1<=Fa g l/\∀x∈l,(g.nd x).lv+1<=Fa g l:=by
 have a:∀(l:D_)(m:Int),m<=l.foldl (λm x=>max m ((g.nd x).lv+1)) m/\∀x∈l,(g.nd x).lv+1<=l.foldl (λm x=>max m ((g.nd x).lv+1)) m:=by
  intro l
  induction l with
  |nil=>intro m;simp|cons y l ih=>
   intro m;have h:=ih (max m ((g.nd y).lv+1));rw[CW];refine⟨o_,λx b=>?_⟩;rcases cS.1 b with rfl|b;omega;exact h.2 x b
 exact a l 1
section
variable{cs:List CardM}{L:List OpM}
def aET (c:∀i,(AM cs (L.take i)).ok) (b:∀i(h:i<L.length),(sR (AM cs (L.take i)) L[i]).2=0):∀i,i<=L.length ->
 (AM cs (L.take i)).wf/\(AM cs (L.take i)).I=(L.take i).map C7/\∀j,j<=i->∀x∈(AM cs (L.take j)).I,Same (AM cs (L.take j)) (AM cs (L.take i)) x
 |0,_=>by
  refine⟨⟨am,am⟩,am,λj l=>?_⟩;obtain rfl:j=0:=o_;exact λx d=>⟨d,d,rfl,rfl,λ_=>rfl⟩
 | i+1,h=>by
  obtain⟨w,e,s⟩:=aET c b i o_;obtain⟨t,m⟩:=aMz (c i) w (b i o_);have f:AM cs (L.take (i+1))=(sR (AM cs (L.take i)) L[i]).1:=by rw[lB o_,MS]
  rw[m]at f;obtain⟨w1,k,g,_⟩:=aMB (c i) w t f;refine⟨w1,?_,?_⟩;rw[k,e,lB o_,bZ];rfl;intro j l x d;rcases eD i j with h1|h1;obtain rfl:j=i+1:=o_;exact⟨d,d,rfl,rfl,λ_=>rfl⟩;have a:=s j h1 x d;exact a.trans (g x a.r)
def aLZ(c:∀i,(AM cs (L.take i)).ok)(a:∀i(h:i<L.length),(sR (AM cs (L.take i)) L[i]).2=0){k:Nat}(f:k<L.length):
 Took (AM cs (L.take k)) L[k]/\(∀x∈(AM cs (L.take k)).I,Same (AM cs (L.take k)) (AM cs L) x)/\C7 L[k]∈(AM cs L).I/\((AM cs L).nd (C7 L[k])).o=L[k]/\((AM cs L).nd (C7 L[k])).lv=Fa (AM cs (L.take k)) L[k].Past/\∀y,oH (AM cs L) y (C7 L[k])=anc (AM cs (L.take k)) L[k] y:=by
 obtain⟨w,e,_⟩:=aET c a k o_;obtain⟨t,p⟩:=aMz (c k) w (a k f);have g:AM cs (L.take (k+1))=(sR (AM cs (L.take k)) L[k]).1:=by rw[lB f,MS]
 rw[p]at g;obtain⟨w1,m,u,j,l,q⟩:=aMB (c k) w t g;have d:=(aET c a L.length (cN _)).2.2;rw[dE]at d;have s:=d (k+1) o_ (C7 L[k]) (by rw[m];simp);exact⟨t,λx n=>d k o_ x n,s.r,by rw[<-s.o,j],by rw[<-s.lv,l],λy=>by rw[<-s.b,q]⟩
def aPh (l:∀i,(AM cs (L.take i)).ok) (u:∀o∈L,o.ok/\(C7 o).ok) (K:cardsOk cs) (f:∀i(h:i<L.length),(sR (AM cs (L.take i)) L[i]).2=0) (hL:L.length<=200)
 {R:V_} (C:∀k∈R,k<L.length) (U:R.Nodup) (hp:∀i(h:i<R.length),∀x∈(L.getD R[i] default).Past,x∈(R.take i).map λk=>C7 (L.getD k default)) (n:∀i(h:i<R.length),(L.getD R[i] default).Kind=1->i=0):
 ∀i,i<=R.length->(AM cs ((R.take i).map λk=>L.getD k default)).wf/\(AM cs ((R.take i).map λk=>L.getD k default)).ok/\(AM cs ((R.take i).map λk=>L.getD k default)).I=(R.take i).map (λk=>C7 (L.getD k default)) /\
  (∀x∈(AM cs ((R.take i).map λk=>L.getD k default)).I,Same (AM cs L) (AM cs ((R.take i).map λk=>L.getD k default)) x)/\∀(h:i<R.length),(sR (AM cs ((R.take i).map λk=>L.getD k default)) (L.getD R[i] default)).2=0:=by
 have G:∀k(h:k<L.length),L.getD k default=L[k]:=λk h=>by simp[rH,h]
 have M:=aET l f L.length (cN _);rw[dE]at M;have aa:R.length<=L.length:=by have:=List.Nodup.length_le_of_subset U (l₂:=List.range L.length) λk n=>uM.2 (C k n);simpa using this
 have b:∀i,(AM cs ((R.take i).map λk=>L.getD k default)).ok:=λi=>XM K _ λo ho=>by obtain⟨k,n,rfl⟩:=dF.1 ho;have:=C k (C8 n);rw[G k this];exact u _ (eQ this)
 have d:∀i(h:i<R.length),(AM cs ((R.take i).map λk=>L.getD k default)).wf->(AM cs ((R.take i).map λk=>L.getD k default)).I=(R.take i).map (λk=>C7 (L.getD k default)) ->
  (∀x∈(AM cs ((R.take i).map λk=>L.getD k default)).I,Same (AM cs L) (AM cs ((R.take i).map λk=>L.getD k default)) x)->Took (AM cs ((R.take i).map λk=>L.getD k default)) (L.getD R[i] default)/\∀x∈(L.getD R[i] default).Past,Same (AM cs (L.take R[i])) (AM cs ((R.take i).map λk=>L.getD k default)) x:=by
  intro i h w hI F;have c:=C _ (eQ h);obtain⟨t,s,m,_⟩:=aLZ l f c;have q:=hp i h;have z:=n i h;rw[G _ c]at q z⊢;have O:∀x∈(AM cs (L.take R[i])).I,x∈(AM cs ((R.take i).map λk=>L.getD k default)).I->Same (AM cs (L.take R[i])) (AM cs ((R.take i).map λk=>L.getD k default)) x:=λx h1 h2=>(s x h1).trans (F x h2);have g:∀x∈L[R[i]].Past,Same (AM cs (L.take R[i])) (AM cs ((R.take i).map λk=>L.getD k default)) x:=λx a=>O x (t.there x a) (by rw[hI];exact q x a);refine⟨aOF t (by rw[RL cs _ _ rfl,RL cs _ _ rfl]) g (λy H=>O y (aMA t.there H) ?_) ?_ ?_ ?_,g⟩;rw[aK4 g]at H;exact aMA (λx a=>(g x a).r) H;rw[hI];intro hm;obtain⟨k,n,e⟩:=dF.1 hm;obtain⟨j,hj,rfl⟩:=TT.1 n;have B:=C _ (eQ (o_:j<R.length));rw[G _ B]at e;have v:=M.1.nd;rw[M.2.1]at v;have N:R[j]=R[i]:=by refine(C9 (h₀:=ay) (h₁:=Y_) v).1 ?_;simpa using e
  have:=(C9 U).1 N;omega;have hl:(AM cs ((R.take i).map λk=>L.getD k default)).I.length=i:=by rw[hI];simp;omega
  have:(AM cs ((R.take i).map λk=>L.getD k default)).nodes.length=i:=by simpa[PGM.I]using hl
  omega;intro J;obtain rfl:=z J;simp[AM]
 intro i
 induction i with
 |zero=>
  intro _;have w0:(AM cs (([]:V_).map λk=>L.getD k default)).wf:=⟨am,am⟩
  have i0:(AM cs (([]:V_).map λk=>L.getD k default)).I=[]:=am;have P:∀x∈(AM cs (([]:V_).map λk=>L.getD k default)).I,Same (AM cs L) (AM cs (([]:V_).map λk=>L.getD k default)) x:=λx a=>absurd a (by rw[i0];simp);exact⟨w0,b 0,i0,P,λh=>aNh (b 0) w0 (d 0 h w0 i0 P).1⟩
 | succ i ih=>
  intro h;obtain⟨w,Q,hI,F,ha⟩:=ih o_;have A:i<R.length:=o_;have c:=C _ (eQ A);obtain⟨t,g⟩:=d i A w hI F;obtain⟨_,N⟩:=aMz Q w (ha A);have V:AM cs ((R.take (i+1)).map λk=>L.getD k default)=(sR (AM cs ((R.take i).map λk=>L.getD k default)) (L.getD R[i] default)).1:=by rw[lB A,bZ,fG,uP,MS]
  rw[N]at V;obtain⟨w1,E,X,S,T,W⟩:=aMB Q w t V;have D:(AM cs ((R.take (i+1)).map λk=>L.getD k default)).I=(R.take (i+1)).map (λk=>C7 (L.getD k default)):=by rw[E,hI,lB A,bZ];rfl
  have p:∀x∈(AM cs ((R.take (i+1)).map λk=>L.getD k default)).I,Same (AM cs L) (AM cs ((R.take (i+1)).map λk=>L.getD k default)) x:=by intro x a;rw[E]at a;rcases cG.1 a with a|a;exact(F x a).trans (X x a);obtain⟨t0,s,m,Y,Z,b0⟩:=aLZ l f c;rw[cA.1 a];rw[G _ c]at g S T W E⊢;exact⟨m,by rw[E];simp,by rw[Y,S],by rw[Z,T,aPd g],λy=>by rw[b0,W,aK4 g]⟩
  exact⟨w1,b _,D,p,λh=>aNh (b _) w1 (d (i+1) h w1 D p).1⟩
end
section
variable{G:L_}
end
def inR(g:GM)(S:D_)(n:Nat):V_:=(List.range n).filter λi=>decide (g.I.getD i default∈S)
def aOe(g:GM)(S:D_)(n:Nat):(inR g S n).Pairwise (· < ·):=List.pairwise_lt_range.filter _
def aMC(g:GM)(S:D_)(n:Nat):inR g S (n+1)=if g.I.getD n default∈S then inR g S n++[n] else inR g S n:=by unfold inR;rw[QH,Mf];split;rename_i h;rw[List.filter_cons_of_pos x_];rfl;rename_i h;rw[List.filter_cons_of_neg x_];simp
def aNl (g:GM) (S:D_) {n m:Nat} (h:n<=m):(inR g S m).take (inR g S n).length=inR g S n:=by
 obtain⟨d,rfl⟩:∃d,m=n+d:=⟨m-n,o_⟩
 clear h
 induction d with
 |zero=>exact dE| succ d ih=>
  rw[<-sY,aMC];split;have a:(inR g S n).length<=(inR g S (n+d)).length:=by have:=congrArg List.length ih;rw[eC]at this;omega
  rw[Rf a];exact ih;exact ih
def aPH {cs:List CardM} (P:cardsOk cs) (hG:CardsG cs) {g:GM} (Y:Reach cs g) {S:D_} (U:∀y∈S,∀z,oH (AM cs g.L) z y=true->z∈S) (hs:∀x∈S,x∈g.I):
 (∀i(h:i<(inR g S g.L.length).length),(sR (AM cs (KV g ((inR g S g.L.length).take i))) (g.L.getD (inR g S g.L.length)[i] default)).2=0)/\GGood (AM cs (KV g (inR g S g.L.length)))/\∀x∈S,Same (AM cs g.L) (AM cs (KV g (inR g S g.L.length))) x:=by
 have d:=Y.good P;have p:∀o∈g.L,o.ok/\(C7 o).ok:=λo q=>⟨d.ok.ops o q,d.ids o q⟩
 have a:∀i,(AM cs (g.L.take i)).ok:=λi=>XM P _ λo q=>p o (C8 q);have hN:=aET a d.all g.L.length (cN _);rw[dE]at hN;have hI:g.I=g.L.map C7:=by rw[<-d.sim.i];exact hN.2.1
 have A:∀k(h:k<g.L.length),g.L.getD k default=g.L[k]:=λk h=>by simp[rH,h]
 have D:=Y.ggood P hG;have M:∀k(h:k<g.L.length),g.I.getD k default=C7 g.L[k]:=λk h=>by rw[rH,hI,gE,jN h];rfl
 have K:∀k∈inR g S g.L.length,k<g.L.length:=λk h=>uM.1 (gR.1 h).1;have W:∀k∈inR g S g.L.length,C7 (g.L.getD k default)∈S:=λk h=>by have:=of_decide_eq_true (gR.1 h).2;rw[M k (K k h)]at this;rw[A k (K k h)];exact this
 have J:∀k(h:k<g.L.length),C7 g.L[k]∈S->k∈inR g S g.L.length:=λk h m=>gR.2 ⟨uM.2 h,decide_eq_true (by rw[M k h];exact m)⟩;have c:=aOe g S g.L.length;generalize inR g S g.L.length=R at *
 have V:R.Nodup:=c.imp λh=>Nat.ne_of_lt h;have C:∀i(h:i<R.length) k,k∈R->k<R[i]->k∈R.take i:=λi h k H aa=>by
  obtain⟨j,hj,rfl⟩:=List.mem_iff_getElem.1 H;refine TT.2 ⟨j,?_,rfl⟩;rcases eD j i with hh|hh;omega;rcases eD i j with h2|h2;have:=QD.1 c i j h hj h2;omega;obtain rfl:i=j:=o_;omega
 have E:∀i(h:i<R.length),∀x∈(g.L.getD R[i] default).Past,x∈(R.take i).map λk=>C7 (g.L.getD k default):=by
  intro i h x v;have O:=eQ h;have b:=K _ O;obtain⟨t,s,m,o0,l0,b0⟩:=aLZ a d.all b;rw[A _ b]at v;have h1:=(aET a d.all R[i] o_).2.1;have h2:=t.there x v;rw[h1]at h2;obtain⟨o,q,rfl⟩:=dF.1 h2;obtain⟨k,H,rfl⟩:=TT.1 q;have F:k<g.L.length:=o_;have hb:oH (AM cs g.L) (C7 g.L[k]) (C7 g.L[R[i]])=true:=by rw[b0];unfold anc;exact CX.2 ⟨_,v,s_⟩
  have hS:=U _ (by have:=W _ O;rw[A _ b]at this;exact this) _ hb;exact dF.2 ⟨k,C i h k (J k F hS) o_,by rw[A _ F]⟩
 have u:∀i(h:i<R.length),(g.L.getD R[i] default).Kind=1->i=0:=by
  intro i h G;have b:=K _ (eQ h);rw[A _ b]at G;obtain⟨t,_⟩:=aLZ a d.all b;have h1:=t.kind G;have h2:=(aET a d.all R[i] o_).2.1;have h3:(AM cs (g.L.take R[i])).I=[]:=by unfold PGM.I;rw[h1];rfl
  rw[h3]at h2;have h4:=congrArg List.length h2;simp only[gQ,aP,eC]at h4;rcases JX i with e|e;exact e;have:=QD.1 c 0 i o_ h e;omega
 have Z:=aPh a p P d.all d.n K V E u;have hE:=Z R.length (cN _);rw[dE,show(R.map λk=>g.L.getD k default)=KV g R from rfl]at hE;obtain⟨w,ok,Q,r,_⟩:=hE;refine⟨λi h=>(Z i o_).2.2.2.2 h,⟨ok,?_,?_,?_⟩,λx v=>r x ?_⟩;intro n T;obtain⟨k,h,rfl⟩:=List.mem_iff_getElem.1 T;obtain⟨y,hy,_,e⟩:=aOa w h;have s:=r y hy;have:=D.chk _ (aEo s.l);rw[s.o,e]at this;have X:∀(N:List ND)(h:k<N.length),N.getD k XD=N[k]:=λN h=>by simp[rH,h]
 rw[X _ h]at this;exact this;show CardsG (AM cs _).cards;rw[RL cs _ _ rfl];exact hG.perm (H4 _ _);intro n T;have h1:=(r n.id (List.mem_map_of_mem (f:=(·.id)) T)).l;obtain⟨m,O,e⟩:=dF.1 h1;have:=D.idb m O;have X:m.id=n.id:=e;rw[X]at this;exact this;rw[Q];have B:=hs x v;rw[hI]at B;obtain⟨o,q,rfl⟩:=dF.1 B;obtain⟨k,H,rfl⟩:=List.mem_iff_getElem.1 q;exact dF.2 ⟨k,J k H v,by rw[A k H]⟩
def aOf{p q:PGM}{C:D_}(c:p.cards=q.cards)(h:∀x∈C,(p.nd x).o=(q.nd x).o):aAD p C=aAD q C:=by
 have e:∀x∈C,aJu p (p.nd x).o=aJu q (q.nd x).o:=λx a=>by unfold aJu;rw[h x a,c]
 have f:∀(l:D_)(H:List RK),(∀x∈l,x∈C)->l.foldl (aCE p) H=l.foldl (aCE q) H:=by
  intro l
  induction l with
  |nil=>exact λ_ _=>rfl|cons x l ih=>
   intro H d;have a:=d x s_;rw[CW,CW,show aCE p H x=aCE q H x by unfold aCE;rw[e x a,h x a]];exact ih _ λy b=>d y (by simp[b])
 have g:aGg p C=aGg q C:=f C [] λ_ h=>h;have j:∀x,aBB p C x=aBB q C x:=λx=>by unfold aBB;rw[CT,CX,CX];exact exists_congr λy=>and_congr_right λb=>by rw[h y b]
 have i:(C.filter λx=>decide ((p.nd x).o.Kind=6))=C.filter λx=>decide ((q.nd x).o.Kind=6):=List.filter_congr λx a=>by rw[h x a]
 unfold aAD aBA;rw[i,g];simp only[j]
end Hud
