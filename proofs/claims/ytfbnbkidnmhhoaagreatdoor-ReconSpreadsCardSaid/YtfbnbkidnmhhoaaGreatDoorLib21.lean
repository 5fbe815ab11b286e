import Derived.Test.YtfbnbkidnmhhoaaGreatDoorLib20
set_option linter.all false
set_option maxHeartbeats 40000000
namespace Hud
open Go
variable{G:L_}
def ndT(n:ND):n.A.take 27=n.o.A:=K_
def aFR{g:PGM}(c:g.ok){x:Id}(b:x∈g.I):(g.nd x).o.ok:=by
 obtain⟨j,d,h2,_⟩:=dG b;have a:j<g.nodes.length:=by grind[PGM.I]
 rw[aV1 d,rH,jN a];exact c.ops _ (eQ a)
def aDQ(g:PGM)(c:g.ok)(x:Id)(b:x∈g.I):aA PQ G bY [.ptr 0 0,.ag x.A] (TG 0 g) λr T=>r=.tup [.ag (g.nd x).o.A,.v (.bool true)]/\T=TG 0 g:=by
 apply aC yZ;have q:=AL x;have a:=qH x g.I 0;obtain⟨j,d,h2,_⟩:=dG b;have f:=aV1 d;rw[d]at a;have k:=yC g.I.length j h2;have h:j<g.nodes.length:=by grind[PGM.I]
 have l:(g.nodes.map ND.A)[j]?=some (g.nd x).A:=e_;have i:=(Q9 c x).1;have p:=ND.Alen (g.nd x) i;have m:=ndT (g.nd x);have e:=aFR c b;simp only[iX,mG]at a;generalize(g.nd x)=n at *
 simp only[go_sem,TG,MG,a,k,aP,h,l,p,m];apply cX (ZH n.o e);simp only[go_sem]
def aV3(g:PGM)(f:g.ok)(l:O6)(q:l.Nodup)(s:∀x∈l,x∈g.I)(u:l.length<=1000):aA PQ G aN8 [.ptr 0 0,ids l] (TG 0 g) λr T=>r=.ls 27 ((aIW g l).map λx=>(g.nd x).o.A)/\T=TG 0 g:=by
 refine aA.fin (p:=λr T=>r=.own 3/\T=TG 0 g++[some (.arr 27 ((aIW g l).map λx=>(g.nd x).o.A))]) (aC aQ7 ?_) [3] ?_;rotate_left;rintro r h ⟨rfl,rfl⟩;simp only[go_sem,TG,MG];simp only[go_sem,TG,MG];apply aG [0,1,2] (aB _) s_ k_ a_ u_ (ZK g f l q o_);rintro r h ⟨rfl,rfl⟩;have e:=aDM g l;have a:∀x∈aIW g l,x∈g.I:=λx c=>s x ((mE g l).mem_iff.1 c);generalize aIW g l=L at *
 simp only[go_sem,TG,MG];refine aQ L.length (λi=>⟨3,[(0,.ptr 0 0),(5,.own 3),(12,ids L),(13,iv L.length),(14,iv i)],TG 0 g++[some (.arr 27 ((L.take i).map λx=>(g.nd x).o.A))]⟩) (λ_=>True) ?_ trivial ?_ ?_;simp only[go_sem,TG,MG,uQ,uP];intro i b _;have j:=fQ i o_;have t:(L.map Id.A)[i]?=some L[i].A:=aO _ L i b;have c:=a L[i] (eQ b);have n:L.take (i+1)=L.take i++[L[i]]:=(aBV b).symm;have d:(L.take i).length=i:=c_;rw[n];generalize L[i]=x at *
 generalize L.take i=O at *
 have m:(i+1)*328<=140737488355328:=uR (aOo 328 (o_:i+1<=1001)) s_;have k:i+1<=maxLen:=g_;simp only[go_sem,TG,MG,aT b,t];apply aG [0,1,2] (aB _) s_ k_ a_ u_ (aDQ g f x c);rintro r h ⟨rfl,rfl⟩;simp only[go_sem,TG,MG,aP,d,m,k,j,bZ,fG,uP];intro _;rw[dE];simp only[go_sem,TG,MG,aS (bP _)]
def oH(g:PGM)(x y:Id):Bool:=decide (x∈g.I)&&(decide (y∈g.I)&&qK (g.nd y).W (g.at x))
def Xg(p:PGM)(o:OpM):(sR p o).1.cards=p.cards:=by grind[sR,Oa,Q8]
def RL(cs:List CardM):∀(n:Nat)(l:List OpM),l.length=n->(AM cs l).cards=uE cs
 |0,l,h=>by
  obtain rfl:=Ae h;rfl
 |n+1,l,h=>by
  obtain⟨a,x,rfl⟩:∃a x,l=a++[x]:=⟨l.dropLast,l.getLast (by rintro rfl;simp at h),(List.dropLast_concat_getLast _).symm⟩
  rw[MS,Xg];exact RL cs n a n_
structure PGM.wf(g:PGM):Prop where
 nd:g.I.Nodup
 back:∀x∈g.I,∀k,qK (g.nd x).W k=true->k<g.at x
def aKI{g:PGM}{x:Id}(h:x∈g.I):g.at x<g.nodes.length/\g.I[g.at x]?=some x:=by
 obtain⟨j,e,a,_,h2⟩:=dG h;have b:g.at x=j:=by unfold PGM.at;rw[e];rfl
 rw[b];refine⟨by simpa[PGM.I]using a,?_⟩;rw[jN a,h2]
def aXs{g:PGM}{x y:Id}(d:x∈g.I)(c:y∈g.I)(h:g.at x=g.at y):x=y:=by have a:=(aKI d).2;have b:=(aKI c).2;rw[h,b]at a;exact(Option.some.inj a).symm
def aV4{g:PGM}(w:g.wf){k:Nat}(h:k<g.nodes.length):∃y∈g.I,g.at y=k/\g.nd y=g.nodes.getD k XD:=by
 have c:k<g.I.length:=by simpa[PGM.I]using h
 have m:=eQ c;have a:=(aKI m).2;have e:g.at g.I[k]=k:=by
  have b:g.at g.I[k]<g.I.length:=by have:=(aKI m).1;simpa[PGM.I]using this
  rw[jN b]at a;exact(C9 w.nd).1 (Option.some.inj a)
 exact⟨_,m,e,by unfold PGM.nd;rw[e]⟩
def aOI{g:PGM}{x y:Id}(b:x∈g.I)(a:y∈g.I):oH g x y=qK (g.nd y).W (g.at x):=by unfold oH;simp[b,a]
def aV5{W V:O3}(a:Hu W)(b:Hu V)(k:Nat):qK (Cu W V) k=(qK W k&&qK V k):=by unfold qK;rw[aB2 W V (by rw[a.1,b.1]),Nat.testBit_and]
def aWi(a:List ND)(o:OpM)(W:O3)(n j:Nat)(b:j<n)(c:(a.getD j XD).o.By=o.By)(h2:qK W j=true):(a.getD j XD).o.Seq<=(BY a o W n).1:=by
 induction n with
 |zero=>omega|succ n ih=>
  unfold BY;grind
def aV6(a:List ND)(o:OpM)(W:O3)(n:Nat):0<=(BY a o W n).1:=by
 induction n with
 |zero=>simp[BY]|succ n ih=>unfold BY;grind
def aWj(a:List ND)(o:OpM)(W:O3)(n:Nat)(h:(BY a o W n).2=true):∃j,j<n/\(a.getD j XD).o.By=o.By/\qK W j=true/\(a.getD j XD).o.Seq=o.Seq-1:=by
 induction n with
 |zero=>simp[BY]at h|succ n ih=>
  unfold BY at h;grind
def anc(g:PGM)(o:OpM)(y:Id):Bool:=o.Past.any λx=>decide (y=x)||oH g y x
def aP1{g:PGM}(c:g.ok){o:OpM}(b:∀x∈o.Past,x∈g.I){y:Id}(d:y∈g.I):qK (BF g o) (g.at y)=anc g o y:=by have e:=c.n;rw[BF,ZM (JC c _) (JB g _),aO8,Ec,aDY c,aDX g c.n o.Past λx a=>by have:=(aKI (b x a)).1;omega];unfold anc;rw[CX];constructor;rintro(⟨x,a,h⟩|⟨x,a,h⟩);exact⟨x,a,by simp[aOI d (b x a),h]⟩;exact⟨x,a,by simp[aXs (b x a) d h]⟩;rintro⟨x,a,h⟩;rcases Ec _ _ ▸ h with h|h;exact .inr ⟨x,a,by rw[of_decide_eq_true h]⟩;exact .inl ⟨x,a,by rw[<-aOI d (b x a)];exact h⟩
structure Took(g:PGM)(o:OpM):Prop where
 check:vF o=0
 new:C7 o∉g.I
 full:g.nodes.length<200
 card:(gM g.cards o.By).2=true
 sig:((o.By==(gM g.cards o.By).1.Device)&&BW (gM g.cards o.By).1.Sign o.B o.SR o.SS)=true
 kind:o.Kind=1->g.nodes=[]
 there:∀x∈o.Past,x∈g.I
 order:∀x∈o.Past,∀y∈o.Past,oH g y x=false
 late:G0 g o.Past<=o.At
 seq:∀y∈g.I,anc g o y=true->(g.nd y).o.By=o.By->(g.nd y).o.Seq<o.Seq
 pos:0<o.Seq
 pre:1<o.Seq->∃y∈g.I,anc g o y=true/\(g.nd y).o.By=o.By/\(g.nd y).o.Seq=o.Seq-1
def aRM{g:PGM}(d:g.ok)(w:g.wf){o:OpM}(h:(sR g o).2=0):Took g o/\(sR g o).1=⟨g.cards,g.nodes++[⟨o,C7 o,BF g o,Fa g o.Past⟩]⟩:=by
 unfold sR at h⊢;by_cases p:vF o=0;rotate_left;rw[if_pos p]at h;exact absurd h p;rw[if_neg (by simp[p])]at h⊢;unfold Oa at h⊢;split at h;exact absurd h k_;rename_i v;split at h;exact absurd h k_;rename_i E;split at h;exact absurd h k_;rename_i u;split at h;exact absurd h k_;rename_i t;split at h;exact absurd h k_;rename_i m;split at h;exact absurd h k_;rename_i D;rw[if_neg v,if_neg E,if_neg u,if_neg t,if_neg m,if_neg D];unfold Q8 at h⊢;split at h;exact absurd h k_;rename_i r;split at h;exact absurd h k_;rename_i l;rw[if_neg r,if_neg l];refine⟨?_,rfl⟩;have F:=d.n;have c:∀x∈o.Past,x∈g.I:=λx b=>by have e:CQ g o=[]:=Ae o_;unfold CQ at e;have:=List.filter_eq_nil_iff.1 e x b;simpa using this
 have q:∀x∈o.Past,g.at x<256:=λx b=>by have:=(aKI (c x b)).1;omega
 simp only[EX,Bool.not_eq_false,zJ,beq_iff_eq,decide_eq_false_iff_not]at r;unfold MQ at l;simp only[Ec,zJ,decide_eq_true_eq,EX,not_or,not_and,Bool.not_eq_false]at l;have s:=aV6 g.nodes o (BF g o) g.nodes.length;refine⟨p,v,o_,by simpa using u,R_,?_,c,?_,o_,?_,o_,?_⟩;intro A;apply Ae;rw[A]at m;simp at m;simp[m];intro x b y a
 cases i:oH g y x with
 |false=>rfl|true=>
  rw[aOI (c y a) (c x b)]at i;have k:=(aDY d o.Past (g.at y)).2 ⟨x,b,i⟩;have h2:=(aDX g d.n o.Past q (g.at y)).2 ⟨y,a,rfl⟩;have f:=aV5 (JB g o.Past) (JC d o.Past) (g.at y);rw[r.1,ZN,k,h2]at f;exact absurd f s_
 intro y a C i;have:=aWi g.nodes o (BF g o) g.nodes.length (g.at y) (aKI a).1 i (by rw[aP1 d c a];exact C);have e:(g.nd y).o.Seq=(g.nodes.getD (g.at y) XD).o.Seq:=rfl;omega;intro z;obtain⟨j,B,k,h2,f⟩:=aWj _ _ _ _ (l.2 z);obtain⟨y,a,rfl,e⟩:=aV4 w B;rw[aP1 d c a]at h2;rw[<-e]at k f;exact⟨y,a,h2,k,f⟩
def aSl{g:PGM}(i:g.ok)(w:g.wf){o:OpM}(t:Took g o):(sR g o).2=0:=by
 have B:=i.n;have m:∀x∈o.Past,g.at x<256:=λx h=>by have:=(aKI (t.there x h)).1;omega
 have q:CQ g o=[]:=List.filter_eq_nil_iff.2 λx h=>by simp[t.there x h]
 have p:Cu (Hg g o.Past) (Hh g o.Past)=z4:=by
  refine aB3 (JB g _) (JC i _) λk _ f=>?_;obtain⟨y,d,rfl⟩:=(aDX g i.n o.Past m k).1 f
  cases z:qK (Hh g o.Past) (g.at y) with
  |false=>rfl|true=>
   obtain⟨x,h,h2⟩:=(aDY i o.Past _).1 z;have:=t.order x h y d;rw[aOI (t.there y d) (t.there x h),h2]at this;exact absurd this s_
 have s:(BY g.nodes o (BF g o) g.nodes.length).1<o.Seq:=by have A:=t.pos;refine aG0 _ _ _ _ o_ λj v f h2=>?_;obtain⟨y,d,rfl,e⟩:=aV4 w v;rw[aP1 i t.there d]at h2;rw[<-e]at f⊢;exact t.seq y d h2 f
 have l:MQ g o=false:=by unfold MQ;rw[decide_eq_false o_,EH];by_cases f:1<o.Seq;obtain⟨y,d,a,b,c⟩:=t.pre f;rw[XR g.nodes o (BF g o) g.nodes.length (g.at y) (aKI d).1 b (by rw[aP1 i t.there d];exact a) c];simp;simp[f]
 have r:((o.Kind==1)&&decide (0<g.nodes.length))=false:=by
  cases u:o.Kind==1 with
  |false=>rfl|true=>simp[t.kind (by simpa using u)]
 have:=t.full;have:=t.late;rw[sR,if_neg (by simp[t.check]),Oa,if_neg t.new,if_neg o_,if_neg (by rw[t.card];decide),if_neg (by rw[t.sig];decide),if_neg (by rw[r];decide),if_neg (by rw[q];decide),Q8,if_neg (by rw[p,decide_eq_false o_];decide),if_neg (by rw[l];decide)]
structure Same(p q:PGM)(x:Id):Prop where
 l:x∈p.I
 r:x∈q.I
 o:(p.nd x).o=(q.nd x).o
 lv:(p.nd x).lv=(q.nd x).lv
 b:∀y,oH p y x=oH q y x
def Same.symm{p q:PGM}{x:Id}(h:Same p q x):Same q p x:=⟨h.r,h.l,h.o.symm,h.lv.symm,λy=>(h.b y).symm⟩
def Same.trans{p q r:PGM}{x:Id}(h:Same p q x)(k:Same q r x):Same p r x:=⟨h.l,k.r,h.o.trans k.o,h.lv.trans k.lv,λy=>(h.b y).trans (k.b y)⟩
def aWk{g:PGM}{x y:Id}(h:oH g x y=true):x∈g.I/\y∈g.I:=by unfold oH at h;simp only[zJ,decide_eq_true_eq]at h;exact⟨h.1,h.2.1⟩
def aPC{p q:PGM}{o:OpM}(c:∀x∈o.Past,Same p q x)(y:Id):anc p o y=anc q o y:=by unfold anc;rw[aO8,CX,CX];refine exists_congr λx=>and_congr_right λa=>?_;rw[(c x a).b y]
def aRN{g:PGM}{o:OpM}(b:∀x∈o.Past,x∈g.I){y:Id}(h:anc g o y=true):y∈g.I:=by unfold anc at h;obtain⟨x,a,h⟩:=CX.1 h;rcases Ec _ _ ▸ h with h|h;rw[of_decide_eq_true h];exact b x a;exact(aWk h).1
def aUc{p q:PGM}{l:O6}(a:∀x∈l,Same p q x):G0 p l=G0 q l:=by
 unfold G0;generalize(0:Int)=m
 induction l generalizing m with
 |nil=>rfl|cons x l ih=>rw[CW,CW,(a x k_).o,ih λy b=>a y dS]
def aV7{p q:PGM}{l:O6}(c:∀x∈l,Same p q x):Fa p l=Fa q l:=by
 have a:∀(l:O6)(m:Int),(∀x∈l,Same p q x)->l.foldl (λm x=>max m ((p.nd x).lv+1)) m=l.foldl (λm x=>max m ((q.nd x).lv+1)) m:=by
  intro l
  induction l with
  |nil=>intro m _;rfl|cons x l ih=>intro m h;rw[CW,CW,(h x k_).lv,ih _ λy b=>h y dS]
 exact a l 1 c
def aUd{p q:PGM}{o:OpM}(t:Took p o)(i:p.cards=q.cards)(d:∀x∈o.Past,Same p q x)(h2:∀y,anc p o y=true->Same p q y)(k:C7 o∉q.I)(m:q.nodes.length<200)(n:o.Kind=1->q.nodes=[]):Took q o where
 check:=t.check
 new:=k
 full:=m
 card:=i ▸ t.card
 sig:=i ▸ t.sig
 kind:=n
 there:=λx e=>(d x e).r
 order:=λx e y f=>by rw[<-(d x e).b y];exact t.order x e y f
 late:=by rw[<-aUc d];exact t.late
 seq:=λy f g j=>by rw[<-aPC d]at g;have s:=h2 y g;rw[<-s.o]at j⊢;exact t.seq y s.l g j
 pos:=t.pos
 pre:=λh=>by obtain⟨y,f,a,b,c⟩:=t.pre h;have s:=h2 y a;exact⟨y,s.r,by rw[<-aPC d];exact a,by rw[<-s.o];exact b,by rw[<-s.o];exact c⟩
def aRO {g:PGM} (r:g.ok) (w:g.wf) {o:OpM} (t:Took g o) {d:PGM} (e:d=⟨g.cards,g.nodes++[⟨o,C7 o,BF g o,Fa g o.Past⟩]⟩):
 d.wf/\d.I=g.I++[C7 o]/\(∀x∈g.I,Same g d x)/\(d.nd (C7 o)).o=o/\(d.nd (C7 o)).lv=Fa g o.Past/\∀y,oH d y (C7 o)=anc g o y:=by
 have hI:d.I=g.I++[C7 o]:=by subst e;simp[PGM.I]
 have B:g.I.length=g.nodes.length:=by simp[PGM.I]
 have l:d.I.Nodup:=by rw[hI,vQ];refine⟨w.nd,k_,?_⟩;intro a F b s;rw[aE5.1 s];rintro rfl;exact t.new F
 have A:∀x∈g.I,d.at x=g.at x:=λx c=>by
  have m:=aKI c;have h2:=aKI (g:=d) (x:=x) (by rw[hI];simp[c]);have G:g.at x<g.I.length:=by rw[B];exact m.1
  have C:d.at x<d.I.length:=by have:=h2.1;simpa[PGM.I]using this
  have v:d.I[g.at x]?=some x:=by rw[hI,mY G];exact m.2
  have E:g.at x<d.I.length:=by rw[hI];simp;omega
  rw[jN E]at v;have u:=h2.2;rw[jN C]at u;exact((C9 l).1 ((Option.some.inj v).trans (Option.some.inj u).symm)).symm
 have z:d.at (C7 o)=g.nodes.length:=by
  have h2:=aKI (g:=d) (x:=C7 o) (by rw[hI];simp);have C:d.at (C7 o)<d.I.length:=by have:=h2.1;simpa[PGM.I]using this
  have u:=h2.2;rw[jN C]at u;have E:g.nodes.length<d.I.length:=by rw[hI];simp[B]
  have v:d.I[g.nodes.length]=C7 o:=by simp[hI,<-B]
  exact(C9 l).1 ((Option.some.inj u).trans v.symm)
 have q:∀x∈g.I,d.nd x=g.nd x:=λx c=>by unfold PGM.nd;rw[A x c];subst e;exact Ol _ _ _ _ (aKI c).1
 have p:d.nd (C7 o)=⟨o,C7 o,BF g o,Fa g o.Past⟩:=by unfold PGM.nd;rw[z];subst e;exact D2 _ _ _
 have bk:∀k,qK (BF g o) k=true->k<g.nodes.length:=λk h=>by
  rw[BF,ZM (JC r _) (JB g _),Ec,aDY r,aDX g r.n o.Past λx c=>by have:=(aKI (t.there x c)).1;have:=r.n;omega]at h;rcases h with⟨x,c,h⟩|⟨x,c,rfl⟩
  have:=w.back x (t.there x c) k h;have:=(aKI (t.there x c)).1;omega;exact(aKI (t.there x c)).1
 have f:∀y,y∈d.I↔y∈g.I\/y=C7 o:=λy=>by rw[hI];simp
 refine⟨⟨l,?_⟩,hI,?_,by rw[p],by rw[p],?_⟩;intro x c k h;rcases(f x).1 c with m|rfl;rw[q x m]at h;rw[A x m];exact w.back x m k h;rw[p]at h;rw[z];exact bk k h;intro x c;refine⟨c,(f x).2 (.inl c),by rw[q x c],by rw[q x c],λy=>?_⟩;by_cases j:y∈g.I;rw[aOI j c,aOI ((f y).2 (.inl j)) ((f x).2 (.inl c)),q x c,A y j];have D:oH g y x=false:=by unfold oH;simp[j]
 rw[D];by_cases i:y=C7 o;subst i;rw[aOI ((f _).2 (.inr rfl)) ((f x).2 (.inl c)),q x c,z]
 cases s:qK (g.nd x).W g.nodes.length with
 |false=>rfl|true=>
  have:=w.back x c _ s;have:=(aKI c).1;omega
 unfold oH;simp[f,j,i];intro y;by_cases j:y∈g.I;rw[aOI ((f y).2 (.inl j)) ((f _).2 (.inr rfl)),p,A y j,aP1 r t.there j];have D:anc g o y=false:=by
  cases h:anc g o y with
  |false=>rfl|true=>exact absurd (aRN t.there h) j
 rw[D];by_cases i:y=C7 o;subst i;rw[aOI ((f _).2 (.inr rfl)) ((f _).2 (.inr rfl)),p,z]
 cases s:qK (BF g o) g.nodes.length with
 |false=>rfl|true=>exact absurd (bk _ s) (bP _)
 unfold oH;simp[f,j,i]
section
variable{p q:PGM}
def aWl{x y:Id}(b:Same p q x)(a:Same p q y):P0 p x y=P0 q x y:=by unfold P0 Su;simp[b.l,b.r,a.l,a.r,b.lv,a.lv]
def aV8{l:O6}(a:∀x∈l,Same p q x):aIW p l=aIW q l:=by refine aPZ (g:=p) ((mE p l).trans (mE q l).symm) (U4 p l) ?_;refine(U4 q l).imp_of_mem λc b h=>?_;rw[aWl (a _ ((mE q l).mem_iff.1 b)) (a _ ((mE q l).mem_iff.1 c))];exact h
end
section
variable{cs:List CardM}{L:List OpM}
def aOr (c:∀i,(AM cs (L.take i)).ok) (b:∀i(h:i<L.length),(sR (AM cs (L.take i)) L[i]).2=0):∀i,i<=L.length ->
 (AM cs (L.take i)).wf/\(AM cs (L.take i)).I=(L.take i).map C7/\∀j,j<=i->∀x∈(AM cs (L.take j)).I,Same (AM cs (L.take j)) (AM cs (L.take i)) x
 |0,_=>by
  refine⟨⟨sm,sm⟩,sm,λj n=>?_⟩;obtain rfl:j=0:=o_;exact λx d=>⟨d,d,rfl,rfl,λ_=>rfl⟩
 | i+1,h=>by
  obtain⟨w,e,s⟩:=aOr c b i o_;obtain⟨t,o⟩:=aRM (c i) w (b i o_);have g:AM cs (L.take (i+1))=(sR (AM cs (L.take i)) L[i]).1:=by rw[lq8 o_,MS]
  rw[o]at g;obtain⟨k,m,l,_⟩:=aRO (c i) w t g;refine⟨k,?_,?_⟩;rw[m,e,lq8 o_,bZ];rfl;intro j n x d;rcases eD i j with f|f;obtain rfl:j=i+1:=o_;exact⟨d,d,rfl,rfl,λ_=>rfl⟩;have a:=s j f x d;exact a.trans (l x a.r)
def aQJ(c:∀i,(AM cs (L.take i)).ok)(a:∀i(h:i<L.length),(sR (AM cs (L.take i)) L[i]).2=0){k:Nat}(f:k<L.length):
 Took (AM cs (L.take k)) L[k]/\(∀x∈(AM cs (L.take k)).I,Same (AM cs (L.take k)) (AM cs L) x)/\C7 L[k]∈(AM cs L).I/\((AM cs L).nd (C7 L[k])).o=L[k]/\((AM cs L).nd (C7 L[k])).lv=Fa (AM cs (L.take k)) L[k].Past/\∀y,oH (AM cs L) y (C7 L[k])=anc (AM cs (L.take k)) L[k] y:=by
 obtain⟨w,e,_⟩:=aOr c a k o_;obtain⟨t,p⟩:=aRM (c k) w (a k f);have g:AM cs (L.take (k+1))=(sR (AM cs (L.take k)) L[k]).1:=by rw[lq8 f,MS]
 rw[p]at g;obtain⟨u,m,v,j,l,q⟩:=aRO (c k) w t g;have d:=(aOr c a L.length (cN _)).2.2;rw[dE]at d;have s:=d (k+1) o_ (C7 L[k]) (by rw[m];simp);exact⟨t,λx n=>d k o_ x n,s.r,by rw[<-s.o,j],by rw[<-s.lv,l],λy=>by rw[<-s.b,q]⟩
def aV9 (l:∀i,(AM cs (L.take i)).ok) (u:∀o∈L,o.ok/\(C7 o).ok) (N:cardsOk cs) (f:∀i(h:i<L.length),(sR (AM cs (L.take i)) L[i]).2=0) (hL:L.length<=200)
 {R:O3} (C:∀k∈R,k<L.length) (W:R.Nodup) (hp:∀i(h:i<R.length),∀x∈(L.getD R[i] default).Past,x∈(R.take i).map λk=>C7 (L.getD k default)) (n:∀i(h:i<R.length),(L.getD R[i] default).Kind=1->i=0):
 ∀i,i<=R.length->(AM cs ((R.take i).map λk=>L.getD k default)).wf/\(AM cs ((R.take i).map λk=>L.getD k default)).ok/\(AM cs ((R.take i).map λk=>L.getD k default)).I=(R.take i).map (λk=>C7 (L.getD k default)) /\
  (∀x∈(AM cs ((R.take i).map λk=>L.getD k default)).I,Same (AM cs L) (AM cs ((R.take i).map λk=>L.getD k default)) x)/\∀(h:i<R.length),(sR (AM cs ((R.take i).map λk=>L.getD k default)) (L.getD R[i] default)).2=0:=by
 have G:∀k(h:k<L.length),L.getD k default=L[k]:=λk h=>by simp[rH,h]
 have O:=aOr l f L.length (cN _);rw[dE]at O;have aa:R.length<=L.length:=by have:=List.Nodup.length_le_of_subset W (l₂:=List.range L.length) λk n=>uM.2 (C k n);simpa using this
 have b:∀i,(AM cs ((R.take i).map λk=>L.getD k default)).ok:=λi=>XM N _ λo ho=>by obtain⟨k,n,rfl⟩:=dF.1 ho;have:=C k (C8 n);rw[G k this];exact u _ (eQ this)
 have d:∀i(h:i<R.length),(AM cs ((R.take i).map λk=>L.getD k default)).wf->(AM cs ((R.take i).map λk=>L.getD k default)).I=(R.take i).map (λk=>C7 (L.getD k default)) ->
  (∀x∈(AM cs ((R.take i).map λk=>L.getD k default)).I,Same (AM cs L) (AM cs ((R.take i).map λk=>L.getD k default)) x)->Took (AM cs ((R.take i).map λk=>L.getD k default)) (L.getD R[i] default)/\∀x∈(L.getD R[i] default).Past,Same (AM cs (L.take R[i])) (AM cs ((R.take i).map λk=>L.getD k default)) x:=by
  intro i h w hI F;have c:=C _ (eQ h);obtain⟨t,s,m,_⟩:=aQJ l f c;have q:=hp i h;have z:=n i h;rw[G _ c]at q z⊢;have Q:∀x∈(AM cs (L.take R[i])).I,x∈(AM cs ((R.take i).map λk=>L.getD k default)).I->Same (AM cs (L.take R[i])) (AM cs ((R.take i).map λk=>L.getD k default)) x:=λx h1 h2=>(s x h1).trans (F x h2);have g:∀x∈L[R[i]].Past,Same (AM cs (L.take R[i])) (AM cs ((R.take i).map λk=>L.getD k default)) x:=λx a=>Q x (t.there x a) (by rw[hI];exact q x a);refine⟨aUd t (by rw[RL cs _ _ rfl,RL cs _ _ rfl]) g (λy K=>Q y (aRN t.there K) ?_) ?_ ?_ ?_,g⟩;rw[aPC g]at K;exact aRN (λx a=>(g x a).r) K;rw[hI];intro hm;obtain⟨k,n,e⟩:=dF.1 hm;obtain⟨j,hj,rfl⟩:=TT.1 n;have B:=C _ (eQ (o_:j<R.length));rw[G _ B]at e;have v:=O.1.nd;rw[O.2.1]at v;have P:R[j]=R[i]:=by refine(C9 (h₀:=si) (h₁:=oW) v).1 ?_;simpa using e
  have:=(C9 W).1 P;omega;have hl:(AM cs ((R.take i).map λk=>L.getD k default)).I.length=i:=by rw[hI];simp;omega
  have:(AM cs ((R.take i).map λk=>L.getD k default)).nodes.length=i:=by simpa[PGM.I]using hl
  omega;intro M;obtain rfl:=z M;simp[AM]
 intro i
 induction i with
 |zero=>
  intro _;have J:(AM cs (([]:O3).map λk=>L.getD k default)).wf:=⟨sm,sm⟩
  have i0:(AM cs (([]:O3).map λk=>L.getD k default)).I=[]:=sm;have S:∀x∈(AM cs (([]:O3).map λk=>L.getD k default)).I,Same (AM cs L) (AM cs (([]:O3).map λk=>L.getD k default)) x:=λx a=>absurd a (by rw[i0];simp);exact⟨J,b 0,i0,S,λh=>aSl (b 0) J (d 0 h J i0 S).1⟩
 | succ i ih=>
  intro h;obtain⟨w,T,hI,F,ha⟩:=ih o_;have A:i<R.length:=o_;have c:=C _ (eQ A);obtain⟨t,g⟩:=d i A w hI F;obtain⟨_,P⟩:=aRM T w (ha A);have X:AM cs ((R.take (i+1)).map λk=>L.getD k default)=(sR (AM cs ((R.take i).map λk=>L.getD k default)) (L.getD R[i] default)).1:=by rw[lq8 A,bZ,fG,uP,MS]
  rw[P]at X;obtain⟨H,E,Z,U,V,Y⟩:=aRO T w t X;have D:(AM cs ((R.take (i+1)).map λk=>L.getD k default)).I=(R.take (i+1)).map (λk=>C7 (L.getD k default)):=by rw[E,hI,lq8 A,bZ];rfl
  have p:∀x∈(AM cs ((R.take (i+1)).map λk=>L.getD k default)).I,Same (AM cs L) (AM cs ((R.take (i+1)).map λk=>L.getD k default)) x:=by intro x a;rw[E]at a;rcases cG.1 a with a|a;exact(F x a).trans (Z x a);obtain⟨t0,s,m,o0,l0,b0⟩:=aQJ l f c;rw[aE5.1 a];rw[G _ c]at g U V Y E⊢;exact⟨m,by rw[E];simp,by rw[o0,U],by rw[l0,V,aV7 g],λy=>by rw[b0,Y,aPC g]⟩
  exact⟨H,b _,D,p,λh=>aSl (b _) H (d (i+1) h H D p).1⟩
end
def bfM(g:GM)(x y:Id):Bool:=decide (x∈g.I)&&(decide (y∈g.I)&&(g.In.getD (aW g.I y).toNat []).getD (aW g.I x).toNat false)
def RU.trans{a:List O3}{b:O3}{i k:Nat}(h:RU a b i)(h2:RU a (a.getD i []) k):RU a b k:=by
 induction h2 with
 |base h2=>exact .step h h2|step _ c ih=>exact .step ih c
section
variable{g:GM}
def aP2(b:g.I.length=g.L.length){x:Id}(a:x∈g.I):(aW g.I x).toNat<g.L.length:=by have c:=(Cz g.I x).2 a;have h2:=(AZ g.I x).1;omega
def aVa(w:g.wf){x y z:Id}(c:bfM g x y=true)(h2:bfM g y z=true):bfM g x z=true:=by
 unfold bfM at *
 simp only[zJ,decide_eq_true_eq]at *
 refine⟨c.1,h2.2.1,?_⟩;have a:=(w.past _ (aP2 w.i c.2.1) _).1 c.2.2;have b:=(w.past _ (aP2 w.i h2.2.1) _).1 h2.2.2;exact(w.past _ (aP2 w.i h2.2.1) _).2 (b.trans a)
def aQK(a:g.I.Nodup){i:Nat}(h:i<g.I.length):aW g.I g.I[i]=i:=by obtain⟨j,e,b,_,h2⟩:=dG (eQ h);have:j=i:=(C9 a).1 h2;unfold aW qX;rw[e,this]
def aOJ{x:Id}(b:x∈g.I):g.I.getD (aW g.I x).toNat default=x:=by obtain⟨j,e,a,_,h2⟩:=dG b;unfold aW qX;rw[e];simp[rH,a,h2]
def aRs{I:O6}{y:Id}:∀(l out:O6),y∈l.foldl (vL I) out↔y∈out\/(y∈l/\y∈I)|[],out=>by simp|z::l,out=>by rw[CW,aRs l];unfold vL;split;rename_i a;simp only[zJ,decide_eq_true_eq]at a;have:=(Cz I z).1 a.1;grind;rename_i a;simp only[zJ,decide_eq_true_eq,EX,decide_eq_false_iff_not]at a;have:=Cz I z;grind
def aVb(h:g.I.length=g.L.length)(f:g.I.Nodup){l:O6}{y:Id}:y∈Fd g l↔(y∈l/\y∈g.I)\/∃x∈l,bfM g y x=true:=by
 unfold Fd rV;rw[(dQ _).mem_iff,aRs,(dQ _).mem_iff,or_comm];apply or_congr .rfl;unfold Le B3 bfM;simp only[dF,gR,uM,CX,zJ,decide_eq_true_eq,Cz];constructor;rintro⟨i,⟨d,x,a,h2,c⟩,rfl⟩;have b:i<g.I.length:=o_;have e:g.I.getD i default=g.I[i]:=by simp[rH,b]
 rw[e,aQK f b];exact⟨x,a,eQ b,h2,c⟩;rintro⟨x,a,d,h2,c⟩;exact⟨_,⟨aP2 h d,x,a,h2,c⟩,aOJ d⟩
def aSm(w:g.wf)(d:g.I.Nodup){l:O6}{y z:Id}(b:y∈Fd g l)(h:bfM g z y=true):z∈Fd g l:=by
 rw[aVb w.i d]at *
 rcases b with⟨a,_⟩|⟨x,c,a⟩
 exact .inr ⟨y,a,h⟩;exact .inr ⟨x,c,aVa w h a⟩
def aRb(w:g.wf)(b:g.I.Nodup){m:O4}{y z:Id}(a:y∈qI g m)(h:bfM g z y=true):z∈qI g m:=by
 unfold qI at *
 split at a;rename_i c;rw[if_pos c,(dQ _).mem_iff];unfold bfM at h;simp only[zJ,decide_eq_true_eq]at h;exact h.1;rename_i c;rw[if_neg c];exact aSm w b a h
end
def rid(g:GM)(R:O3):O6:=R.map λk=>C7 (g.L.getD k default)
def aIX(g:GM)(R:O3):List OpM:=R.map λk=>g.L.getD k default
def aOs(g:GM)(l:O6):O3:=l.map λx=>(aW g.I x).toNat
structure RRow(g:GM)(R:List Nat):Prop where
 lt:∀k∈R,k<g.L.length
 nd:R.Nodup
 par:∀i(h:i<R.length),∀x∈(g.L.getD R[i] default).Past,x∈rid g (R.take i)
 kd:∀i(h:i<R.length),(g.L.getD R[i] default).Kind=1->i=0
section
variable{cs:List CardM}{g:GM}(hc:cardsOk cs)(hr:Reach cs g)
include hc hr
def rok:(∀i,(AM cs (g.L.take i)).ok)/\(∀o∈g.L,o.ok/\(C7 o).ok)/\g.I=g.L.map C7/\(AM cs g.L).I=g.I/\(∀i(h:i<g.L.length),(sR (AM cs (g.L.take i)) g.L[i]).2=0):=by
 have c:=hr.good hc;have a:∀o∈g.L,o.ok/\(C7 o).ok:=λo b=>⟨c.ok.ops o b,c.ids o b⟩
 exact⟨λi=>XM hc _ λo b=>a o (C8 b),a,(hr.row hc).ids,c.sim.i,c.all⟩
def aQh{R:O3}(rr:RRow g R):(AM cs (aIX g R)).wf/\(∀i,(AM cs (aIX g (R.take i))).ok)/\(AM cs (aIX g R)).I=rid g R/\(∀x∈(AM cs (aIX g R)).I,Same (AM cs g.L) (AM cs (aIX g R)) x) /\
 ∀i(h:i<R.length),(sR (AM cs (aIX g (R.take i))) (g.L.getD R[i] default)).2=0:=by
 have f:=hr.good hc;obtain⟨d,a,hI,_,b⟩:=rok hc hr;have e:=aV9 d a hc b f.n rr.lt rr.nd rr.par rr.kd;have c:=e R.length (cN _);rw[dE]at c;refine⟨c.1,λi=>?_,c.2.2.1,c.2.2.2.1,λi h=>(e i o_).2.2.2.2 h⟩;rcases eD R.length i with h|h;rw[sG o_];exact c.2.1;exact(e i h).2.1
def aN6{x:Id}(b:x∈g.I):(aW g.I x).toNat<g.L.length/\C7 (g.L.getD (aW g.I x).toNat default)=x/\((AM cs g.L).nd x).o=g.L.getD (aW g.I x).toNat default:=by have d:=hr.good hc;have hI:=(rok hc hr).2.2.1;have a:=aP2 d.ok.i b;have h2:=aOJ b;refine⟨a,?_,?_⟩;rw[rH,hI]at h2;rw[hI]at a;simpa[a,hI]using h2;have c:=(aQI hc hr _ a).2;rw[h2]at c;exact c
def aTx{l:O6}(b:∀x∈l,x∈g.I):rid g (aOs g l)=l:=by
 unfold rid aOs;rw[rI]
 conv=>rhs;rw[<-List.map_id l]
 exact LD λx a=>(aN6 hc hr (b x a)).2.1
def aWm{l:O6}(b:∀x∈l,x∈g.I):aIX g (aOs g l)=l.map λx=>((AM cs g.L).nd x).o:=by unfold aIX aOs;rw[rI];exact LD λx a=>(aN6 hc hr (b x a)).2.2.symm
def aQk{k:Nat}(c:k<g.L.length)(h:(g.L.getD k default).Kind=1):k=0:=by
 obtain⟨b,_,_,_,a⟩:=rok hc hr;have e:g.L.getD k default=g.L[k]:=by simp[rH,c]
 rw[e]at h;have f:=(aQJ b a c).1.kind h;have h2:=(aOr b a k o_).2.1;have d:(AM cs (g.L.take k)).I=[]:=by unfold PGM.I;rw[f];rfl
 rw[d]at h2;have:=congrArg List.length h2;simp only[gQ,aP,eC]at this;omega
def aTy{k:Nat}(c:k<g.L.length)(h:(g.L.getD k default).Past=[]):(g.L.getD k default).Kind=1:=by
 obtain⟨b,_,_,_,a⟩:=rok hc hr;have e:g.L.getD k default=g.L[k]:=by simp[rH,c]
 rw[e]at h⊢;have d:=(Aq g.L[k]).symm.trans (aQJ b a c).1.check;have h2:decide (g.L[k].Past.length=0)=decide (g.L[k].Kind=1):=by grind[jB]
 rw[decide_eq_decide]at h2;exact h2.1 (by rw[h];rfl)
def aWn{R:O3}(rr:RRow g R){x:Id}(a:x∈rid g R):x∈g.I:=by obtain⟨k,b,rfl⟩:=dF.1 a;have h:=rr.lt k b;rw[(rok hc hr).2.2.1,show g.L.getD k default=g.L[k] by simp[rH,h]];exact List.mem_map_of_mem (eQ h)
def aXt{k:Nat}(a:k<g.L.length):(aW g.I (C7 (g.L.getD k default))).toNat=k:=by
 have hI:=(rok hc hr).2.2.1;have b:=(hr.row hc).nd;have c:k<g.I.length:=by rw[hI];simpa using a
 have h:=aQK b c;have e:g.I[k]=C7 (g.L.getD k default):=by simp[hI,rH,a]
 rw[e]at h;omega
def aOj{R:O3}(rr:RRow g R):(rid g R).Nodup:=by have:=(aQh hc hr rr).1.nd;rw[(aQh hc hr rr).2.2.1]at this;exact this
def aWo {R:O3} (rr:RRow g R) {S:O6} (Q:∀x∈S,x∈g.I) (T:S.Nodup) (O:∀x∈S,x∉rid g R) (J:∀x∈S,∀y∈((AM cs g.L).nd x).o.Past,y∈rid g R\/y∈S):
 RRow g (R++aOs g (aIW (AM cs g.L) S)):=by
 obtain⟨c,p,w,F,e⟩:∃c:O6,(∀x,x∈c↔x∈S)/\c.Nodup/\c.Pairwise (λx y=>P0 (AM cs g.L) y x=false)/\aIW (AM cs g.L) S=c :=
  ⟨_,λx=>(mE _ S).mem_iff,(mE _ S).nodup_iff.2 T,U4 _ S,rfl⟩
 rw[e];have d:∀x∈c,x∈g.I:=λx n=>Q x ((p x).1 n);have s:(aOs g c).length=c.length:=by simp[aOs]
 have r:∀j(h:j<c.length),(aOs g c)[j]'o_=(aW g.I c[j]).toNat:=λj h=>by simp[aOs]
 have H:∀j(h:j<c.length),g.L.getD ((aOs g c)[j]'o_) default=((AM cs g.L).nd c[j]).o:=λj h=>by rw[r j h];exact(aN6 hc hr (d _ (eQ h))).2.2.symm
 have B:∀j(h:j<c.length),∀y∈((AM cs g.L).nd c[j]).o.Past,y∈rid g R\/∃m,m<j/\∃h:m<c.length,c[m]=y:=by intro j h y v;rcases J _ ((p _).1 (eQ h)) y v with l|l;exact .inl l;obtain⟨m,D,rfl⟩:=List.mem_iff_getElem.1 ((p y).2 l);have h2:=aXr hc hr (d _ (eQ h)) v;refine .inr ⟨m,?_,D,rfl⟩;rcases aGJ m j with a|a|a;exact a;subst a;rw[aST]at h2;exact absurd h2 s_;have:=QD.1 F j m h D a;rw[this]at h2;exact absurd h2 s_
 refine⟨?_,?_,?_,?_⟩;intro k q;rcases cG.1 q with q|q;exact rr.lt k q;obtain⟨x,n,rfl⟩:=dF.1 q;exact(aN6 hc hr (d x n)).1;rw[vQ];refine⟨rr.nd,?_,?_⟩;have h:=aTx hc hr d;exact List.Pairwise.of_map (S:=(· ≠ ·)) _ (λa b h e=>h (congrArg _ e)) (show(rid g (aOs g c)).Nodup by rw[h];exact w);intro a V b U;rintro rfl;obtain⟨x,n,rfl⟩:=dF.1 U;apply O x ((p x).1 n);have:=List.mem_map_of_mem (f:=λk=>C7 (g.L.getD k default)) V;rw[(aN6 hc hr (d x n)).2.1]at this;exact this;intro i h x n;rcases eD i R.length with l|l;rw[List.getElem_append_left l]at n;rw[Rf o_];exact rr.par i l x n;rw[List.getElem_append_right l]at n;have t:i-R.length<c.length:=by simp only[dZ,s]at h;omega
 rw[H _ t]at n;rw[List.take_append,sG l];unfold rid;rw[bZ,cG];rcases B _ t x n with h2|⟨m,D,A,rfl⟩
 exact .inl h2;refine .inr (dF.2 ⟨(aOs g c)[m]'o_,TT.2 ⟨m,o_,rfl⟩,?_⟩);rw[r m A];exact(aN6 hc hr (d _ (eQ A))).2.1;intro i h q;rcases eD i R.length with l|l;rw[List.getElem_append_left l]at q;exact rr.kd i l q;rw[List.getElem_append_right l]at q;have t:i-R.length<c.length:=by simp only[dZ,s]at h;omega
 have G:=(aN6 hc hr (d _ (eQ t))).1;rw[r _ t]at q;have z:=aQk hc hr G q
 cases R with
 | nil=>
  have K:0<c.length:=o_;have u:=(aN6 hc hr (d _ (eQ K)))
  have M:(g.L.getD (aW g.I c[0]).toNat default).Past=[]:=by
   rw[<-u.2.2];refine TS.2 λy v=>?_;rcases B 0 K y v with h2|⟨m,D,_⟩
   exact absurd h2 (by simp[rid]);omega
  have E:=aQk hc hr u.1 (aTy hc hr u.1 M);have P:=aOJ (d _ (eQ t));rw[z,<-E,aOJ (d _ (eQ K))]at P;have:=(C9 w).1 P;simp only[gQ]at this;omega
 | cons N R=>
  have C:=rr.lt N k_;have M:(g.L.getD N default).Past=[]:=by refine TS.2 λy v=>?_;have:=rr.par 0 k_ y v;simp[rid]at this
  have E:=aQk hc hr C (aTy hc hr C M);exfalso;apply O _ ((p _).1 (eQ t));have:=(aN6 hc hr (d _ (eQ t))).2.1;rw[<-this,z,<-E];exact List.mem_map_of_mem k_
end
def aKJ(p:PGM)(l:List OpM):PGM:=l.foldl (λp o=>(sR p o).1) p
def aUe(p:PGM)(l:List OpM)(o:OpM):aKJ p (l++[o])=(sR (aKJ p l) o).1:=by simp[aKJ]
def aUf(cs:List CardM)(l m:List OpM):aKJ (AM cs l) m=AM cs (l++m):=by simp[aKJ,AM]
def aKU(g:GM)(S:O6)(n:Nat):O3:=(List.range n).filter λk=>decide (C7 (g.L.getD k default)∈S)
def aTz{g:GM}{S:O6}{n:Nat}(h:C7 (g.L.getD n default)∈S):aKU g S (n+1)=aKU g S n++[n]:=by unfold aKU;rw[QH,Mf,List.filter_cons_of_pos n_,List.filter_nil]
def aVc{g:GM}{S:O6}{n:Nat}(h:C7 (g.L.getD n default)∉S):aKU g S (n+1)=aKU g S n:=by unfold aKU;rw[QH,Mf,List.filter_cons_of_neg n_,List.filter_nil,jO]
def aSU{g:GM}{S:O6}{n i:Nat}(c:i<n)(h:C7 (g.L.getD i default)∈S):∃j,∃b:j<(aKU g S n).length,(aKU g S n)[j]=i/\(aKU g S n).take j=aKU g S i:=by
 have e:∃B,aKU g S n=aKU g S i++i::B:=by
  refine⟨((List.range n).drop (i+1)).filter λk=>decide (C7 (g.L.getD k default)∈S),?_⟩;have a:List.range n=List.range (i+1)++(List.range n).drop (i+1):=by
   conv=>lhs;rw[<-LC (i+1) (List.range n)]
   rw[List.take_range,Kj o_]
  have h2:=aTz h;unfold aKU at h2⊢
  conv=>lhs;rw[a]
  rw[Mf,h2];simp
 obtain⟨B,e⟩:=e;rw[e];exact⟨(aKU g S i).length,k_,k_,k_⟩
section
variable{cs:List CardM}{g:GM}(hc:cardsOk cs)(hr:Reach cs g)
include hc hr
def aVd{k:Nat}(a:k<g.L.length):((AM cs g.L).nd (C7 (g.L.getD k default))).o=g.L.getD k default/\C7 (g.L.getD k default)∈g.I:=by
 have hI:=(rok hc hr).2.2.1;have b:C7 (g.L.getD k default)∈g.I:=by rw[hI,show g.L.getD k default=g.L[k] by simp[rH,a]];exact List.mem_map_of_mem (eQ a)
 have h:=(aN6 hc hr b).2.2;rw[aXt hc hr a]at h;exact⟨h,b⟩
def aPe {S:O6} (v:∀x∈S,∀y∈((AM cs g.L).nd x).o.Past,y∈S):RRow g (aKU g S g.L.length):=by
 obtain⟨f,_,hI,_,c⟩:=rok hc hr;have r:(aKU g S g.L.length).Pairwise (· < ·):=List.pairwise_lt_range.filter _;have n:∀k,k∈aKU g S g.L.length↔k<g.L.length/\C7 (g.L.getD k default)∈S:=λk=>by simp[aKU]
 refine⟨λk d=>((n k).1 d).1,r.imp (λh=>Nat.ne_of_lt h),?_,?_⟩;intro i h x q;obtain⟨d,t⟩:=(n _).1 (eQ h);have p:x∈S:=v _ t x (by rw[(aVd hc hr d).1];exact q);have e:g.L.getD (aKU g S g.L.length)[i] default=g.L[(aKU g S g.L.length)[i]]:=by simp[rH,d]
 rw[e]at q;have w:=(aQJ f c d).1.there x q;rw[(aOr f c _ o_).2.1]at w;obtain⟨o,B,rfl⟩:=dF.1 w;obtain⟨m,C,rfl⟩:=TT.1 B;have l:m<g.L.length:=o_;have A:g.L.getD m default=g.L[m]:=by simp[rH,l]
 have s:m∈aKU g S g.L.length:=(n m).2 ⟨l,by rw[A];exact p⟩;obtain⟨j,D,E⟩:=List.mem_iff_getElem.1 s;refine dF.2 ⟨m,TT.2 ⟨j,?_,E⟩,by rw[A]⟩;rcases eD j i with a|a;omega;exfalso;rcases eD i j with b|b;have:=QD.1 r i j h D b;omega;have:i=j:=o_;subst this;omega;intro i h d;have u:=((n _).1 (eQ h)).1;have z:=aQk hc hr u d;rcases JX i with a|a;exact a;have:=QD.1 r 0 i o_ h a;omega
def aPD{S:O6}(c:∀x∈S,x∈g.I)(x:Id):x∈rid g (aKU g S g.L.length)↔x∈S:=by unfold rid;rw[dF];constructor;rintro⟨k,b,rfl⟩;simp only[aKU,gR,decide_eq_true_eq]at b;exact b.2;intro h;have a:=aN6 hc hr (c x h);refine⟨(aW g.I x).toNat,?_,a.2.1⟩;simp only[aKU,gR,decide_eq_true_eq,uM];exact⟨a.1,by rw[a.2.1];exact h⟩
def aMU{m:O4}{x y:Id}(p:x∈qI g m)(n:y∈((AM cs g.L).nd x).o.Past):y∈qI g m:=by
 have l:=hr.good hc;have a:=hr.row hc;have c:=XW l.ok.i m x p;have j:=aN6 hc hr c;apply aRb l.wf a.nd p;rw[j.2.2]at n;obtain⟨k,r,e⟩:=a.par _ j.1 y n;have b:k<g.I.length:=by rcases eD k g.I.length with h|h;exact h;rw[sX h]at e;simp at e
 rw[jN b]at e;have q:g.I[k]=y:=Option.some.inj e;have d:=aQK a.nd b;rw[q]at d;have f:y∈g.I:=q ▸ eQ b;unfold bfM;rw[d];simp only[f,c,decide_true,mF,nI];exact(l.wf.past _ j.1 k).2 (.base r)
def aSV{R:O3}(rr:RRow g R){x y:Id}(c:x∈rid g R)(a:y∈((AM cs g.L).nd x).o.Past):y∈rid g R:=by obtain⟨k,b,rfl⟩:=dF.1 c;obtain⟨i,f,rfl⟩:=List.mem_iff_getElem.1 b;rw[(aVd hc hr (rr.lt _ b)).1]at a;obtain⟨m,d,e⟩:=dF.1 (rr.par i f y a);exact dF.2 ⟨m,C8 d,e⟩
def aRt{a z:O3}(r1:RRow g a)(v:RRow g z){U:O6}(u:∀x,x∈U↔x∈rid g z/\x∉rid g a)(H:U.Nodup){n m:PGM}(N:n=AM cs (aIX g a))(M:m=AM cs (aIX g z)){O:List OpM}(K:O=(aIW m U).map λx=>(m.nd x).o):
 ∃R,RRow g R/\rid g R=rid g a++aIW (AM cs g.L) U/\AM cs (aIX g R)=aKJ n O/\(∀i,(aKJ n (O.take i)).ok)/\(∀o∈O,o.ok)/\O.length=U.length/\∀i(h:i<O.length),(sR (aKJ n (O.take i)) O[i]).2=0:=by
 have A:∀x∈U,x∈g.I:=λx b=>aWn hc hr v ((u x).1 b).1;have C:=mE (AM cs g.L) U;have r:∀x∈aIW (AM cs g.L) U,x∈g.I:=λx b=>A x (C.mem_iff.1 b);obtain⟨_,_,F,D,_⟩:=aQh hc hr v;have c:∀x∈U,Same (AM cs g.L) m x:=λx b=>by rw[M];exact D x (by rw[F];exact((u x).1 b).1)
 have j:=aWo hc hr r1 A H (λx b=>((u x).1 b).2) (λx b y G=>by
  have w:=aSV hc hr v ((u x).1 b).1 G;by_cases h2:y∈rid g a;exact .inl h2
  exact .inr ((u y).2 ⟨w,h2⟩))
 have f:O=aIX g (aOs g (aIW (AM cs g.L) U)):=by rw[K,aWm hc hr r,<-aV8 (p:=AM cs g.L) (q:=m) c];exact LD λx b=>(c x (C.mem_iff.1 b)).o.symm
 have s:O.length=(aOs g (aIW (AM cs g.L) U)).length:=by rw[f];simp[aIX]
 have d:∀i,aKJ n (O.take i)=AM cs (aIX g ((a++aOs g (aIW (AM cs g.L) U)).take (a.length+i))):=λi=>by
  have e:(a++aOs g (aIW (AM cs g.L) U)).take (a.length+i)=a++(aOs g (aIW (AM cs g.L) U)).take i:=by rw[List.take_append,sG (l:=a) o_,Nat.add_sub_cancel_left]
  rw[N,aUf,f,e];simp only[aIX,bZ,QN]
 obtain⟨_,E,_,_,P⟩:=aQh hc hr j;refine⟨_,j,?_,?_,λi=>by rw[d];exact E _,?_,?_,?_⟩;have h:=aTx hc hr r;unfold rid at h⊢;rw[bZ,h];have:=d O.length;rw[dE]at this;rw[this,sG oc];intro o B;rw[f]at B;obtain⟨k,J,rfl⟩:=dF.1 B;have t:=j.lt k (List.mem_append_right _ J);rw[show g.L.getD k default=g.L[k] by simp[rH,t]];exact((rok hc hr).2.1 _ (eQ t)).1;rw[s];simp only[aOs,aP];exact aDM _ _;intro i h;have w:a.length+i<(a++aOs g (aIW (AM cs g.L) U)).length:=oc;have h2:=P _ w;rw[d];have e:g.L.getD (a++aOs g (aIW (AM cs g.L) U))[a.length+i] default=O[i]:=by rw[List.getElem_append_right o_];simp only[Nat.add_sub_cancel_left,f,aIX,zL]
 rw[e]at h2;exact h2
end
end Hud
namespace Hud
set_option maxRecDepth 99999
open Go
def aQL:=eVf (cF aLU [(5,some 2,35)])
def aP3:=eVf (cF aOp [(42,none,1000),(53,none,1000)])
def aOK:=eVf (cF aNI [(49,none,1000),(52,none,1000),(55,none,1000)])
end Hud
namespace Hud
open Go
variable{G:L_}
def aVe(t:GK G)(p:PGM)(O:List OpM)(x:∀i,(aKJ p (O.take i)).ok)(y:∀o∈O,o.ok)(D:O.length<=1000)(hA:∀i(h:i<O.length),(sR (aKJ p (O.take i)) O[i]).2=0):
 aA PQ G aNh [.ptr 0 0,.ls 27 (O.map OpM.A)] (TG 0 p) λr T=>r=iv O.length/\(T=TG 0 (aKJ p O)/\aKJ p O=p\/T=TH (aKJ p O)):=by
 apply aC aQ9;simp only[go_sem,TG,MG];apply cO (λn s=>∃i:Nat,n=O.length-i/\i<=O.length/\∃T,s=⟨3,[(0,.ptr 0 0),(5,iv i),(8,.ls 27 (O.map OpM.A)),(9,iv O.length),(10,iv i)],T⟩/\(T=TG 0 (aKJ p (O.take i))/\aKJ p (O.take i)=p\/T=TH (aKJ p (O.take i)))) O.length ⟨0,rfl,o_,TG 0 p,by simp only[go_sem,TG,MG,aP],.inl ⟨rfl,rfl⟩⟩;rintro n s ⟨i,C,z,T,rfl,a⟩;rcases eD i O.length with b|b;have g:=fQ i o_;have u:(O.map OpM.A)[i]?=some O[i].A:=aO _ O i b;have e:=y _ (eQ b);have m:=hA i b;have v:aKJ p (O.take (i+1))=(sR (aKJ p (O.take i)) O[i]).1:=by rw[lq8 b,aUe]
 have d:=x i;have k:O.length-(i+1)<n:=o_;generalize c:aKJ p (O.take (i+1))=q at *
 generalize w:aKJ p (O.take i)=j at *
 generalize O[i]=o at *
 rcases a with⟨rfl,l⟩|rfl;simp only[go_sem,TG,MG,aP,aT b,u];apply aG (T2:=TG 0 j) [0,1,2] (aB _) s_ k_ rfl u_ (aIe t j o d e);rintro r B ⟨rfl,a⟩;rw[<-v]at a;rw[m];rcases a with⟨rfl,f⟩|rfl;simp only[go_sem,TG,MG,g];exact⟨_,k,i+1,rfl,o_,TG 0 q,rfl,.inl ⟨by rw[c];rfl,c.trans (f.trans l)⟩⟩;simp only[go_sem,TG,TH,MG,g];exact⟨_,k,i+1,rfl,o_,TH q,rfl,.inr (by rw[c];rfl)⟩;simp only[go_sem,TH,MG,aP,aT b,u];apply aG (T2:=TG 0 j) [0,1,3] (aB _) s_ k_ rfl u_ (aIe t j o d e);rintro r B ⟨rfl,a⟩;rw[<-v]at a;rw[m];rcases a with⟨rfl,f⟩|rfl;simp only[go_sem,TG,TH,MG,g];exact⟨_,k,i+1,rfl,o_,TH q,rfl,.inr (by rw[c];rfl)⟩;simp only[go_sem,TG,TH,MG,g];exact⟨_,k,i+1,rfl,o_,TH q,rfl,.inr (by rw[c];rfl)⟩;obtain rfl:i=O.length:=o_;rw[dE]at a;rcases a with⟨rfl,l⟩|rfl;simp only[go_sem,TG,MG,aP,aS (bP _),true_and,l,true_or];simp only[go_sem,TH,MG,aP,aS (bP _),true_and,or_true]
def aQM (J:GK G) {cs:List CardM} (f:cardsOk cs) {g:GM} (k:Reach cs g) (S:O6) (P:S.length<=1000) (t:∀x∈S,∀y∈((AM cs g.L).nd x).o.Past,y∈S):
 aA PQ G aLU [.ag g.A,ids S] [] λr T=>r=.ptr 0 0/\T=TG 0 (AM cs (aIX g (aKU g S g.L.length))):=by
 apply aC aQL;have w:=k.good f;have F:=w.ok;have b:=w.cards;have O:=F.n;obtain⟨C,c,hI,_,_⟩:=rok f k;have rr:=aPe f k t;obtain⟨_,B,_,_,N⟩:=aQh f k rr;have e:=aKl (G:=G) g.Cards (b ▸ f);rw[b]at e;simp only[go_sem,b];apply aBF e;simp only[go_sem,MG,uP,Mk,gQ];refine aQ g.L.length (λi=>⟨0,[(1,ids S),(2,.ptr 0 0),(5,.ptr 1 0),(6,iv i)],some (.box g.A)::TG 1 (AM cs (aIX g (aKU g S i)))⟩) (λ_=>True) ?_ trivial ?_ ?_;simp only[go_sem,TG,MG,aKU,Mk,List.filter_nil,aIX,AM,Kk,PGM.I,uP,gQ];intro i a _;have s:=fQ i o_;have q:(g.L.map OpM.A)[i]?=some g.L[i].A:=aO _ g.L i a;have h:g.L.getD i default=g.L[i]:=by simp[rH,a]
 have m:(g.I.map Id.A)[i]?=some (C7 g.L[i]).A:=by rw[hI];simp[a]
 have D:=(c _ (eQ a)).1;have l:=uJ (G:=G) S (C7 g.L[i]) g_;by_cases d:C7 g.L[i]∈S;obtain⟨j,E,M,z⟩:=aSU a (h ▸ d);have u:=N j E;have v:=B j;have K:AM cs (aIX g (aKU g S (i+1)))=(sR (AM cs (aIX g (aKU g S i))) g.L[i]).1:=by rw[aTz (h ▸ d)];unfold aIX;rw[bZ,fG,uP,MS,h]
 rw[z,M,h]at u;rw[z]at v;rw[decide_eq_true d]at l;rw[K];generalize AM cs (aIX g (aKU g S i))=p at *
 generalize g.L[i]=o at *
 simp only[go_sem,TG,MG,aP,aT a,m,q];apply cX l;simp only[go_sem,TG,MG,aP,m,q];apply aG (T2:=TG 0 p) [1,2,3] (aB _) s_ k_ rfl u_ (aIe J p o v D);rintro r R ⟨rfl,H⟩;rw[u];rcases H with⟨rfl,Q⟩|rfl;simp only[go_sem,TG,MG,s];simp only[go_sem,TG,TH,MG,s];rw[decide_eq_false d]at l;rw[aVc (h ▸ d)];simp only[go_sem,TG,MG,aP,aT a,m,q];apply cX l;simp only[go_sem,TG,MG,aP,m,q,s];intro _;simp only[go_sem,TG,MG,aP,aS (bP _)]
section
attribute [local irreducible] nG
def hA(c b a:Nat):List Fq:=[eW,Fin.ofNat PP 3,Fin.ofNat PP c,Fin.ofNat PP b,Fin.ofNat PP a,0]
def aUg(n:Nat):1+n%1152921504606846976<PP:=S_
def aO9(n:Int):Nat:=(n%2^64).toNat
def aRP(n:Int):aO9 n<2^64:=by unfold aO9;omega
def aUh(n:Int):IntKind.u64.wrap n=((aO9 n:Nat):Int):=by grind[IntKind.wrap,IntKind.bits,IntKind.signed,aO9]
def aSn(a b c:Int):Fq:=⟨1+(aTq [aO9 a,aO9 b,aO9 c]).val%1152921504606846976,aUg _⟩
def aVf(a b c:Int):1<=(aSn a b c).val/\(aSn a b c).val<=1152921504606846976:=by have:(aSn a b c).val=1+(aTq [aO9 a,aO9 b,aO9 c]).val%1152921504606846976:=rfl;omega
def aUi(x:Nat)(h:1+x<2^64):bV .add (.int .u64 1) (.int .u64 (x:Int))=some (.int .u64 ((1+x:Nat):Int)):=eY 1 x h
def aXu(a b c:Int)(h:0<=c/\c<2^64):aA PQ G aOg [.ag [iv a,iv b,.v (.int .u64 c)]] [] λr g=>r=.v (fu (aSn a b c))/\g=[]:=by
 apply aC aPH;have d:(c:Int)=((aO9 c:Nat):Int):=by unfold aO9;omega
 rw[d];have e:=aUi ((aTq [aO9 a,aO9 b,aO9 (aO9 c:Nat)]).val%1152921504606846976) o_;have f:aO9 ((aO9 c:Nat):Int)=aO9 c:=by rw[<-d]
 simp only[go_sem,aUh];apply iJ (aB _) rfl rfl (aZB (aO9 a) (aO9 b) (aO9 c) (aRP _) (aRP _) (aRP _));rw[f]at e;simp only[go_sem,↓aSQ,↓e];rw[<-d];rfl
end
def aYi(a b:Fq):a+b=b+a:=m_
def aTA:∀p q:List Fq,pa p q=pa q p|[],[]=>rfl|[],_::_=>rfl|_::_,[]=>rfl|c::p,d::q=>by simp only[pa,aTA p q];rw[aYi c d]
def aSW:∀(a b:List Fq),b.length<=a.length->a.mapIdx (λi x=>if i<b.length then x+b.getD i 0 else x)=pa a b
 |[],[],_=>rfl|[],_::_,h=>by simp at h|c::p,[],_=>by
  simp only[pa,gQ,Nat.not_lt_zero,if_false];exact aRo _
 |c::p,d::q,h=>by simp only[pa,List.mapIdx_cons];have:=aSW p q n_;rw[<-this];simp
def aRQ(a b:List Fq):List Fq:=aI (pa a b)
def aTB(t:Fq)(a b:List Fq):ev (aRQ a b) t=ev a t+ev b t:=by rw[aRQ,aH3,aK5]
def aVg(a:List Fq)(h:a≠[]):a.mapIdx (λ_ x=>x*inv (aPz a))=aRC a:=by rw[aRC,if_neg h,ps];generalize inv (aPz a)=v;apply EW λj=>?_;simp only[List.getElem?_mapIdx,gE];congr 1;funext x;exact aH1 _ _
def aUj(i:Nat)(x v:Fq):aA PQ G aMj [iv i,.v (fu x),.ptr 0 0] [some (.box [.v (fu v)])] λr a=>r=.v (fu (x*v))/\a=[some (.box [.v (fu v)])]:=by refine aC aPA ?_;simp only[go_sem];apply cX (Ud x v);simp only[go_sem]
def aTC(l:List Fq)(g:l.length<=1000000000):aA PQ G aNi [.ls 1 (fl l)] [] λr b=>r=.ls 1 (fl (aRC l))/\b=[]:=by
 refine aA.fin (p:=λr b=>r=.own 0/\b=[some (.arr 1 (fl (aRC l)))]) (aC aQd ?_) [0] ?_
 cases e:l with
 |nil=>simp only[go_sem,fl,aRC]|cons c r=>
  rw[<-e];have a:l≠[]:=by rw[e];simp
  have k:0<l.length:=H3.2 a;have h:((l.length:Int)==0)=false:=f_;have f:IntKind.i64.wrap ((l.length:Int)-1)=((l.length-1:Nat):Int):=d_;have j:=aI0 l (l.length-1) o_;have d:aPz l=l[l.length-1]:=by rw[aPz,rH,jN o_];rfl
  simp only[go_sem,aP,h,f,j];apply cX (aTp _);simp only[go_sem];apply aLS (aB _) rfl rfl rfl (aRJ aMj (.v (fu (inv l[l.length-1]))) rfl (λ_ x=>x*inv l[l.length-1]) l g λi x _=>aUj i x _);rintro r b ⟨rfl,rfl⟩;have:=aVg l a;rw[d]at this;simp only[go_sem,this]
 rintro r b ⟨rfl,rfl⟩;simp only[go_sem]
def aTD(b:List Fq)(f:b.length<=1000000000)(i:Nat)(x:Fq):aA PQ G aMa [iv i,.v (fu x),.ptr 0 0] [some (.box [.ls 1 (fl b)])] λr e=>r=.v (fu (if i<b.length then x+b.getD i 0 else x))/\e=[some (.box [.ls 1 (fl b)])]:=by
 apply aC aQg;by_cases a:i<b.length;have d:=aI0 b i a;have c:b.getD i 0=b[i]:=by rw[rH,jN a];rfl
 simp only[go_sem,aP,aT a,d];apply cX (aJY x b[i]);simp only[go_sem,if_pos a,c];simp only[go_sem,aP,aS a];apply cX (aJX x);simp only[go_sem,if_neg a]
def aXv(a b:List Fq)(e:a.length<=1000000000)(d:b.length<=1000000000):aA PQ G aNL [.ls 1 (fl a),.ls 1 (fl b)] [] λr c=>r=vw0 (aI (pa a b)).length (pa a b).length/\c=[some (.arr 1 (fl (pa a b)))]:=by refine aC aR9 ?_;by_cases h:a.length<b.length;simp only[go_sem,aP,aT h];apply aLS (aB _) rfl rfl rfl (aRJ aMa (.ls 1 (fl a)) rfl _ b d λi x _=>aTD a e i x);rintro r c ⟨rfl,rfl⟩;rw[aSW b a o_,aTA b a];simp only[go_sem];apply aG [1] (aB _) s_ k_ rfl rfl (aPP (pa a b) (by rw[aJu];omega));rintro r c ⟨rfl,rfl⟩;simp only[go_sem,vw0];split<;>simp only[go_sem];simp only[go_sem,aP,aS h];apply aLS (aB _) rfl rfl rfl (aRJ aMa (.ls 1 (fl b)) rfl _ a e λi x _=>aTD b d i x);rintro r c ⟨rfl,rfl⟩;rw[aSW a b o_];simp only[go_sem];apply aG [1] (aB _) s_ k_ rfl rfl (aPP (pa a b) (by rw[aJu];omega));rintro r c ⟨rfl,rfl⟩;simp only[go_sem,vw0];split<;>simp only[go_sem]
def aVh(a b:List Fq)(d:a.length<=1000000000)(c:b.length<=1000000000):aA PQ G aNL [.ls 1 (fl a),.ls 1 (fl b)] [] λr e=>r=.ls 1 (fl (aRQ a b))/\e=[]:=aTt (aXv a b d c)
end Hud
