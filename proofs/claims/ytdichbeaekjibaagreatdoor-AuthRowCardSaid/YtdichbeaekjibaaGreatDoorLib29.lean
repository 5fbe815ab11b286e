import Derived.Test.YtdichbeaekjibaaGreatDoorLib28
set_option linter.all false
set_option maxHeartbeats 40000000
namespace Hud
open Go
def LA{g:PGM}{V W:D_}(h:∀x,x∈V↔x∈W)(row:D_):mW g V row=mW g W row:=by unfold mW;congr 1;grind[iS]
def BR{V:D_}{x y:Id}:x∈AQ V y↔x∈V\/x=y:=by grind[AQ]
def PK{V W:D_}(h:∀x,x∈V↔x∈W)(y:Id):∀x,x∈AQ V y↔x∈AQ W y:=λx=>by rw[BR,BR,h]
def Fs{p:Id->Bool}:∀(row V W:D_),(∀x,x∈V↔x∈W)->∀x,x∈row.foldl (λV y=>if p y=true then AQ V y else V) V↔x∈row.foldl (λV y=>if p y=true then AQ V y else V) W|[],_,_,h=>h|y::row,V,W,h=>by rw[CW,CW];apply Fs row _ _;split;exact PK h y;exact h
def Ft{g:PGM}{row:D_}{S:List (Int×Int)}:∀(n:Nat)(V W left:D_),(∀x,x∈V↔x∈W)->∀x,x∈uL g row S n V left↔x∈uL g row S n W left
 |0,_,_,_,h=>h
 | n+1,V,W,left,h=>by
  have a:left.filter (λx=>!decide (x∈V))=left.filter λx=>!decide (x∈W):=List.filter_congr λx _=>by simp only[h]
  rw[uL,uL,a,LA h];dsimp only;split;exact h;split;exact Ft n _ _ _ (Fs (p:=λy=>lA g _ y||(decide (y∈_)&&B7 g row _ y)) row V W h);exact Ft n _ _ _ (PK h _)
def Xw{g:PGM}{row V W:D_}(h:∀x,x∈V↔x∈W):∀x,x∈sU g row V↔x∈sU g row W:=Ft _ _ _ _ h
def zH(l:D_):D_:=l.filter (B8 l)
def kW(g:PGM)(l:D_):D_:=mW g (sU g (eO g l) (zH l)) (eO g l)
def Rc{l V:D_}(h:∀x,x∈V↔x∈l/\B8 l x=true):∀x,x∈V↔x∈zH l:=λx=>by rw[h,zH,gR]
def PL{g:PGM}{l V:D_}(h:∀x,x∈V↔x∈l/\B8 l x=true):mW g (sU g (eO g l) V) (eO g l)=kW g l:=LA (Xw (Rc h)) _
def aGq{g:PGM}{l V:D_}(h:∀x,x∈V↔x∈l/\B8 l x=true)(x:Id):Gk g l V x=Gk g l (zH l) x:=by unfold Gk;rw[PL h];have h1:mW g (sU g (eO g l) (zH l)) (eO g l)=kW g l:=rfl;rw[h1];simp only[Rc h]
section
variable{G:L_}{T:aK}{p:Nat×Nat×Nat}{g:PGM}
def Vj(j:AK G)(h:GAt T p g)(f:GGood g){l:D_}(c:∀x∈l,x∈g.I)(e:l.Nodup):
 aA PQ G pN [.ptr p.1 0,ids l] T λr a=>r=ids (kW g l)/\a=T :=
 (aEN j (aEP G) h f c e).mono λr a ⟨⟨V,i,d⟩,b⟩=>⟨by rw[d,PL i],b⟩
def aHg(j:AK G)(h:GAt T p g)(f:GGood g){l:D_}(c:∀x∈l,x∈g.I)(e:l.Nodup)(x:Id):
 aA PQ G wB [.ptr p.1 0,ids l,.ag x.A] T λr a=>r=iv (Gk g l (zH l) x)/\a=T :=
 (aKN j (aEP G) h f c e x).mono λr a ⟨⟨V,i,d⟩,b⟩=>⟨by rw[d,aGq i],b⟩
end

def bfM(g:GM)(x y:Id):Bool:=decide (x∈g.I)&&(decide (y∈g.I)&&(g.In.getD (aW g.I y).toNat []).getD (aW g.I x).toNat false)
def aLM{p:PGM}{g:GM}(s:Sim p g)(d:g.L.length<=200)(x y:Id):oH p x y=bfM g x y:=by
 have h:p.I.length=g.L.length:=by rw[PGM.I,<-s.l,aP,aP]
 by_cases mx:x∈p.I;by_cases a:y∈p.I;obtain⟨j,c,f,_⟩:=dG mx;obtain⟨k,b,e,_⟩:=dG a;rw[aK2 s d c b o_ o_ mx a];rw[s.i]at mx a c b;unfold bfM aW qX inG;simp[mx,a,c,b];unfold oH bfM;rw[<-s.i];simp[a];unfold oH bfM;rw[<-s.i];simp[mx]
def RU.trans{a:List V_}{up:V_}{i k:Nat}(h:RU a up i)(h2:RU a (a.getD i []) k):RU a up k:=by
 induction h2 with
 |base h2=>exact .step h h2|step _ h3 ih=>exact .step ih h3
section
variable{g:GM}
def aBF(b:g.I.length=g.L.length){x:Id}(a:x∈g.I):(aW g.I x).toNat<g.L.length:=by have h1:=(Cz g.I x).2 a;have h2:=(AZ g.I x).1;omega
def aJ7(w:g.wf){x y z:Id}(h1:bfM g x y=true)(h2:bfM g y z=true):bfM g x z=true:=by
 unfold bfM at *
 simp only[zJ,decide_eq_true_eq]at *
 refine⟨h1.1,h2.2.1,?_⟩;have a:=(w.past _ (aBF w.i h1.2.1) _).1 h1.2.2;have b:=(w.past _ (aBF w.i h2.2.1) _).1 h2.2.2;exact(w.past _ (aBF w.i h2.2.1) _).2 (b.trans a)
def aJa(a:g.I.Nodup){i:Nat}(h:i<g.I.length):aW g.I g.I[i]=i:=by obtain⟨j,e,b,_,h2⟩:=dG (eQ h);have:j=i:=(C9 a).1 h2;unfold aW qX;rw[e,this]
def aE4{x:Id}(b:x∈g.I):g.I.getD (aW g.I x).toNat default=x:=by obtain⟨j,e,a,_,h2⟩:=dG b;unfold aW qX;rw[e];simp[rH,a,h2]
def aEQ{I:D_}{y:Id}:∀(l out:D_),y∈l.foldl (vL I) out↔y∈out\/(y∈l/\y∈I)|[],out=>by simp|z::l,out=>by rw[CW,aEQ l];unfold vL;split;rename_i a;simp only[zJ,decide_eq_true_eq]at a;have:=(Cz I z).1 a.1;grind;rename_i a;simp only[zJ,decide_eq_true_eq,EX,decide_eq_false_iff_not]at a;have:=Cz I z;grind
def aJb(d:g.I.length=g.L.length)(c:g.I.Nodup){l:D_}{y:Id}:y∈Fd g l↔(y∈l/\y∈g.I)\/∃x∈l,bfM g y x=true:=by
 unfold Fd rV;rw[(dQ _).mem_iff,aEQ,(dQ _).mem_iff,or_comm];apply or_congr .rfl;unfold Le B3 bfM;simp only[dF,gR,uM,CX,zJ,decide_eq_true_eq,Cz];constructor;rintro⟨i,⟨h1,x,a,h2,h3⟩,rfl⟩;have b:i<g.I.length:=o_;have e:g.I.getD i default=g.I[i]:=by simp[rH,b]
 rw[e,aJa c b];exact⟨x,a,eQ b,h2,h3⟩;rintro⟨x,a,h1,h2,h3⟩;exact⟨_,⟨aBF d h1,x,a,h2,h3⟩,aE4 h1⟩
def aFd(w:g.wf)(c:g.I.Nodup){l:D_}{y z:Id}(a:y∈Fd g l)(h:bfM g z y=true):z∈Fd g l:=by
 rw[aJb w.i c]at *
 rcases a with⟨h1,_⟩|⟨x,b,h1⟩
 exact .inr ⟨y,h1,h⟩;exact .inr ⟨x,b,aJ7 w h h1⟩
def aE5(w:g.wf)(b:g.I.Nodup){m:B_}{y z:Id}(a:y∈qI g m)(h:bfM g z y=true):z∈qI g m:=by
 unfold qI at *
 split at a;rename_i c;rw[if_pos c,(dQ _).mem_iff];unfold bfM at h;simp only[zJ,decide_eq_true_eq]at h;exact h.1;rename_i c;rw[if_neg c];exact aFd w b a h
end
structure PGM.wf(g:PGM):Prop where
 nd:g.I.Nodup
 back:∀x∈g.I,∀k,qK (g.nd x).W k=true->k<g.at x
def aBA{g:PGM}{x:Id}(h:x∈g.I):g.at x<g.nodes.length/\g.I[g.at x]?=some x:=by
 obtain⟨j,e,a,_,h2⟩:=dG h;have b:g.at x=j:=by unfold PGM.at;rw[e];rfl
 rw[b];refine⟨by simpa[PGM.I]using a,?_⟩;rw[jN a,h2]
def aLN{g:PGM}{x y:Id}(d:x∈g.I)(c:y∈g.I)(h:g.at x=g.at y):x=y:=by have a:=(aBA d).2;have b:=(aBA c).2;rw[h,b]at a;exact(Option.some.inj a).symm
def aH3{g:PGM}(w:g.wf){k:Nat}(h:k<g.nodes.length):∃y∈g.I,g.at y=k/\g.nd y=g.nodes.getD k XD:=by
 have c:k<g.I.length:=by simpa[PGM.I]using h
 have m:=eQ c;have a:=(aBA m).2;have e:g.at g.I[k]=k:=by
  have b:g.at g.I[k]<g.I.length:=by have:=(aBA m).1;simpa[PGM.I]using this
  rw[jN b]at a;exact(C9 w.nd).1 (Option.some.inj a)
 exact⟨_,m,e,by unfold PGM.nd;rw[e]⟩
def aBD{g:PGM}{x y:Id}(b:x∈g.I)(a:y∈g.I):oH g x y=qK (g.nd y).W (g.at x):=by unfold oH;simp[b,a]
def aJc{W V:V_}(a:Hu W)(b:Hu V)(k:Nat):qK (Cu W V) k=(qK W k&&qK V k):=by unfold qK;rw[aB2 W V (by rw[a.1,b.1]),Nat.testBit_and]
def aK6(a:List ND)(o:OpM)(W:V_)(n j:Nat)(b:j<n)(h1:(a.getD j XD).o.By=o.By)(h2:qK W j=true):(a.getD j XD).o.Seq<=(BY a o W n).1:=by
 induction n with
 |zero=>omega|succ n ih=>
  unfold BY;grind
def aJd(a:List ND)(o:OpM)(W:V_)(n:Nat):0<=(BY a o W n).1:=by
 induction n with
 |zero=>simp[BY]|succ n ih=>unfold BY;grind
def aK7(a:List ND)(o:OpM)(W:V_)(n:Nat)(h:(BY a o W n).2=true):∃j,j<n/\(a.getD j XD).o.By=o.By/\qK W j=true/\(a.getD j XD).o.Seq=o.Seq-1:=by
 induction n with
 |zero=>simp[BY]at h|succ n ih=>
  unfold BY at h;grind
def anc(g:PGM)(o:OpM)(y:Id):Bool:=o.Past.any λx=>decide (y=x)||oH g y x
def aC1{g:PGM}(c:g.ok){o:OpM}(b:∀x∈o.Past,x∈g.I){y:Id}(d:y∈g.I):qK (BF g o) (g.at y)=anc g o y:=by have e:=c.n;rw[BF,ZM (JC c _) (JB g _),CT,Ec,aDY c,aDX g c.n o.Past λx a=>by have:=(aBA (b x a)).1;omega];unfold anc;rw[CX];constructor;rintro(⟨x,a,h⟩|⟨x,a,h⟩);exact⟨x,a,by simp[aBD d (b x a),h]⟩;exact⟨x,a,by simp[aLN (b x a) d h]⟩;rintro⟨x,a,h⟩;rcases Ec _ _ ▸ h with h|h;exact .inr ⟨x,a,by rw[of_decide_eq_true h]⟩;exact .inl ⟨x,a,by rw[<-aBD d (b x a)];exact h⟩
structure Took(g:PGM)(o:OpM):Prop where
 check:vF o=0
 new:C7 o∉g.I
 full:g.nodes.length<200
 card:(gM g.cards o.By).2=true
 sig:((o.By==(gM g.cards o.By).1.Device)&&BW (gM g.cards o.By).1.Sign o.B o.SR o.SS)=true
 kind:o.Kind=1->g.nodes=[]
 there:∀x∈o.Past,x∈g.I
 order:∀x∈o.Past,∀y∈o.Past,oH g y x=false
 late:G0 g o.Past<=o.At
 seq:∀y∈g.I,anc g o y=true->(g.nd y).o.By=o.By->(g.nd y).o.Seq<o.Seq
 pos:0<o.Seq
 pre:1<o.Seq->∃y∈g.I,anc g o y=true/\(g.nd y).o.By=o.By/\(g.nd y).o.Seq=o.Seq-1
def aEV{g:PGM}(d:g.ok)(w:g.wf){o:OpM}(h:(sR g o).2=0):Took g o/\(sR g o).1=⟨g.cards,g.nodes++[⟨o,C7 o,BF g o,Fa g o.Past⟩]⟩:=by
 unfold sR at h⊢;by_cases c1:vF o=0;rotate_left;rw[if_pos c1]at h;exact absurd h c1;rw[if_neg (by simp[c1])]at h⊢;unfold Oa at h⊢;split at h;exact absurd h k_;rename_i c2;split at h;exact absurd h k_;rename_i c3;split at h;exact absurd h k_;rename_i c4;split at h;exact absurd h k_;rename_i c5;split at h;exact absurd h k_;rename_i c6;split at h;exact absurd h k_;rename_i t;rw[if_neg c2,if_neg c3,if_neg c4,if_neg c5,if_neg c6,if_neg t];unfold Q8 at h⊢;split at h;exact absurd h k_;rename_i l;split at h;exact absurd h k_;rename_i i;rw[if_neg l,if_neg i];refine⟨?_,rfl⟩;have u:=d.n;have c:∀x∈o.Past,x∈g.I:=λx b=>by have e:CQ g o=[]:=Ae o_;unfold CQ at e;have:=List.filter_eq_nil_iff.1 e x b;simpa using this
 have k:∀x∈o.Past,g.at x<256:=λx b=>by have:=(aBA (c x b)).1;omega
 simp only[EX,Bool.not_eq_false,zJ,beq_iff_eq,decide_eq_false_iff_not]at l;unfold MQ at i;simp only[Ec,zJ,decide_eq_true_eq,EX,not_or,not_and,Bool.not_eq_false]at i;have m:=aJd g.nodes o (BF g o) g.nodes.length;refine⟨c1,c2,o_,by simpa using c4,by simpa using c5,?_,c,?_,o_,?_,o_,?_⟩;intro q;apply Ae;rw[q]at c6;simp at c6;simp[c6];intro x b y a
 cases f:oH g y x with
 |false=>rfl|true=>
  rw[aBD (c y a) (c x b)]at f;have h1:=(aDY d o.Past (g.at y)).2 ⟨x,b,f⟩;have h2:=(aDX g d.n o.Past k (g.at y)).2 ⟨y,a,rfl⟩;have h3:=aJc (JB g o.Past) (JC d o.Past) (g.at y);rw[l.1,ZN,h1,h2]at h3;exact absurd h3 d_
 intro y a s f;have:=aK6 g.nodes o (BF g o) g.nodes.length (g.at y) (aBA a).1 f (by rw[aC1 d c a];exact s);have e:(g.nd y).o.Seq=(g.nodes.getD (g.at y) XD).o.Seq:=rfl;omega;intro p;obtain⟨j,r,h1,h2,h3⟩:=aK7 _ _ _ _ (i.2 p);obtain⟨y,a,rfl,e⟩:=aH3 w r;rw[aC1 d c a]at h2;rw[<-e]at h1 h3;exact⟨y,a,h2,h1,h3⟩
def aGd{g:PGM}(h:g.ok)(w:g.wf){o:OpM}(t:Took g o):(sR g o).2=0:=by
 have A:=h.n;have l:∀x∈o.Past,g.at x<256:=λx f=>by have:=(aBA (t.there x f)).1;omega
 have p:CQ g o=[]:=List.filter_eq_nil_iff.2 λx f=>by simp[t.there x f]
 have m:Cu (Hg g o.Past) (Hh g o.Past)=z4:=by
  refine aB3 (JB g _) (JC h _) λk _ h1=>?_;obtain⟨y,d,rfl⟩:=(aDX g h.n o.Past l k).1 h1
  cases v:qK (Hh g o.Past) (g.at y) with
  |false=>rfl|true=>
   obtain⟨x,f,h2⟩:=(aDY h o.Past _).1 v;have:=t.order x f y d;rw[aBD (t.there y d) (t.there x f),h2]at this;exact absurd this d_
 have r:(BY g.nodes o (BF g o) g.nodes.length).1<o.Seq:=by have z:=t.pos;refine aG0 _ _ _ _ o_ λj u h1 h2=>?_;obtain⟨y,d,rfl,e⟩:=aH3 w u;rw[aC1 h t.there d]at h2;rw[<-e]at h1⊢;exact t.seq y d h2 h1
 have i:MQ g o=false:=by unfold MQ;rw[decide_eq_false o_,EH];by_cases h1:1<o.Seq;obtain⟨y,d,a,b,c⟩:=t.pre h1;rw[XR g.nodes o (BF g o) g.nodes.length (g.at y) (aBA d).1 b (by rw[aC1 h t.there d];exact a) c];simp;simp[h1]
 have q:((o.Kind==1)&&decide (0<g.nodes.length))=false:=by
  cases s:o.Kind==1 with
  |false=>rfl|true=>simp[t.kind (by simpa using s)]
 have:=t.full;have:=t.late;rw[sR,if_neg (by simp[t.check]),Oa,if_neg t.new,if_neg o_,if_neg (by rw[t.card];decide),if_neg (by rw[t.sig];decide),if_neg (by rw[q];decide),if_neg (by rw[p];decide),Q8,if_neg (by rw[m,decide_eq_false o_];decide),if_neg (by rw[i];decide)]
structure Same(p q:PGM)(x:Id):Prop where
 l:x∈p.I
 r:x∈q.I
 o:(p.nd x).o=(q.nd x).o
 lv:(p.nd x).lv=(q.nd x).lv
 b:∀y,oH p y x=oH q y x
def Same.symm{p q:PGM}{x:Id}(h:Same p q x):Same q p x:=⟨h.r,h.l,h.o.symm,h.lv.symm,λy=>(h.b y).symm⟩
def Same.trans{p q r:PGM}{x:Id}(h:Same p q x)(k:Same q r x):Same p r x:=⟨h.l,k.r,h.o.trans k.o,h.lv.trans k.lv,λy=>(h.b y).trans (k.b y)⟩
def aK8{g:PGM}{x y:Id}(h:oH g x y=true):x∈g.I/\y∈g.I:=by unfold oH at h;simp only[zJ,decide_eq_true_eq]at h;exact⟨h.1,h.2.1⟩
def aDy{p q:PGM}{o:OpM}(c:∀x∈o.Past,Same p q x)(y:Id):anc p o y=anc q o y:=by unfold anc;rw[CT,CX,CX];refine exists_congr λx=>and_congr_right λa=>?_;rw[(c x a).b y]
def aF0{g:PGM}{o:OpM}(b:∀x∈o.Past,x∈g.I){y:Id}(h:anc g o y=true):y∈g.I:=by unfold anc at h;obtain⟨x,a,h⟩:=CX.1 h;rcases Ec _ _ ▸ h with h|h;rw[of_decide_eq_true h];exact b x a;exact(aK8 h).1
def aIz{p q:PGM}{l:D_}(a:∀x∈l,Same p q x):G0 p l=G0 q l:=by
 unfold G0;generalize(0:Int)=m
 induction l generalizing m with
 |nil=>rfl|cons x l ih=>rw[CW,CW,(a x k_).o,ih λy b=>a y (by simp[b])]
def aJe{p q:PGM}{l:D_}(c:∀x∈l,Same p q x):Fa p l=Fa q l:=by
 have a:∀(l:D_)(m:Int),(∀x∈l,Same p q x)->l.foldl (λm x=>max m ((p.nd x).lv+1)) m=l.foldl (λm x=>max m ((q.nd x).lv+1)) m:=by
  intro l
  induction l with
  |nil=>intro m _;rfl|cons x l ih=>intro m h;rw[CW,CW,(h x k_).lv,ih _ λy b=>h y (by simp[b])]
 exact a l 1 c
def aID{p q:PGM}{o:OpM}(t:Took p o)(i:p.cards=q.cards)(d:∀x∈o.Past,Same p q x)(h2:∀y,anc p o y=true->Same p q y)(k:C7 o∉q.I)(m:q.nodes.length<200)(n:o.Kind=1->q.nodes=[]):Took q o where
 check:=t.check
 new:=k
 full:=m
 card:=i ▸ t.card
 sig:=i ▸ t.sig
 kind:=n
 there:=λx e=>(d x e).r
 order:=λx e y f=>by rw[<-(d x e).b y];exact t.order x e y f
 late:=by rw[<-aIz d];exact t.late
 seq:=λy f g j=>by rw[<-aDy d]at g;have s:=h2 y g;rw[<-s.o]at j⊢;exact t.seq y s.l g j
 pos:=t.pos
 pre:=λh=>by obtain⟨y,f,a,b,c⟩:=t.pre h;have s:=h2 y a;exact⟨y,s.r,by rw[<-aDy d];exact a,by rw[<-s.o];exact b,by rw[<-s.o];exact c⟩
def aFc {g:PGM} (q:g.ok) (w:g.wf) {o:OpM} (t:Took g o) {d:PGM} (e:d=⟨g.cards,g.nodes++[⟨o,C7 o,BF g o,Fa g o.Past⟩]⟩):
 d.wf/\d.I=g.I++[C7 o]/\(∀x∈g.I,Same g d x)/\(d.nd (C7 o)).o=o/\(d.nd (C7 o)).lv=Fa g o.Past/\∀y,oH d y (C7 o)=anc g o y:=by
 have hI:d.I=g.I++[C7 o]:=by subst e;simp[PGM.I]
 have z:g.I.length=g.nodes.length:=by simp[PGM.I]
 have l:d.I.Nodup:=by rw[hI,vQ];refine⟨w.nd,k_,?_⟩;intro a B b r;rw[cA.1 r];rintro rfl;exact t.new B
 have v:∀x∈g.I,d.at x=g.at x:=λx c=>by
  have h1:=aBA c;have h2:=aBA (g:=d) (x:=x) (by rw[hI];simp[c]);have h3:g.at x<g.I.length:=by rw[z];exact h1.1
  have h4:d.at x<d.I.length:=by have:=h2.1;simpa[PGM.I]using this
  have h5:d.I[g.at x]?=some x:=by rw[hI,mY h3];exact h1.2
  have h6:g.at x<d.I.length:=by rw[hI];simp;omega
  rw[jN h6]at h5;have s:=h2.2;rw[jN h4]at s;exact((C9 l).1 ((Option.some.inj h5).trans (Option.some.inj s).symm)).symm
 have u:d.at (C7 o)=g.nodes.length:=by
  have h2:=aBA (g:=d) (x:=C7 o) (by rw[hI];simp);have h4:d.at (C7 o)<d.I.length:=by have:=h2.1;simpa[PGM.I]using this
  have s:=h2.2;rw[jN h4]at s;have h6:g.nodes.length<d.I.length:=by rw[hI];simp[z]
  have h5:d.I[g.nodes.length]=C7 o:=by simp[hI,<-z]
  exact(C9 l).1 ((Option.some.inj s).trans h5.symm)
 have p:∀x∈g.I,d.nd x=g.nd x:=λx c=>by unfold PGM.nd;rw[v x c];subst e;exact Ol _ _ _ _ (aBA c).1
 have m:d.nd (C7 o)=⟨o,C7 o,BF g o,Fa g o.Past⟩:=by unfold PGM.nd;rw[u];subst e;exact D2 _ _ _
 have bk:∀k,qK (BF g o) k=true->k<g.nodes.length:=λk h=>by
  rw[BF,ZM (JC q _) (JB g _),Ec,aDY q,aDX g q.n o.Past λx c=>by have:=(aBA (t.there x c)).1;have:=q.n;omega]at h;rcases h with⟨x,c,h⟩|⟨x,c,rfl⟩
  have:=w.back x (t.there x c) k h;have:=(aBA (t.there x c)).1;omega;exact(aBA (t.there x c)).1
 have f:∀y,y∈d.I↔y∈g.I\/y=C7 o:=λy=>by rw[hI];simp
 refine⟨⟨l,?_⟩,hI,?_,by rw[m],by rw[m],?_⟩;intro x c k h;rcases(f x).1 c with h1|rfl;rw[p x h1]at h;rw[v x h1];exact w.back x h1 k h;rw[m]at h;rw[u];exact bk k h;intro x c;refine⟨c,(f x).2 (.inl c),by rw[p x c],by rw[p x c],λy=>?_⟩;by_cases j:y∈g.I;rw[aBD j c,aBD ((f y).2 (.inl j)) ((f x).2 (.inl c)),p x c,v y j];have A:oH g y x=false:=by unfold oH;simp[j]
 rw[A];by_cases i:y=C7 o;subst i;rw[aBD ((f _).2 (.inr rfl)) ((f x).2 (.inl c)),p x c,u]
 cases r:qK (g.nd x).W g.nodes.length with
 |false=>rfl|true=>
  have:=w.back x c _ r;have:=(aBA c).1;omega
 unfold oH;simp[f,j,i];intro y;by_cases j:y∈g.I;rw[aBD ((f y).2 (.inl j)) ((f _).2 (.inr rfl)),m,v y j,aC1 q t.there j];have A:anc g o y=false:=by
  cases h:anc g o y with
  |false=>rfl|true=>exact absurd (aF0 t.there h) j
 rw[A];by_cases i:y=C7 o;subst i;rw[aBD ((f _).2 (.inr rfl)) ((f _).2 (.inr rfl)),m,u]
 cases r:qK (BF g o) g.nodes.length with
 |false=>rfl|true=>exact absurd (bk _ r) (bP _)
 unfold oH;simp[f,j,i]
section
variable{p q:PGM}
def aKm{x y:Id}(b:Same p q x)(a:Same p q y):P0 p x y=P0 q x y:=by unfold P0 Su;simp[b.l,b.r,a.l,a.r,b.lv,a.lv]
def aGf{l:D_}(a:∀x∈l,Same p q x):eO p l=eO q l:=by refine aBE (g:=p) ((mE p l).trans (mE q l).symm) (U4 p l) ?_;refine(U4 q l).imp_of_mem λc b h=>?_;rw[aKm (a _ ((mE q l).mem_iff.1 b)) (a _ ((mE q l).mem_iff.1 c))];exact h
def aJf{l m:D_}(h:l.Perm m):eO p l=eO p m:=aBE ((mE p l).trans (h.trans (mE p m).symm)) (U4 p l) (U4 p m)
variable(hc:p.cards=q.cards)
include hc
def aES{x y:Id}(c:Same p q x)(a:Same p q y):lA p x y=lA q x y:=by unfold lA;rw[hc,c.o,a.o,c.b,a.b];simp[c.l,c.r,a.l,a.r]
def aET{row:D_}(e:∀z∈row,Same p q z){x y:Id}(d:Same p q x)(c:Same p q y):B7 p row x y=B7 q row x y:=by unfold B7;congr 1;rw[CT,CX,CX];refine exists_congr λz=>and_congr_right λa=>?_;rw[d.b,aES hc c (e z a)]
def aJu{s:D_}(f:∀y∈s,Same p q y){x:Id}(e:Same p q x):Lo p s x=Lo q s x:=by
 unfold Lo;rw[hc,List.filter_congr λy _=>e.b y];have a:∀(l:D_)(r:RM),(∀y∈l,Same p q y)->l.foldl (ZO p) r=l.foldl (ZO q) r:=by
  intro l
  induction l with
  |nil=>intro r _;rfl|cons y l ih=>
   intro r h;rw[CW,CW,ih _ λz c=>h z (.tail _ c),ZO,ZO,(h y (.head _)).o]
 exact a _ _ λy d=>f y (gR.1 d).1
def aEU {V row:D_} (c:∀x∈row,Same p q x):mW p V row=mW q V row:=by
 have b:∀(row out:D_),(∀x∈row,Same p q x)->(∀x∈out,Same p q x)->row.foldl (iS p V) out=row.foldl (iS q V) out:=by
  intro row
  induction row with
  |nil=>intro out _ _;rfl| cons x row ih=>
   intro out h k;have e:iS p V out x=iS q V out x:=by unfold iS;rw[aJu hc k (h x (.head _)),(h x (.head _)).o]
   rw[CW,CW,e];refine ih _ (λz a=>h z (.tail _ a)) λz a=>?_;unfold iS at a;split at a;rcases cG.1 a with a|a;exact k z a;rw[cA.1 a];exact h x (.head _);exact k z a
 exact b row [] c k_
def aH8 {row:D_} (g:∀z∈row,Same p q z) {S:List (Int×Int)} {a:D_} (f:∀x∈a,Same p q x):yY p row S a=yY q row S a:=by
 have c:∀(l:D_)(i:Nat)(b:Int),(∀x∈l,Same p q x)->AP p row S a l i b=AP q row S a l i b:=by
  intro l
  induction l with
  |nil=>intro i b _;rfl| cons x l ih=>
   intro i b h;have e:(a.any λy=>B7 p row x y)=a.any λy=>B7 q row x y:=by rw[CT,CX,CX];exact exists_congr λz=>and_congr_right λd=>by rw[aET hc g (h x (.head _)) (f z d)]
   rw[AP,AP,e,ih _ _ λz d=>h z (.tail _ d)]
 exact c a 0 (-1) f
def aCW {row:D_} (a:∀z∈row,Same p q z) {S:List (Int×Int)}:∀(n:Nat)(V left:D_),(∀x∈left,Same p q x)->uL p row S n V left=uL q row S n V left
 |0,_,_,_=>rfl
 | n+1,V,left,h=>by
  have d:∀x∈left.filter (λx=>!decide (x∈V)),Same p q x:=λx o=>h x (gR.1 o).1;rw[uL,uL];dsimp only;generalize left.filter (λx=>!decide (x∈V))=L at *
  split;rfl;rename_i e;have s:=RY (g:=p) (row:=row) (S:=S) e;rw[<-aH8 hc a d,aEU hc a];generalize yY p row S L=k at *
  have j:k.toNat<L.length:=by omega
  generalize k.toNat=i at *
  have ex:L.getD i default=L[i]:=by simp[rH,j]
  rw[ex];have f:=d _ (eQ j);have m:∀z∈L.eraseIdx i,Same p q z:=λz c=>d z (List.mem_of_mem_eraseIdx c);split;have r:Mb p row L[i] (L.eraseIdx i) V=Mb q row L[i] (L.eraseIdx i) V:=by
   unfold Mb;have b:∀(l V:D_),(∀x∈l,Same p q x)->l.foldl (λV y=>if(lA p L[i] y||(decide (y∈L.eraseIdx i)&&B7 p row L[i] y))=true then AQ V y else V) V=l.foldl (λV y=>if(lA q L[i] y||(decide (y∈L.eraseIdx i)&&B7 q row L[i] y))=true then AQ V y else V) V:=by
    intro l
    induction l with
    |nil=>intro V _;rfl
    |cons y l ih=>
     intro V h;rw[CW,CW,aES hc f (h y (.head _)),aET hc a f (h y (.head _)),ih _ λz c=>h z (.tail _ c)]
   exact b row V a
  rw[r,aCW a n _ _ m];exact aCW a n _ _ m
def aJE {row:D_} (b:∀z∈row,Same p q z) (V:D_):sU p row V=sU q row V:=by
 have f:aBt p row=aBt q row:=by
  unfold aBt BQ;rw[hc,aGf b];congr 1;have c:∀(l:D_)(out:B_),(∀x∈l,Same p q x)->l.foldl (kV p) out=l.foldl (kV q) out:=by
   intro l
   induction l with
   |nil=>intro out _;rfl|cons y l ih=>
    intro out h;rw[CW,CW,ih _ λz d=>h z (.tail _ d),kV,kV,(h y (.head _)).o]
  exact c _ _ λx a=>b x ((mE q row).mem_iff.1 a)
 have e:(row.filter λx=>jM (p.nd x).o)=row.filter λx=>jM (q.nd x).o:=List.filter_congr λx a=>by rw[(b x a).o]
 unfold sU;rw[f,e];exact aCW hc b _ _ _ λx a=>b x (gR.1 a).1
def aGg{l:D_}(a:∀x∈l,Same p q x):kW p l=kW q l:=by have b:∀x∈eO q l,Same p q x:=λx c=>a x ((mE q l).mem_iff.1 c);unfold kW;rw[aGf a,aJE hc b,aEU hc b]
end
def aE3{g:PGM}{l m:D_}(h:l.Perm m):kW g l=kW g m:=by
 have a:∀x,B8 l x=B8 m x:=λx=>by unfold B8;rw[CT,CX,CX];refine exists_congr λy=>and_congr h.mem_iff ?_;rw[CX,CX];exact exists_congr λz=>and_congr_left' h.mem_iff
 have b:∀x,x∈zH l↔x∈zH m:=λx=>by unfold zH;rw[gR,gR,h.mem_iff,a]
 unfold kW;rw[aJf h,LA (Xw b)]
def aH9(g:PGM)(l:D_):1<=Fa g l/\∀x∈l,(g.nd x).lv+1<=Fa g l:=by
 have a:∀(l:D_)(m:Int),m<=l.foldl (λm x=>max m ((g.nd x).lv+1)) m/\∀x∈l,(g.nd x).lv+1<=l.foldl (λm x=>max m ((g.nd x).lv+1)) m:=by
  intro l
  induction l with
  |nil=>intro m;simp|cons y l ih=>
   intro m;have h:=ih (max m ((g.nd y).lv+1));rw[CW];refine⟨o_,λx b=>?_⟩;rcases cS.1 b with rfl|b;omega;exact h.2 x b
 exact a l 1
section
variable{cs:List CardM}{L:List OpM}
def aBC (c:∀i,(AM cs (L.take i)).ok) (b:∀i(h:i<L.length),(sR (AM cs (L.take i)) L[i]).2=0):∀i,i<=L.length ->
 (AM cs (L.take i)).wf/\(AM cs (L.take i)).I=(L.take i).map C7/\∀j,j<=i->∀x∈(AM cs (L.take j)).I,Same (AM cs (L.take j)) (AM cs (L.take i)) x
 |0,_=>by
  refine⟨⟨km,km⟩,km,λj l=>?_⟩;obtain rfl:j=0:=o_;exact λx d=>⟨d,d,rfl,rfl,λ_=>rfl⟩
 | i+1,h=>by
  obtain⟨w,e,s⟩:=aBC c b i o_;obtain⟨t,m⟩:=aEV (c i) w (b i o_);have f:AM cs (L.take (i+1))=(sR (AM cs (L.take i)) L[i]).1:=by rw[lB o_,MS]
  rw[m]at f;obtain⟨w1,k,g,_⟩:=aFc (c i) w t f;refine⟨w1,?_,?_⟩;rw[k,e,lB o_,bZ];rfl;intro j l x d;rcases eD i j with h1|h1;obtain rfl:j=i+1:=o_;exact⟨d,d,rfl,rfl,λ_=>rfl⟩;have a:=s j h1 x d;exact a.trans (g x a.r)
def aCZ(c:∀i,(AM cs (L.take i)).ok)(a:∀i(h:i<L.length),(sR (AM cs (L.take i)) L[i]).2=0){k:Nat}(f:k<L.length):
 Took (AM cs (L.take k)) L[k]/\(∀x∈(AM cs (L.take k)).I,Same (AM cs (L.take k)) (AM cs L) x)/\C7 L[k]∈(AM cs L).I/\((AM cs L).nd (C7 L[k])).o=L[k]/\((AM cs L).nd (C7 L[k])).lv=Fa (AM cs (L.take k)) L[k].Past/\∀y,oH (AM cs L) y (C7 L[k])=anc (AM cs (L.take k)) L[k] y:=by
 obtain⟨w,e,_⟩:=aBC c a k o_;obtain⟨t,p⟩:=aEV (c k) w (a k f);have g:AM cs (L.take (k+1))=(sR (AM cs (L.take k)) L[k]).1:=by rw[lB f,MS]
 rw[p]at g;obtain⟨w1,m,u,j,l,q⟩:=aFc (c k) w t g;have d:=(aBC c a L.length (cN _)).2.2;rw[dE]at d;have s:=d (k+1) o_ (C7 L[k]) (by rw[m];simp);exact⟨t,λx n=>d k o_ x n,s.r,by rw[<-s.o,j],by rw[<-s.lv,l],λy=>by rw[<-s.b,q]⟩
def aJF (l:∀i,(AM cs (L.take i)).ok) (u:∀o∈L,o.ok/\(C7 o).ok) (K:cardsOk cs) (f:∀i(h:i<L.length),(sR (AM cs (L.take i)) L[i]).2=0) (hL:L.length<=200)
 {R:V_} (C:∀k∈R,k<L.length) (U:R.Nodup) (Z:∀i(h:i<R.length),∀x∈(L.getD R[i] default).Past,x∈(R.take i).map λk=>C7 (L.getD k default)) (n:∀i(h:i<R.length),(L.getD R[i] default).Kind=1->i=0):
 ∀i,i<=R.length->(AM cs ((R.take i).map λk=>L.getD k default)).wf/\(AM cs ((R.take i).map λk=>L.getD k default)).ok/\(AM cs ((R.take i).map λk=>L.getD k default)).I=(R.take i).map (λk=>C7 (L.getD k default)) /\
  (∀x∈(AM cs ((R.take i).map λk=>L.getD k default)).I,Same (AM cs L) (AM cs ((R.take i).map λk=>L.getD k default)) x)/\∀(h:i<R.length),(sR (AM cs ((R.take i).map λk=>L.getD k default)) (L.getD R[i] default)).2=0:=by
 have G:∀k(h:k<L.length),L.getD k default=L[k]:=λk h=>by simp[rH,h]
 have M:=aBC l f L.length (cN _);rw[dE]at M;have aa:R.length<=L.length:=by have:=List.Nodup.length_le_of_subset U (l₂:=List.range L.length) λk n=>uM.2 (C k n);simpa using this
 have b:∀i,(AM cs ((R.take i).map λk=>L.getD k default)).ok:=λi=>XM K _ λo ho=>by obtain⟨k,n,rfl⟩:=dF.1 ho;have:=C k (C8 n);rw[G k this];exact u _ (eQ this)
 have d:∀i(h:i<R.length),(AM cs ((R.take i).map λk=>L.getD k default)).wf->(AM cs ((R.take i).map λk=>L.getD k default)).I=(R.take i).map (λk=>C7 (L.getD k default)) ->
  (∀x∈(AM cs ((R.take i).map λk=>L.getD k default)).I,Same (AM cs L) (AM cs ((R.take i).map λk=>L.getD k default)) x)->Took (AM cs ((R.take i).map λk=>L.getD k default)) (L.getD R[i] default)/\∀x∈(L.getD R[i] default).Past,Same (AM cs (L.take R[i])) (AM cs ((R.take i).map λk=>L.getD k default)) x:=by
  intro i h w hI F;have c:=C _ (eQ h);obtain⟨t,s,m,_⟩:=aCZ l f c;have q:=Z i h;have z:=n i h;rw[G _ c]at q z⊢;have O:∀x∈(AM cs (L.take R[i])).I,x∈(AM cs ((R.take i).map λk=>L.getD k default)).I->Same (AM cs (L.take R[i])) (AM cs ((R.take i).map λk=>L.getD k default)) x:=λx h1 h2=>(s x h1).trans (F x h2);have g:∀x∈L[R[i]].Past,Same (AM cs (L.take R[i])) (AM cs ((R.take i).map λk=>L.getD k default)) x:=λx a=>O x (t.there x a) (by rw[hI];exact q x a);refine⟨aID t (by rw[RL cs _ _ rfl,RL cs _ _ rfl]) g (λy H=>O y (aF0 t.there H) ?_) ?_ ?_ ?_,g⟩;rw[aDy g]at H;exact aF0 (λx a=>(g x a).r) H;rw[hI];intro hm;obtain⟨k,n,e⟩:=dF.1 hm;obtain⟨j,hj,rfl⟩:=TT.1 n;have B:=C _ (eQ (o_:j<R.length));rw[G _ B]at e;have v:=M.1.nd;rw[M.2.1]at v;have N:R[j]=R[i]:=by refine(C9 (h₀:=kz) (h₁:=J_) v).1 ?_;simpa using e
  have:=(C9 U).1 N;omega;have hl:(AM cs ((R.take i).map λk=>L.getD k default)).I.length=i:=by rw[hI];simp;omega
  have:(AM cs ((R.take i).map λk=>L.getD k default)).nodes.length=i:=by simpa[PGM.I]using hl
  omega;intro J;obtain rfl:=z J;simp[AM]
 intro i
 induction i with
 |zero=>
  intro _;have w0:(AM cs (([]:V_).map λk=>L.getD k default)).wf:=⟨km,km⟩
  have i0:(AM cs (([]:V_).map λk=>L.getD k default)).I=[]:=km;have P:∀x∈(AM cs (([]:V_).map λk=>L.getD k default)).I,Same (AM cs L) (AM cs (([]:V_).map λk=>L.getD k default)) x:=λx a=>absurd a (by rw[i0];simp);exact⟨w0,b 0,i0,P,λh=>aGd (b 0) w0 (d 0 h w0 i0 P).1⟩
 | succ i ih=>
  intro h;obtain⟨w,Q,hI,F,ha⟩:=ih o_;have A:i<R.length:=o_;have c:=C _ (eQ A);obtain⟨t,g⟩:=d i A w hI F;obtain⟨_,N⟩:=aEV Q w (ha A);have V:AM cs ((R.take (i+1)).map λk=>L.getD k default)=(sR (AM cs ((R.take i).map λk=>L.getD k default)) (L.getD R[i] default)).1:=by rw[lB A,bZ,fG,uP,MS]
  rw[N]at V;obtain⟨w1,E,q1,S,T,W⟩:=aFc Q w t V;have D:(AM cs ((R.take (i+1)).map λk=>L.getD k default)).I=(R.take (i+1)).map (λk=>C7 (L.getD k default)):=by rw[E,hI,lB A,bZ];rfl
  have p:∀x∈(AM cs ((R.take (i+1)).map λk=>L.getD k default)).I,Same (AM cs L) (AM cs ((R.take (i+1)).map λk=>L.getD k default)) x:=by intro x a;rw[E]at a;rcases cG.1 a with a|a;exact(F x a).trans (q1 x a);obtain⟨t0,s,m,X,Y,b0⟩:=aCZ l f c;rw[cA.1 a];rw[G _ c]at g S T W E⊢;exact⟨m,by rw[E];simp,by rw[X,S],by rw[Y,T,aJe g],λy=>by rw[b0,W,aDy g]⟩
  exact⟨w1,b _,D,p,λh=>aGd (b _) w1 (d (i+1) h w1 D p).1⟩
end
def aKP:eO (lQ 6) BP.I=BP.I:=by unfold eO;exact List.mergeSort_of_pairwise si
def aKQ(g:PGM)(l:D_):D_:=mW g (uL g l (Xu 0 (l.foldl (kV g) []) (KZ g.cards)) l.length (zH l) (l.filter λx=>jM (g.nd x).o)) l
def aGr{g:PGM}{l:D_}(h:eO g l=l):kW g l=aKQ g l:=by unfold kW sU aBt BQ aKQ;simp only[h]
def aHh:kW (lQ 6) BP.I=Za.I:=(aGr aKP).trans s_
def aKR:Gk (lQ 6) BP.I (zH BP.I) lI6=15:=by unfold Gk;have h:mW (lQ 6) (sU (lQ 6) (eO (lQ 6) BP.I) (zH BP.I)) (eO (lQ 6) BP.I)=Za.I:=aHh;rw[h];decide +kernel
section
variable{G:L_}
def aIS(e:AK G):LivesP G:=by
 have c:=lR6.ggood rY JP;have hI:(AM bQ BP.L).I=BP.I:=by rw[Zb];rfl
 have a:∀x∈BP.I,x∈(AM bQ BP.L).I:=λx f=>by rw[hI];exact f
 have b:BP.I.Nodup:=si;have d:GAt (TG 0 (AM bQ BP.L)) (0,1,2) (AM bQ BP.L):=⟨rfl,rfl,rfl,d_,d_,d_⟩
 have h1:=Vj e d c a b;have h2:=aHg e d c a b lI6;have h:kW (AM bQ BP.L) BP.I=Za.I:=by rw[Zb];exact aHh
 have g:Gk (AM bQ BP.L) BP.I (zH BP.I) lI6=15:=by rw[Zb];exact aKR
 rw[h]at h1;rw[g]at h2;exact⟨h1,h2,by rw[Zb];kernel_rfl⟩
end
def Reach.nd{cs:List CardM}(j:cardsOk cs){g:GM}(h:Reach cs g):g.I.Nodup:=by
 induction h with
 |new=>exact Mm| @add g o f i d ih=>
  by_cases h:(dV g o).1=0;rotate_left;grind[addM];have a:=Ff h;rw[yE a h,vQ];refine⟨ih,k_,?_⟩;intro x c y b e;rw[cA.1 b]at e;exact a.twice ((Cz g.I _).2 (e ▸ c))
section
variable{G:L_}
end
section
open W
def aE2:cF aCE [(9,none,1),(10,none,3),(1000000,some 9,0),(1000000,some 10,0)]=some ⟨95,[(4,none)],S [R0 4 1 [M F],R 15 2 [0] [c2 Ew v0 (w 14),J 5 (s 5 (al zS5) (t 16))],D 17 4 [] [A 6 (c2 xO (L 5 t5) (K [zv 17 5 5] (c1 zQ (L 5 t5))))],S [R0 21 1 [v6,x (.nilS false 0 (zt 21))],If 22 [5,1,6] (S [E0 [A 4 F],.ret])],R 23 3 [1] [A 7 (c2 zR (L 5 t5) v1)],R0 26 3 [A 8 (c2 mJ v6 v7)],S [iz 9,ow 9 1],S [iz 10,ow 10 3],S [i0 11,S [fo 0 29 3 (ls v11 (n v8)) [11] 11 (S [D 35 6 [] [A 12 (c2 oJ (L 5 t5) (L 3 (i 3 v8 v11)))],S [R0 41 1 [ls v12 w0],If 42 [9,12,5,7,6,11,8,10] (S [E0 [A 4 F],.ret])],S [R 43 4 [12] [A 9 (a 1 8 v9 (ba 1 [z0] v12))],ow 9 1],R0 47 11 [A 10 (a 3 24 v10 (ba 3 zI (L 3 (i 3 v8 (sb (sb (n v8) w1) v11)))))],ow 10 3]),.shut 9],.shut 10],R 58 3 [5,9] [A 13 (c2 xO (L 5 t5) v9)],S [R 61 8 [8] [v13,O (x (.nilS false 0 (zt 61))) (ne (n v8) (n v7))],If 69 [6,7,10,13] (S [E0 [A 4 F],.ret])],R0 70 3 [A 14 (c2 pN v6 v7)],R 73 22 [14,13,7,10,6] [A 4 (N (N (N (c2 CF v14 (c2 pN v13 v7)) (c2 CF v14 (c2 pN v13 v10))) (c2 CF v14 (c2 pN v6 v10))) (c0 Ey))],.ret]⟩:=s_
end
end Hud
