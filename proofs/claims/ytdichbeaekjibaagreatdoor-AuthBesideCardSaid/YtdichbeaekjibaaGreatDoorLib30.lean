import Derived.Test.YtdichbeaekjibaaGreatDoorLib29
set_option linter.all false
set_option maxHeartbeats 40000000
namespace Hud
open Go
variable{G:L_}
def bfM(g:GM)(x y:Id):Bool:=decide (x∈g.I)&&(decide (y∈g.I)&&(g.In.getD (aW g.I y).toNat []).getD (aW g.I x).toNat false)
def aN7{p:PGM}{g:GM}(s:Sim p g)(d:g.L.length<=200)(x y:Id):oH p x y=bfM g x y:=by
 have h:p.I.length=g.L.length:=by rw[PGM.I,<-s.l,aP,aP]
 by_cases mx:x∈p.I;by_cases a:y∈p.I;obtain⟨j,c,f,_⟩:=dG mx;obtain⟨k,b,e,_⟩:=dG a;rw[aOr s d c b o_ o_ mx a];rw[s.i]at mx a c b;unfold bfM aW qX inG;simp[mx,a,c,b];unfold oH bfM;rw[<-s.i];simp[a];unfold oH bfM;rw[<-s.i];simp[mx]
def RU.trans{a:List V_}{up:V_}{i k:Nat}(h:RU a up i)(h2:RU a (a.getD i []) k):RU a up k:=by
 induction h2 with
 |base h2=>exact .step h h2|step _ h3 ih=>exact .step ih h3
section
variable{g:GM}
def aH9(b:g.I.length=g.L.length){x:Id}(a:x∈g.I):(aW g.I x).toNat<g.L.length:=by have h1:=(Cz g.I x).2 a;have h2:=(AZ g.I x).1;omega
def aN8(w:g.wf){x y z:Id}(h1:bfM g x y=true)(h2:bfM g y z=true):bfM g x z=true:=by
 unfold bfM at *
 simp only[zJ,decide_eq_true_eq]at *
 refine⟨h1.1,h2.2.1,?_⟩;have a:=(w.past _ (aH9 w.i h1.2.1) _).1 h1.2.2;have b:=(w.past _ (aH9 w.i h2.2.1) _).1 h2.2.2;exact(w.past _ (aH9 w.i h2.2.1) _).2 (b.trans a)
def aGT(a:g.I.Nodup){i:Nat}(h:i<g.I.length):aW g.I g.I[i]=i:=by obtain⟨j,e,b,_,h2⟩:=dG (eQ h);have:j=i:=(C9 a).1 h2;unfold aW qX;rw[e,this]
def aJJ{x:Id}(b:x∈g.I):g.I.getD (aW g.I x).toNat default=x:=by obtain⟨j,e,a,_,h2⟩:=dG b;unfold aW qX;rw[e];simp[rH,a,h2]
def aK8{I:D_}{y:Id}:∀(l out:D_),y∈l.foldl (vL I) out↔y∈out\/(y∈l/\y∈I)|[],out=>by simp|z::l,out=>by rw[CW,aK8 l];unfold vL;split;rename_i a;simp only[zJ,decide_eq_true_eq]at a;have:=(Cz I z).1 a.1;grind;rename_i a;simp only[zJ,decide_eq_true_eq,EX,decide_eq_false_iff_not]at a;have:=Cz I z;grind
def aLP(d:g.I.length=g.L.length)(c:g.I.Nodup){l:D_}{y:Id}:y∈Fd g l↔(y∈l/\y∈g.I)\/∃x∈l,bfM g y x=true:=by
 unfold Fd rV;rw[(dQ _).mem_iff,aK8,(dQ _).mem_iff,or_comm];apply or_congr .rfl;unfold Le B3 bfM;simp only[dF,aBD,uM,CX,zJ,decide_eq_true_eq,Cz];constructor;rintro⟨i,⟨h1,x,a,h2,h3⟩,rfl⟩;have b:i<g.I.length:=o_;have e:g.I.getD i default=g.I[i]:=by simp[rH,b]
 rw[e,aGT c b];exact⟨x,a,eQ b,h2,h3⟩;rintro⟨x,a,h1,h2,h3⟩;exact⟨_,⟨aH9 d h1,x,a,h2,h3⟩,aJJ h1⟩
end
def aJf {g:PGM} {V:D_} {D:Id->Bool}:∀(r out:D_),(∀y∈r,D y=true->∀z,z∈out\/z∈r->oH g z y=true->D z=true) ->
 (r.foldl (iS g V) out).filter D=(r.filter D).foldl (iS g V) (out.filter D)
 |[],_,_=>rfl| y::r,out,h=>by
  have i:∀z,z∈iS g V out y->z∈out\/z=y:=λz a=>by unfold iS at a;grind
  rw[CW,aJf r _ λu d b z a c=>h u (.tail _ d) b z (by
   rcases a with a|a;rcases i z a with a|rfl;exact .inl a;exact .inr (.head _)
   exact .inr (.tail _ a)) c]
  have f:(iS g V out y).filter D=if D y=true then iS g V (out.filter D) y else out.filter D:=by
   split;rename_i b;have e:Lo g (out.filter D) y=Lo g out y:=by
    unfold Lo;rw[List.filter_filter];congr 1;refine List.filter_congr λz a=>?_
    cases c:oH g z y with
    |false=>rfl|true=>simp[h y (.head _) b z (.inl a) c]
   unfold iS;rw[e];split;rw[Mf];simp[b];rfl;rename_i b;unfold iS;split;rw[Mf];simp[b];rfl
  rw[f,List.filter_cons];split;rw[CW];rfl
def aM1{g:PGM}{S O:D_}(a:S.Nodup)(b:O.Nodup)(h:∀x∈O,x∈S):(eO g S).filter (λx=>decide (x∈O))=eO g O:=by refine aET ?_ ((U4 g S).filter _) (U4 g O);refine(aBH (((mE g S).nodup_iff.2 a).filter _) ((mE g O).nodup_iff.2 b)).2 λx=>?_;rw[aBD,(mE g S).mem_iff,(mE g O).mem_iff];grind
structure PGM.wf(g:PGM):Prop where
 nd:g.I.Nodup
 back:∀x∈g.I,∀k,qK (g.nd x).W k=true->k<g.at x
def aES{g:PGM}{x:Id}(h:x∈g.I):g.at x<g.nodes.length/\g.I[g.at x]?=some x:=by
 obtain⟨j,e,a,_,h2⟩:=dG h;have b:g.at x=j:=by unfold PGM.at;rw[e];rfl
 rw[b];refine⟨by simpa[PGM.I]using a,?_⟩;rw[jN a,h2]
def aOV{g:PGM}{x y:Id}(d:x∈g.I)(c:y∈g.I)(h:g.at x=g.at y):x=y:=by have a:=(aES d).2;have b:=(aES c).2;rw[h,b]at a;exact(Option.some.inj a).symm
def aOW{g:PGM}(w:g.wf){k:Nat}(h:k<g.nodes.length):∃y∈g.I,g.at y=k/\g.nd y=g.nodes.getD k XD:=by
 have c:k<g.I.length:=by simpa[PGM.I]using h
 have m:=eQ c;have a:=(aES m).2;have e:g.at g.I[k]=k:=by
  have b:g.at g.I[k]<g.I.length:=by have:=(aES m).1;simpa[PGM.I]using this
  rw[jN b]at a;exact(C9 w.nd).1 (Option.some.inj a)
 exact⟨_,m,e,by unfold PGM.nd;rw[e]⟩
def aHe{g:PGM}{x y:Id}(b:x∈g.I)(a:y∈g.I):oH g x y=qK (g.nd y).W (g.at x):=by unfold oH;simp[b,a]
def aNh{W V:V_}(a:Hu W)(b:Hu V)(k:Nat):qK (Cu W V) k=(qK W k&&qK V k):=by unfold qK;rw[aB2 W V (by rw[a.1,b.1]),Nat.testBit_and]
def aOu(a:List ND)(o:OpM)(W:V_)(n j:Nat)(b:j<n)(h1:(a.getD j XD).o.By=o.By)(h2:qK W j=true):(a.getD j XD).o.Seq<=(BY a o W n).1:=by
 induction n with
 |zero=>omega|succ n ih=>
  unfold BY;grind
def aNi(a:List ND)(o:OpM)(W:V_)(n:Nat):0<=(BY a o W n).1:=by
 induction n with
 |zero=>simp[BY]|succ n ih=>unfold BY;grind
def aOv(a:List ND)(o:OpM)(W:V_)(n:Nat)(h:(BY a o W n).2=true):∃j,j<n/\(a.getD j XD).o.By=o.By/\qK W j=true/\(a.getD j XD).o.Seq=o.Seq-1:=by
 induction n with
 |zero=>simp[BY]at h|succ n ih=>
  unfold BY at h;grind
def anc(g:PGM)(o:OpM)(y:Id):Bool:=o.Past.any λx=>decide (y=x)||oH g y x
def aJK{g:PGM}(c:g.ok){o:OpM}(b:∀x∈o.Past,x∈g.I){y:Id}(d:y∈g.I):qK (BF g o) (g.at y)=anc g o y:=by have e:=c.n;rw[BF,ZM (JC c _) (JB g _),CT,Ec,aDY c,aDX g c.n o.Past λx a=>by have:=(aES (b x a)).1;omega];unfold anc;rw[CX];constructor;rintro(⟨x,a,h⟩|⟨x,a,h⟩);exact⟨x,a,by simp[aHe d (b x a),h]⟩;exact⟨x,a,by simp[aOV (b x a) d h]⟩;rintro⟨x,a,h⟩;rcases Ec _ _ ▸ h with h|h;exact .inr ⟨x,a,by rw[of_decide_eq_true h]⟩;exact .inl ⟨x,a,by rw[<-aHe d (b x a)];exact h⟩
structure Took(g:PGM)(o:OpM):Prop where
 check:vF o=0
 new:C7 o∉g.I
 full:g.nodes.length<200
 card:(gM g.cards o.By).2=true
 sig:((o.By==(gM g.cards o.By).1.Device)&&BW (gM g.cards o.By).1.Sign o.B o.SR o.SS)=true
 kind:o.Kind=1->g.nodes=[]
 there:∀x∈o.Past,x∈g.I
 order:∀x∈o.Past,∀y∈o.Past,oH g y x=false
 late:G0 g o.Past<=o.At
 seq:∀y∈g.I,anc g o y=true->(g.nd y).o.By=o.By->(g.nd y).o.Seq<o.Seq
 pos:0<o.Seq
 pre:1<o.Seq->∃y∈g.I,anc g o y=true/\(g.nd y).o.By=o.By/\(g.nd y).o.Seq=o.Seq-1
def aMn{g:PGM}(d:g.ok)(w:g.wf){o:OpM}(h:(aCW g o).2=0):Took g o/\(aCW g o).1=⟨g.cards,g.nodes++[⟨o,C7 o,BF g o,Fa g o.Past⟩]⟩:=by
 unfold aCW at h⊢;by_cases c1:vF o=0;rotate_left;rw[if_pos c1]at h;exact absurd h c1;rw[if_neg (by simp[c1])]at h⊢;unfold Oa at h⊢;split at h;exact absurd h k_;rename_i c2;split at h;exact absurd h k_;rename_i c3;split at h;exact absurd h k_;rename_i c4;split at h;exact absurd h k_;rename_i c5;split at h;exact absurd h k_;rename_i c6;split at h;exact absurd h k_;rename_i t;rw[if_neg c2,if_neg c3,if_neg c4,if_neg c5,if_neg c6,if_neg t];unfold Q8 at h⊢;split at h;exact absurd h k_;rename_i l;split at h;exact absurd h k_;rename_i i;rw[if_neg l,if_neg i];refine⟨?_,rfl⟩;have u:=d.n;have c:∀x∈o.Past,x∈g.I:=λx b=>by have e:CQ g o=[]:=Ae o_;unfold CQ at e;have:=List.filter_eq_nil_iff.1 e x b;simpa using this
 have k:∀x∈o.Past,g.at x<256:=λx b=>by have:=(aES (c x b)).1;omega
 simp only[EX,Bool.not_eq_false,zJ,beq_iff_eq,decide_eq_false_iff_not]at l;unfold MQ at i;simp only[Ec,zJ,decide_eq_true_eq,EX,not_or,not_and,Bool.not_eq_false]at i;have m:=aNi g.nodes o (BF g o) g.nodes.length;refine⟨c1,c2,o_,by simpa using c4,by simpa using c5,?_,c,?_,o_,?_,o_,?_⟩;intro q;apply Ae;rw[q]at c6;simp at c6;simp[c6];intro x b y a
 cases f:oH g y x with
 |false=>rfl|true=>
  rw[aHe (c y a) (c x b)]at f;have h1:=(aDY d o.Past (g.at y)).2 ⟨x,b,f⟩;have h2:=(aDX g d.n o.Past k (g.at y)).2 ⟨y,a,rfl⟩;have h3:=aNh (JB g o.Past) (JC d o.Past) (g.at y);rw[l.1,ZN,h1,h2]at h3;exact absurd h3 d_
 intro y a s f;have:=aOu g.nodes o (BF g o) g.nodes.length (g.at y) (aES a).1 f (by rw[aJK d c a];exact s);have e:(g.nd y).o.Seq=(g.nodes.getD (g.at y) XD).o.Seq:=rfl;omega;intro p;obtain⟨j,r,h1,h2,h3⟩:=aOv _ _ _ _ (i.2 p);obtain⟨y,a,rfl,e⟩:=aOW w r;rw[aJK d c a]at h2;rw[<-e]at h1 h3;exact⟨y,a,h2,h1,h3⟩
structure Same(p q:PGM)(x:Id):Prop where
 l:x∈p.I
 r:x∈q.I
 o:(p.nd x).o=(q.nd x).o
 lv:(p.nd x).lv=(q.nd x).lv
 b:∀y,oH p y x=oH q y x
def Same.symm{p q:PGM}{x:Id}(h:Same p q x):Same q p x:=⟨h.r,h.l,h.o.symm,h.lv.symm,λy=>(h.b y).symm⟩
def Same.trans{p q r:PGM}{x:Id}(h:Same p q x)(k:Same q r x):Same p r x:=⟨h.l,k.r,h.o.trans k.o,h.lv.trans k.lv,λy=>(h.b y).trans (k.b y)⟩
def aOw{g:PGM}{x y:Id}(h:oH g x y=true):x∈g.I/\y∈g.I:=by unfold oH at h;simp only[zJ,decide_eq_true_eq]at h;exact⟨h.1,h.2.1⟩
def aKU{g:PGM}{o:OpM}(b:∀x∈o.Past,x∈g.I){y:Id}(h:anc g o y=true):y∈g.I:=by unfold anc at h;obtain⟨x,a,h⟩:=CX.1 h;rcases Ec _ _ ▸ h with h|h;rw[of_decide_eq_true h];exact b x a;exact(aOw h).1
def aMp {g:PGM} (q:g.ok) (w:g.wf) {o:OpM} (t:Took g o) {d:PGM} (e:d=⟨g.cards,g.nodes++[⟨o,C7 o,BF g o,Fa g o.Past⟩]⟩):
 d.wf/\d.I=g.I++[C7 o]/\(∀x∈g.I,Same g d x)/\(d.nd (C7 o)).o=o/\(d.nd (C7 o)).lv=Fa g o.Past/\∀y,oH d y (C7 o)=anc g o y:=by
 have hI:d.I=g.I++[C7 o]:=by subst e;simp[PGM.I]
 have z:g.I.length=g.nodes.length:=by simp[PGM.I]
 have l:d.I.Nodup:=by rw[hI,vQ];refine⟨w.nd,k_,?_⟩;intro a B b r;rw[cA.1 r];rintro rfl;exact t.new B
 have v:∀x∈g.I,d.at x=g.at x:=λx c=>by
  have h1:=aES c;have h2:=aES (g:=d) (x:=x) (by rw[hI];simp[c]);have h3:g.at x<g.I.length:=by rw[z];exact h1.1
  have h4:d.at x<d.I.length:=by have:=h2.1;simpa[PGM.I]using this
  have h5:d.I[g.at x]?=some x:=by rw[hI,mY h3];exact h1.2
  have h6:g.at x<d.I.length:=by rw[hI];simp;omega
  rw[jN h6]at h5;have s:=h2.2;rw[jN h4]at s;exact((C9 l).1 ((Option.some.inj h5).trans (Option.some.inj s).symm)).symm
 have u:d.at (C7 o)=g.nodes.length:=by
  have h2:=aES (g:=d) (x:=C7 o) (by rw[hI];simp);have h4:d.at (C7 o)<d.I.length:=by have:=h2.1;simpa[PGM.I]using this
  have s:=h2.2;rw[jN h4]at s;have h6:g.nodes.length<d.I.length:=by rw[hI];simp[z]
  have h5:d.I[g.nodes.length]=C7 o:=by simp[hI,<-z]
  exact(C9 l).1 ((Option.some.inj s).trans h5.symm)
 have p:∀x∈g.I,d.nd x=g.nd x:=λx c=>by unfold PGM.nd;rw[v x c];subst e;exact Ol _ _ _ _ (aES c).1
 have m:d.nd (C7 o)=⟨o,C7 o,BF g o,Fa g o.Past⟩:=by unfold PGM.nd;rw[u];subst e;exact D2 _ _ _
 have bk:∀k,qK (BF g o) k=true->k<g.nodes.length:=λk h=>by
  rw[BF,ZM (JC q _) (JB g _),Ec,aDY q,aDX g q.n o.Past λx c=>by have:=(aES (t.there x c)).1;have:=q.n;omega]at h;rcases h with⟨x,c,h⟩|⟨x,c,rfl⟩
  have:=w.back x (t.there x c) k h;have:=(aES (t.there x c)).1;omega;exact(aES (t.there x c)).1
 have f:∀y,y∈d.I↔y∈g.I\/y=C7 o:=λy=>by rw[hI];simp
 refine⟨⟨l,?_⟩,hI,?_,by rw[m],by rw[m],?_⟩;intro x c k h;rcases(f x).1 c with h1|rfl;rw[p x h1]at h;rw[v x h1];exact w.back x h1 k h;rw[m]at h;rw[u];exact bk k h;intro x c;refine⟨c,(f x).2 (.inl c),by rw[p x c],by rw[p x c],λy=>?_⟩;by_cases j:y∈g.I;rw[aHe j c,aHe ((f y).2 (.inl j)) ((f x).2 (.inl c)),p x c,v y j];have A:oH g y x=false:=by unfold oH;simp[j]
 rw[A];by_cases i:y=C7 o;subst i;rw[aHe ((f _).2 (.inr rfl)) ((f x).2 (.inl c)),p x c,u]
 cases r:qK (g.nd x).W g.nodes.length with
 |false=>rfl|true=>
  have:=w.back x c _ r;have:=(aES c).1;omega
 unfold oH;simp[f,j,i];intro y;by_cases j:y∈g.I;rw[aHe ((f y).2 (.inl j)) ((f _).2 (.inr rfl)),m,v y j,aJK q t.there j];have A:anc g o y=false:=by
  cases h:anc g o y with
  |false=>rfl|true=>exact absurd (aKU t.there h) j
 rw[A];by_cases i:y=C7 o;subst i;rw[aHe ((f _).2 (.inr rfl)) ((f _).2 (.inr rfl)),m,u]
 cases r:qK (BF g o) g.nodes.length with
 |false=>rfl|true=>exact absurd (bk _ r) (bP _)
 unfold oH;simp[f,j,i]
section
variable{p q:PGM}
def aOx{x y:Id}(b:Same p q x)(a:Same p q y):P0 p x y=P0 q x y:=by unfold P0 Su;simp[b.l,b.r,a.l,a.r,b.lv,a.lv]
def aNl{l:D_}(a:∀x∈l,Same p q x):eO p l=eO q l:=by refine aET (g:=p) ((mE p l).trans (mE q l).symm) (U4 p l) ?_;refine(U4 q l).imp_of_mem λc b h=>?_;rw[aOx (a _ ((mE q l).mem_iff.1 b)) (a _ ((mE q l).mem_iff.1 c))];exact h
def aNs{l m:D_}(h:l.Perm m):eO p l=eO p m:=aET ((mE p l).trans (h.trans (mE p m).symm)) (U4 p l) (U4 p m)
variable(hc:p.cards=q.cards)
include hc
def aNt{s:D_}(f:∀y∈s,Same p q y){x:Id}(e:Same p q x):Lo p s x=Lo q s x:=by
 unfold Lo;rw[hc,List.filter_congr λy _=>e.b y];have a:∀(l:D_)(r:RM),(∀y∈l,Same p q y)->l.foldl (ZO p) r=l.foldl (ZO q) r:=by
  intro l
  induction l with
  |nil=>intro r _;rfl|cons y l ih=>
   intro r h;rw[CW,CW,ih _ λz c=>h z (.tail _ c),ZO,ZO,(h y (.head _)).o]
 exact a _ _ λy d=>f y (aBD.1 d).1
def aMw {V row:D_} (c:∀x∈row,Same p q x):mW p V row=mW q V row:=by
 have b:∀(row out:D_),(∀x∈row,Same p q x)->(∀x∈out,Same p q x)->row.foldl (iS p V) out=row.foldl (iS q V) out:=by
  intro row
  induction row with
  |nil=>intro out _ _;rfl| cons x row ih=>
   intro out h k;have e:iS p V out x=iS q V out x:=by unfold iS;rw[aNt hc k (h x (.head _)),(h x (.head _)).o]
   rw[CW,CW,e];refine ih _ (λz a=>h z (.tail _ a)) λz a=>?_;unfold iS at a;split at a;rcases cG.1 a with a|a;exact k z a;rw[cA.1 a];exact h x (.head _);exact k z a
 exact b row [] c k_
end
def aM2(g:PGM)(l:D_):1<=Fa g l/\∀x∈l,(g.nd x).lv+1<=Fa g l:=by
 have a:∀(l:D_)(m:Int),m<=l.foldl (λm x=>max m ((g.nd x).lv+1)) m/\∀x∈l,(g.nd x).lv+1<=l.foldl (λm x=>max m ((g.nd x).lv+1)) m:=by
  intro l
  induction l with
  |nil=>intro m;simp|cons y l ih=>
   intro m;have h:=ih (max m ((g.nd y).lv+1));rw[CW];refine⟨o_,λx b=>?_⟩;rcases cS.1 b with rfl|b;omega;exact h.2 x b
 exact a l 1
section
variable{cs:List CardM}{L:List OpM}
def aH3 (c:∀i,(AM cs (L.take i)).ok) (b:∀i(h:i<L.length),(aCW (AM cs (L.take i)) L[i]).2=0):∀i,i<=L.length ->
 (AM cs (L.take i)).wf/\(AM cs (L.take i)).I=(L.take i).map C7/\∀j,j<=i->∀x∈(AM cs (L.take j)).I,Same (AM cs (L.take j)) (AM cs (L.take i)) x
 |0,_=>by
  refine⟨⟨by simp[AM,PGM.I],by simp[AM,PGM.I]⟩,by simp[AM,PGM.I],λj l=>?_⟩;obtain rfl:j=0:=o_;exact λx d=>⟨d,d,rfl,rfl,λ_=>rfl⟩
 | i+1,h=>by
  obtain⟨w,e,s⟩:=aH3 c b i o_;obtain⟨t,m⟩:=aMn (c i) w (b i o_);have f:AM cs (L.take (i+1))=(aCW (AM cs (L.take i)) L[i]).1:=by rw[lB o_,MS]
  rw[m]at f;obtain⟨w1,k,g,_⟩:=aMp (c i) w t f;refine⟨w1,?_,?_⟩;rw[k,e,lB o_,bZ];rfl;intro j l x d;rcases eD i j with h1|h1;obtain rfl:j=i+1:=o_;exact⟨d,d,rfl,rfl,λ_=>rfl⟩;have a:=s j h1 x d;exact a.trans (g x a.r)
def aNu(c:∀i,(AM cs (L.take i)).ok)(a:∀i(h:i<L.length),(aCW (AM cs (L.take i)) L[i]).2=0){k:Nat}(f:k<L.length):
 Took (AM cs (L.take k)) L[k]/\(∀x∈(AM cs (L.take k)).I,Same (AM cs (L.take k)) (AM cs L) x)/\C7 L[k]∈(AM cs L).I/\((AM cs L).nd (C7 L[k])).o=L[k]/\((AM cs L).nd (C7 L[k])).lv=Fa (AM cs (L.take k)) L[k].Past/\∀y,oH (AM cs L) y (C7 L[k])=anc (AM cs (L.take k)) L[k] y:=by
 obtain⟨w,e,_⟩:=aH3 c a k o_;obtain⟨t,p⟩:=aMn (c k) w (a k f);have g:AM cs (L.take (k+1))=(aCW (AM cs (L.take k)) L[k]).1:=by rw[lB f,MS]
 rw[p]at g;obtain⟨w1,m,u,j,l,q⟩:=aMp (c k) w t g;have d:=(aH3 c a L.length (cN _)).2.2;rw[dE]at d;have s:=d (k+1) o_ (C7 L[k]) (by rw[m];simp);exact⟨t,λx n=>d k o_ x n,s.r,by rw[<-s.o,j],by rw[<-s.lv,l],λy=>by rw[<-s.b,q]⟩
end
def upC(x j:Nat):V_:=if j=0 then [] else if j=x+1 then [x-1] else [j-1]
def aHf(x:Nat)(g:GM):Prop:=∀j,j<g.L.length->g.Up.getD j []=upC x j
def aNG{x n:Nat}(b:1<=x){a:List V_}(h:∀j,j<n->a.getD j []=upC x j):∀j,j<=n->∀i,RU a (upC x j) i↔i<j/\i≠x:=by
 intro j
 induction j using Nat.strongRecOn with
 | _ j ih=>
  intro c i;rw[RU.head];unfold upC;split;subst_vars;simp;split;subst_vars;have h1:=ih (x-1) o_ o_ i;simp only[cA,exists_eq_left];rw[h (x-1) o_,h1];omega;have h1:=ih (j-1) o_ o_ i;simp only[cA,exists_eq_left];rw[h (j-1) o_,h1];omega
section
variable{g:GM}
def aJa(w:g.wf)(a:g.I.Nodup){x:Nat}(e:1<=x)(d:aHf x g){i j:Nat}(c:i<g.I.length)(b:j<g.I.length):bfM g g.I[i] g.I[j]=decide (i<j/\i≠x):=by have f:=w.i;unfold bfM;rw[aGT a c,aGT a b,decide_eq_true (eQ c),decide_eq_true (eQ b),mF,mF,CT,decide_eq_true_eq];show((g.In.getD j []).getD i false=true)↔_;rw[w.past j o_ i,d j o_,aNG (n:=g.L.length) e d j o_ i]
def aLQ(d:g.I.length=g.L.length)(c:g.I.Nodup){l:D_}{y:Id}:y∈rV g l↔∃x∈l,bfM g y x=true:=by
 unfold rV;rw[(dQ _).mem_iff];unfold Le B3 bfM;simp only[dF,aBD,uM,CX,zJ,decide_eq_true_eq,Cz];constructor;rintro⟨i,⟨h1,x,a,h2,h3⟩,rfl⟩;have b:i<g.I.length:=o_;have e:g.I.getD i default=g.I[i]:=by simp[rH,b]
 rw[e,aGT c b];exact⟨x,a,eQ b,h2,h3⟩;rintro⟨x,a,h1,h2,h3⟩;exact⟨_,⟨aH9 d h1,x,a,h2,h3⟩,aJJ h1⟩
def aJc {I a:D_} {x:Id} (c:0<=aW I x) (d:x∉a):∀(l out:D_),(∀z∈l,z=x\/z∈a)->(out=[]\/out=[x])->l.foldl (uD I a) out=if x∈l then [x] else out
 |[],out,_,_=>by simp
 | z::l,out,h,g=>by
  rw[CW];by_cases e:z=x;subst e;have f:uD I a out z=[z]:=by unfold uD;rcases g with rfl|rfl;simp[c,d];simp
  rw[f,aJc c d l [z] (λy b=>h y (.tail _ b)) (.inr rfl)];simp;have i:z∈a:=(h z (.head _)).resolve_left e;have f:uD I a out z=out:=by unfold uD;simp[i]
  rw[f,aJc c d l out (λy b=>h y (.tail _ b)) g];simp[Ne.symm e]
def aKm(w:g.wf)(e:g.I.Nodup){l:D_}{x:Id}(d:x∈l)(c:x∈g.I)(h:∀z∈l,z=x\/bfM g z x=true)(a:bfM g x x=false):yV g l=[x]:=by
 have f:x∉rV g l:=by rw[aLQ w.i e];rintro⟨z,b,h1⟩;rcases h z b with rfl|h2;rw[a]at h1;exact absurd h1 d_;rw[aN8 w h1 h2]at a;exact absurd a d_
 unfold yV;rw[aJc ((Cz g.I x).2 c) f l [] (λz b=>(h z b).imp id λh1=>(aLQ w.i e).2 ⟨x,d,h1⟩) (.inl rfl),if_pos d];exact List.perm_singleton.1 (dQ [x])
def aMx(w:g.wf)(b:g.I.Nodup){x:Nat}(m:1<=x)(f:aHf x g){a:Nat}(c:a<g.I.length)(n:upC x g.L.length=[a]){o:OpM}(q:o.Past=yV g (Fd g [g.I[a]]))(e:(dV g o).1=0):aHf x (addM g o).1:=by
 have hI:=eQ c;have k:bfM g g.I[a] g.I[a]=false:=by rw[aJa w b m f c c];simp
 have p:o.Past=[g.I[a]]:=by
  rw[q];refine aKm w b ((aLP w.i b).2 (.inl ⟨k_,hI⟩)) hI (λz l=>?_) k;rcases(aLP w.i b).1 l with⟨h,_⟩|⟨y,hy,h⟩
  exact .inl x_;exact .inr (by rw[cA.1 hy]at h;exact h)
 have d:yW g o=[a]:=by unfold yW;rw[p,List.map_singleton,aGT b c];rfl
 rw[yE (Ff e) e,d];intro j r;simp only[dZ,GT]at r;show(g.Up++[[a]]).getD j []=_;rcases eD j g.L.length with h1|h1;rw[Ol _ _ _ _ (by rw[w.un];exact h1)];exact f j h1;obtain rfl:j=g.L.length:=o_;rw[n,<-w.un];exact D2 _ _ _
end
def aH5(a b e:Int)(S:List (Int×Int)):aBo ((a,b)::S) e=if e=a then b else aBo S e:=by unfold aBo;rw[List.findIdx?_cons];by_cases h:e=a;simp[h];simp only[h,beq_iff_eq,if_false];cases S.findIdx? λx=>e==x.1<;>simp
def aLR(a b d x:Int)(S:List (Int×Int)):nZ ((a,b)::S) d x=if d=a then(d,x)::S else(a,b)::nZ S d x:=by unfold nZ;rw[List.findIdx?_cons];by_cases h:d=a;simp[h];simp only[h,beq_iff_eq,if_false];cases S.findIdx? λx=>d==x.1<;>simp
def aHG(d x e:Int):∀S:List (Int×Int),aBo (nZ S d x) e=if e=d then x else aBo S e
 |[]=>by
  have:nZ [] d x=[(d,x)]:=rfl;rw[this,aH5]
 | (a,b)::S=>by rw[aLR];split;rename_i h;rw[aH5,aH5];split;rfl;rename_i h2;rw[if_neg (by rw[<-h];exact h2)];rename_i h;rw[aH5,aH5,aHG d x e S];by_cases h1:e=a;rw[if_pos h1,if_pos h1,if_neg (by rw[h1];exact λh2=>h h2.symm)];rw[if_neg h1,if_neg h1]
def aLS(e:Int):∀(l:B_)(i:Nat)(S:List (Int×Int)),e∉l->aBo (Xu i l S) e=aBo S e|[],_,_,_=>rfl|d::l,i,S,h=>by rw[Xu,aLS e l _ _ (λh1=>h (.tail _ h1)),aHG,if_neg (λh1=>h (by rw[h1];exact .head _))]
def aLT(e:Int):∀(l:B_)(i:Nat)(S:List (Int×Int)),1<=i->1<=aBo S e->1<=aBo (Xu i l S) e|[],_,_,_,h=>h|d::l,i,S,a,h=>by rw[Xu];apply aLT e l _ _ o_;rw[aHG];split;omega;exact h
def aKo {g:PGM}:∀(row:D_)(out:B_),∃t,row.foldl (kV g) out=out++t/\∀z∈t,z∉out
 |[],out=>⟨[],by simp,by simp⟩
 | x::row,out=>by
  obtain⟨t,e,h⟩:=aKo row (kV g out x);rw[CW]
  cases b:byO (g.nd x).o with
  |none=>
   have a:kV g out x=out:=by unfold kV;rw[b]
   rw[a]at e h⊢;exact⟨t,e,h⟩
  | some d=>
   by_cases c:d∈out;have a:kV g out x=out:=by unfold kV;rw[b];exact if_pos c
   rw[a]at e h⊢;exact⟨t,e,h⟩;have a:kV g out x=out++[d]:=by unfold kV;rw[b];exact if_neg c
   rw[a]at e h⊢;exact⟨d::t,by rw[e];simp,by grind⟩
def aM3{g:PGM}{row:D_}{x:Id}{r:D_}{d:Int}(b:eO g row=x::r)(f:byO (g.nd x).o=some d):
 aBo (aBt g row) d=0/\∀e,e≠d->1<=aBo (KZ g.cards) e->1<=aBo (aBt g row) e:=by
 have j:kV g [] x=[d]:=by unfold kV;rw[f];rfl
 obtain⟨t,e,h⟩:=aKo (g:=g) r [d];have i:BQ g row=d::t:=by unfold BQ;rw[b,CW,j,e];rfl
 unfold aBt;rw[i,Xu];refine⟨?_,λe a c=>?_⟩;rw[aLS d t _ _ (λh1=>h d h1 (.head _)),aHG,if_pos rfl];rfl;apply aLT e t _ _ o_;rw[aHG,if_neg a];exact c
def aNI {g:PGM} {row:D_} {S:List (Int×Int)} {c:D_} {r:Nat} (n:r<c.length) (k:∀j(h:j<c.length),j≠r->(c.any λy=>B7 g row c[j] y)=true) (l:∀j(h:j<c.length),j≠r->aBo S c[r].a<aBo S c[j].a):yY g row S c=r:=by
 have o:∀j(h:j<c.length),c.getD j default=c[j]:=λj h=>by simp[rH,h]
 have c1:∀(m i:Nat),i+m=c.length->r<i->AP g row S c (c.drop i) i (r:Int)=r:=by
  intro m
  induction m with
  |zero=>intro i f _;rw[LB o_];rfl|succ m ih=>
   intro i f p;have d:i<c.length:=o_;rw[Kc d,AP,if_pos (k i d o_),if_neg];exact ih (i+1) o_ o_;have:=l i d o_;rw[show((r:Int).toNat)=r from rfl,o r n];omega
 have c2:∀(m i:Nat)(b:Int),i+m=r->(b<0\/(b.toNat<i/\0<=b))->AP g row S c (c.drop i) i b=r:=by
  intro m
  induction m with
  | zero=>
   intro i b f e;obtain rfl:i=r:=o_;rw[Kc n,AP];split;rw[if_pos];exact c1 (c.length-(i+1)) (i+1) o_ o_;rcases e with e|e;exact .inl e;refine .inr ?_;rw[o _ o_];exact l _ o_ o_;rfl
  | succ m ih=>
   intro i b f e;have d:i<c.length:=o_;rw[Kc d,AP,if_pos (k i d o_)];apply ih (i+1) _ o_;split;right;omega;rename_i h;rcases e with e|e;exact absurd (.inl e) h;right;omega
 have:=c2 r 0 (-1) o_ (.inl o_);rwa[TZ]at this
def aKs{g:PGM}{V:D_}:∀(row out:D_),row.foldl (iS g V) out=(row.filter λx=>!decide (x∈V)).foldl (iS g []) out
 |[],_=>rfl
 | x::row,out=>by
  rw[CW,aKs row,List.filter_cons];by_cases h:x∈V;have e:iS g V out x=out:=by unfold iS;simp[h]
  simp[h,e];have e:iS g V out x=iS g [] out x:=by unfold iS;simp[h]
  simp[h,e]
def aLs {g k:GM} {x:Nat} {d:Int} (T:Reach bQ g) (hx:1<=x) (br:aHf x g) (C:x<g.L.length) (ab:Reach bQ k) (h0:g.L.take (x+1)=k.L)
 (hd:∀j(h:j<g.L.length),x<j->g.L[j].By=d) (ap:d=2\/d=3) (hR:g.L[x].By=1/\g.L[x].Kind=3/\g.L[x].Device=d) (hk:∀j(h:j<x),jM g.L[j]=false)
 (h1:byO g.L[0]=some 1) (hG:∀y∈k.I,y∈mW (AM bQ k.L) [] (eO (AM bQ k.L) k.I)):
 ∀i(h:i<g.I.length),decide (g.I[i]∈kW (AM bQ g.L) g.I)=decide (i<=x):=by
 have N:=T.good rY;have R:=T.nd rY;have w:=N.wf;have bm:=w.i;have O:∀i,(AM bQ (g.L.take i)).ok:=λi=>XM rY _ λo ho=>⟨N.ok.ops o (C8 ho),N.ids o (C8 ho)⟩
 have hN:=aH3 O N.all g.L.length (cN _);rw[dE]at hN;have hI:g.I=g.L.map C7:=by rw[<-N.sim.i];exact hN.2.1
 have E:∀i(h:i<g.L.length),g.I[i]=C7 g.L[i]:=λi h=>by simp[hI]
 have U:(AM bQ g.L).I=g.I:=N.sim.i;have B:∀y∈g.I,∃(i:Nat)(h:i<g.L.length),y=g.I[i]:=λy f=>d8;have v:=λ(i:Nat)(h:i<g.L.length)=>aNu O N.all h;have F:∀i(h:i<g.L.length),((AM bQ g.L).nd g.I[i]).o=g.L[i]:=λi h=>by rw[E i h];exact(v i h).2.2.2.1
 have H:∀i j(l:i<g.L.length)(c:j<g.L.length),oH (AM bQ g.L) g.I[i] g.I[j]=decide (i<j/\i≠x):=λi j l c=>(aN7 N.sim N.n _ _).trans (aJa w R hx br o_ o_);have ax:∀y∈(AM bQ k.L).I,Same (AM bQ k.L) (AM bQ g.L) y:=λy f=>by have:=hN.2.2 (x+1) o_ y;rw[h0]at this;exact this f
 have ac:(AM bQ k.L).I=k.I:=(ab.good rY).sim.i;have au:k.I=g.I.take (x+1):=by have:=(aH3 O N.all (x+1) o_).2.1;rw[h0,ac]at this;rw[this,hI,<-h0,QN]
 have G:∀i(h:i<g.L.length),g.I[i]∈k.I↔i<=x:=λi h=>by rw[au,TT];constructor;rintro⟨j,c,e⟩;have:=(C9 R).1 e;omega;intro h1;exact⟨i,o_,rfl⟩
 have be:k.I.Nodup:=ab.nd rY;have az:∀y∈k.I,y∈g.I:=λy f=>by rw[au]at f;exact C8 f
 have bq:(AM bQ k.L).cards=(AM bQ g.L).cards:=by rw[RL bQ _ _ rfl,RL bQ _ _ rfl]
 have ay:∀e,e=2\/e=3->1<=aBo (KZ (AM bQ g.L).cards) e:=λe he=>by have e:uE bQ=(lQ 0).cards:=congrArg PGM.cards lQ0;rw[RL bQ _ _ rfl,e];rcases he with rfl|rfl<;>decide
 have ai:∀y∈g.I,1<=((AM bQ g.L).nd y).lv:=λy f=>by obtain⟨i,h,rfl⟩:=B y f;rw[E i h,(v i h).2.2.2.2.1];exact(aM2 _ _).1
 have ah:((AM bQ g.L).nd g.I[0]).lv=1:=by
  have h2:=v 0 o_;have e:g.L[0].Past=[]:=TS.2 λy f=>by have:=h2.1.there y f;simp[AM,PGM.I]at this
  rw[E 0 o_,h2.2.2.2.2.1,e];rfl
 have af:∀i(h:i<g.L.length),0<i->1<((AM bQ g.L).nd g.I[i]).lv:=λi h l=>by obtain⟨t,s,m,o0,l0,b0⟩:=v i h;have Q:=H 0 i o_ h;rw[E i h,b0,decide_eq_true ⟨l,o_⟩]at Q;obtain⟨y,f,_⟩:=CX.1 Q;have h2:=(aM2 (AM bQ (g.L.take i)) g.L[i].Past).2 y f;have sy:=s y (t.there y f);have h3:=ai y (U ▸ sy.r);rw[<-sy.lv]at h3;rw[E i h,l0];omega
 have K:∀i j(l:i<g.L.length)(c:j<g.L.length),i<j->g.L[i].By=g.L[j].By->g.L[i].Seq<g.L[j].Seq:=λi j l c al he=>by
  obtain⟨t,s,m,o0,l0,b0⟩:=v j c;have bk:i≠x:=by rintro rfl;rw[hR.1,hd j c al]at he;omega
  have Q:=H i j l c;rw[E j c,b0,decide_eq_true ⟨al,bk⟩]at Q;have Z:=aKU t.there Q;have sy:=s _ Z;have e:=(sy.o).trans (F i l);have:=t.seq _ Z Q (by rw[e];exact he);rw[e]at this;exact this
 have X:∀i(h:i<g.L.length),g.I[i].a=g.L[i].By/\g.I[i].b=g.L[i].Seq:=λi h=>by rw[E i h];exact⟨rfl,rfl⟩
 have hF:zH g.I=[]:=by unfold zH;rw[List.filter_eq_nil_iff];intro u hu hv;unfold B8 at hv;simp only[CX,zJ,EX,decide_eq_false_iff_not,beq_iff_eq]at hv;obtain⟨y,f,z,hz,aw,e1,Y,e3,_⟩:=hv;obtain⟨i,l,rfl⟩:=B y f;obtain⟨j,c,rfl⟩:=B z hz;rw[(X i l).1]at e1;rw[(X j c).1]at Y;rw[(X i l).2,(X j c).2]at e3;rcases aGJ i j with h|h|h;have:=K i j l c h o_;omega;subst h;exact aw rfl;have:=K j i c l h o_;omega
 have ak:∀j(h:j<g.L.length),x<j->aBF (AM bQ g.L) g.I[x] g.I[j]=true:=λj h c=>by
  unfold aBF;have e1:g.I[x]≠g.I[j]:=λe=>by have:=(C9 R).1 e;omega
  rw[H j x h C,H x j C h,F x C,F j h,U];have Y:Oh (AM bQ g.L).cards g.L[x] g.L[j]=true:=by unfold Oh U6;rw[hR.2.1,hR.2.2,hd j h c];rcases ap with rfl|rfl<;>simp
  simp[e1,Y];omega
 have bj:∀j(h:j<g.L.length),j<=x->aBF (AM bQ g.L) g.I[x] g.I[j]=false:=λj h c=>by
  unfold aBF;rw[H j x h C];rcases eD j x with h2|h2;have e:decide (j<x/\j≠x)=true:=decide_eq_true ⟨h2,o_⟩;rw[e];simp;obtain rfl:j=x:=o_;simp
 have bi:∀j(h:j<g.L.length),jM ((AM bQ g.L).nd g.I[j]).o=true->x<=j:=λj h c=>by rcases eD j x with h2|h2;rw[F j h,hk j h2]at c;exact absurd c d_;exact h2
 have bh:jM ((AM bQ g.L).nd g.I[x]).o=true:=by rw[F x C];unfold jM;rw[hR.2.1];rfl
 have bs:byO ((AM bQ g.L).nd g.I[0]).o=some 1:=by rw[F 0 o_];exact h1
 have bt:g.I[x].a=1:=(X x C).1.trans hR.1;have bu:∀j(h:j<g.L.length),x<j->g.I[j].a=d:=λj h c=>(X j h).1.trans (hd j h c);clear v O ai K X hN hR hk h1;generalize AM bQ g.L=p at *
 generalize AM bQ k.L=S at *
 have A:∀y,y∈eO p g.I↔y∈g.I:=λy=>(mE p g.I).mem_iff;have bc:(eO p g.I).Nodup:=(mE p g.I).nodup_iff.2 R;have ba:=U4 p g.I;have bb:eO p (eO p g.I)=eO p g.I:=aNs (mE p g.I);have ad:=aM1 (g:=p) R be az;have aq:kW p g.I=mW p (sU p (eO p g.I) []) (eO p g.I):=by unfold kW;rw[hF]
 have bd:(eO p g.I).length=g.L.length:=by rw[aDM];exact bm
 generalize eO p g.I=row at *
 have bn:∃r,row=g.I[0]::r:=by
  cases row with
  |nil=>simp at bd;omega| cons z r=>
   obtain⟨i,l,rfl⟩:=B z ((A z).1 (.head _));rcases JX i with rfl|hp;exact⟨r,rfl⟩;have h2:g.I[0]∈r:=by rcases cS.1 ((A g.I[0]).2 (eQ _)) with e|e;have:=(C9 R).1 e;omega;exact e
   have h3:=(H5.1 ba).1 _ h2;have h4:P0 p g.I[0] g.I[i]=true:=by unfold P0 Su;rw[U,if_pos (eQ _),if_pos (eQ _),ah];simp[af i l hp]
   rw[h4]at h3;exact absurd h3 d_
 obtain⟨r0,aa⟩:=bn;obtain⟨sR,sK⟩:=aM3 (g:=p) (row:=row) (by rw[bb];exact aa) bs;have bp:∀y∈row,(λy=>decide (y∈k.I)) y=true->∀z,z∈([]:D_)\/z∈row->oH p z y=true->(λy=>decide (y∈k.I)) z=true:=by intro y f hD z hz Q;obtain⟨i,l,rfl⟩:=B y ((A y).1 f);obtain⟨j,c,rfl⟩:=B z ((A z).1 (hz.resolve_left k_));rw[H j i c l]at Q;have h2:=(G i l).1 (of_decide_eq_true hD);have h3:=of_decide_eq_true Q;exact decide_eq_true ((G j c).2 o_)
 have av:mW p [] (eO p k.I)=mW S [] (eO S k.I):=by have hs:∀y∈k.I,Same p S y:=λy f=>(ax y (by rw[ac];exact f)).symm;rw[aNl hs,aMw bq.symm λy f=>hs y ((mE S k.I).mem_iff.1 f)]
 have bv:g.I[x]∈mW p [] row:=by
  have e:=aJf (g:=p) (V:=[]) (D:=λy=>decide (y∈k.I)) row [] bp;rw[ad]at e;have h2:g.I[x]∈(mW p [] row).filter λy=>decide (y∈k.I):=by unfold mW;rw[e];have:=hG g.I[x] ((G x C).2 (cN _));rw[<-av]at this;exact this
  exact(aBD.1 h2).1
 have ao:∀y∈row,y∈sU p row []↔y∉k.I:=by
  obtain⟨m,Z⟩:∃m,row.length=m+1:=⟨row.length-1,o_⟩
  unfold sU;rw[Z,uL];dsimp only;have bf:=bc.filter λy=>jM (p.nd y).o;have aj:∀y,y∈row.filter (λy=>jM (p.nd y).o)↔y∈row/\jM (p.nd y).o=true:=λy=>aBD;have bg:(row.filter λy=>jM (p.nd y).o).filter (λy=>!decide (y∈([]:D_)))=row.filter λy=>jM (p.nd y).o:=Gm.2 k_;rw[bg];generalize(row.filter λy=>jM (p.nd y).o)=left at *
  have ar:g.I[x]∈left:=(aj _).2 ⟨(A _).2 (eQ _),bh⟩;obtain⟨r,T,er⟩:=List.mem_iff_getElem.1 ar;have P:∀j(h:j<left.length),j≠r->∃(q:Nat)(M:q<g.L.length),left[j]=g.I[q]/\x<q:=λj h c=>by
   have h2:=(aj left[j]).1 (eQ h);obtain⟨q,M,e⟩:=B _ ((A _).1 h2.1);rw[e]at h2;have h3:=bi q M h2.2;refine⟨q,M,e,?_⟩;rcases eD x q with h4|h4;exact h4;obtain rfl:q=x:=o_;exact absurd ((C9 bf).1 (e.trans er.symm)) c
  have bo:yY p row (aBt p row) left=(r:Int):=aNI T (λj h c=>by
   obtain⟨q,M,e,J⟩:=P j h c;refine CX.2 ⟨g.I[x],ar,?_⟩;unfold B7;rw[e];have e1:g.I[q]≠g.I[x]:=λe=>by have:=(C9 R).1 e;omega
   rw[decide_eq_false e1,sF,mF]
   exact CX.2 ⟨g.I[q],(A _).2 (eQ _),by rw[ak q M J];simp⟩) (λj h c=>by
   obtain⟨q,M,e,J⟩:=P j h c;rw[er,e,bt,bu q M J,sR];have:=sK d o_ (ay d ap)
   omega)
  rw [if_neg (λe=>by rw[e]at T;simp at T),bo,show((r:Int).toNat)=r from rfl,show left.getD r default=g.I[x] by rw[<-er];simp[rH,T],if_pos bv];have hV:∀y,y∈Mb p row g.I[x] (left.eraseIdx r) []↔y∈row/\y∉k.I:=by
   intro y;unfold Mb;rw[Rd (p:=λy=>aBF p g.I[x] y||(decide (y∈left.eraseIdx r)&&B7 p row g.I[x] y))];simp only[pP,false_or];refine and_congr_right λf=>?_;obtain⟨i,l,rfl⟩:=B y ((A y).1 f);rw[G i l];rcases eD x i with h|h;rw[ak i l h];simp;omega;rw[bj i l h];have:g.I[i]∉left.eraseIdx r:=λZ=>by obtain⟨j,c,W,e⟩:=List.mem_eraseIdx_iff_getElem.1 Z;obtain⟨q,M,Y,J⟩:=P j c W;rw[Y]at e;have:=(C9 R).1 e;omega
   simp[this];omega
  have ae:(left.eraseIdx r).filter (λy=>!decide (y∈Mb p row g.I[x] (left.eraseIdx r) []))=[]:=List.filter_eq_nil_iff.2 λy f=>by
   obtain⟨j,c,W,e⟩:=List.mem_eraseIdx_iff_getElem.1 f;obtain⟨q,M,Y,J⟩:=P j c W;rw[Y]at e;have:y∈Mb p row g.I[x] (left.eraseIdx r) []:=by rw[hV,<-e];exact⟨(A _).2 (eQ _),λh=>by have:=(G q M).1 h;omega⟩
   simp[this]
  have an:uL p row (aBt p row) m (Mb p row g.I[x] (left.eraseIdx r) []) (left.eraseIdx r)=Mb p row g.I[x] (left.eraseIdx r) []:=by
   cases m with
   |zero=>rfl|succ m=>rw[uL];dsimp only;rw[if_pos ae]
  rw[an];intro y f;rw[hV];exact⟨λh=>h.2,λh=>⟨f,h⟩⟩
 have am:kW p g.I=mW S [] (eO S k.I):=by rw[aq,<-av,<-ad];unfold mW;rw[aKs];congr 1;refine List.filter_congr λy f=>?_;have:=ao y f;by_cases h:y∈k.I;simp[h,this];simp[h,this]
 intro i l;rw[am,decide_eq_decide,<-G i o_];exact⟨λh=>(mE S k.I).mem_iff.1 (Ac h).1,λh=>hG _ h⟩
def aJb(d:Int):Nat->Option GM|0=>some lG4|k+1=>(aJb d k).bind λg=>fBh g (opD d 4 0 0) (3+k)
def aPz(d:Int)(k:Nat):Option GM:=(aJb d k).bind λg=>fBh g (opD 1 3 d 0) (3+k)
def aNR(d:Int)(k:Nat):Bool:=match aPz d k with|none=>false| some g=>(List.range (5+k)).all (λj=>g.Up.getD j []==upC (4+k) j)&&((List.range (4+k)).all λj=>!jM (g.L.getD j default))&&byO (g.L.getD 0 default)==some 1 &&
   ((g.L.getD (4+k) default).By==1&&(g.L.getD (4+k) default).Kind==3&&(g.L.getD (4+k) default).Device==d)&&g.I.all λy=>decide (y∈mW (pF g.L) [] (aJL (pF g.L) g.I))
def aOD:((List.range 2).all λi=>(List.range 4).all λk=>aNR (2+(i:Int)) k)=true:=s_
def aMr{g a:GM}{o:OpM}{u:Nat}(h:fBh g o u=some a):a.L.length=g.L.length+1:=by unfold fBh aOy at h;dsimp only at h;split at h;rw[<-Option.some.inj h];simp;simp at h
structure Bes(d:Int)(A:Nat)(H:Nat->GM)(gR:GM):Prop where
 g0:H 0=lG4
 st:∀s,s<A->bhM (H s) (opD d 4 0 0) [3+s]=H (s+1)
 len:∀s,s<=A->(H s).L.length=4+s
 re:∀s,s<=A->Reach bQ (H s)
 r:bhM (H A) (opD 1 3 d 0) [3+A]=gR
 rr:Reach bQ gR
 rl:gR.L.length=5+A
 up:aHf (4+A) gR
 k:∀j,j<4+A->jM (gR.L.getD j default)=false
 b:byO (gR.L.getD 0 default)=some 1
 x:(gR.L.getD (4+A) default).By=1/\(gR.L.getD (4+A) default).Kind=3/\(gR.L.getD (4+A) default).Device=d
 g:∀y∈gR.I,y∈mW (AM bQ gR.L) [] (eO (AM bQ gR.L) gR.I)
def aOE{d:Int}{A:Nat}(E:1<=d/\d<=3)(h:aNR d A=true):∃H a,Bes d A H a:=by
 have o:mZ d:=⟨o_,o_⟩
 have z:mZ 0:=⟨d_,d_⟩
 have v:mZ 1:=⟨d_,d_⟩
 have u:mZ 3:=⟨d_,d_⟩
 have r:mZ 4:=⟨d_,d_⟩
 unfold aNR at h;split at h;simp at h;rename_i a e;unfold aPz at e;rw[Option.bind_eq_some_iff]at e;obtain⟨p,q,m⟩:=e;have y:∀s t,s+t=A->∃g,aJb d s=some g:=by
  intro s t
  induction t generalizing s with
  |zero=>intro h;obtain rfl:s=A:=h;exact⟨p,q⟩
  |succ t ih=>
   intro h;obtain⟨g,i⟩:=ih (s+1) o_;rw[aJb,Option.bind_eq_some_iff]at i;exact⟨_,i.choose_spec.1⟩
 have B:∀s,s<=A->aJb d s=some ((aJb d s).getD default):=λs h=>by obtain⟨g,i⟩:=y s (A-s) o_;rw[i];rfl
 have nG:∀s,s<A->fBh ((aJb d s).getD default) (opD d 4 0 0) (3+s)=some ((aJb d (s+1)).getD default):=λs h=>by have e:=B (s+1) o_;rw[aJb,Option.bind_eq_some_iff]at e;obtain⟨g,h1,h2⟩:=e;rw[h1];exact h2
 have l:(aJb d A).getD default=p:=by rw[q];rfl
 have c:∀s,s<=A->((aJb d s).getD default).L.length=4+s/\Reach bQ ((aJb d s).getD default):=by
  intro s
  induction s with
  |zero=>intro _;exact⟨rfl,lR4⟩|succ s ih=>
   intro h;obtain⟨x,k⟩:=ih o_;have f:=nG s o_;exact⟨by rw[aMr f,x];omega,by rw[<-aIz f];exact Fr k k.hyp6.1 (aJ5 o r z z) _ (GR k _)⟩
 have b:=(c A (cN _)).2;rw[l]at b;have n:Reach bQ a:=by rw[<-aIz m];exact Fr b b.hyp6.1 (aJ5 v u o z) _ (GR b _)
 have w:a.L.length=5+A:=by rw[aMr m,<-l,(c A (cN _)).1];omega
 simp only[zJ,aBE,uM,beq_iff_eq,EX,decide_eq_true_eq,<-aNL,<-aOL n]at h;obtain⟨⟨⟨⟨h1,h2⟩,h3⟩,⟨h4,h5⟩,h6⟩,C⟩:=h;exact⟨λs=>(aJb d s).getD default,a,rfl,λs h=>aIz (nG s h),λs h=>(c s h).1,λs h=>(c s h).2,by show bhM ((aJb d A).getD default) _ _=_;rw[l];exact aIz m,n,w,λj D=>h1 j o_,h2,h3,⟨h4,h5,h6⟩,C⟩
def bhA(g:GM)(o:OpM)(U:V_):GM:=(addM g (cM {o with Past:=yV g (zG g U),Seq:=Sx (zG g U) o.By,At:=Fe g (zG g U)})).1
def aNS{g:GM}(c:g.ok)(d:∀x∈g.I,x.b<=2147483647){o:OpM}(e:o.ok)(U:V_)(f:mZ (Fe g (zG g U))):OpM.ok {o with Past:=yV g (zG g U),Seq:=Sx (zG g U) o.By,At:=Fe g (zG g U)}:=by have h:=(e.seq (Sx (zG g U) o.By) (ZV _ _ λx a=>d x (Fg c.i _ x a))).at_ _ f;exact⟨h.ints,h.nums,h.epoch,h.of,⟨K8 c _,λx a=>c.is x (KF _ x a)⟩,h.path,h.body,h.refs,h.guards,h.boxes,h.hist⟩
def aMz (g:GM) (a:g.ok) (h:∀x∈g.I,x.b<=2147483647) (o:OpM) (k:o.ok) (j:0<=o.By) (u:Nat) (p:u<g.I.length) (e:mZ (Fe g (zG g [u]))):
 aA PQ G rN [.ag g.A,.ag o.A,.ls 1 [[iv u]]] [] λr T=>r=.ag (bhA g o [u]).A/\T=[]:=by
 apply aC Li;simp only[go_sem];refine aQ 1 (λi=>⟨0,[(2,.ls 1 [[iv u]]),(3,.ptr 0 0),(4,.ptr 1 0),(6,.ptr 2 0),(7,.own 3),(8,iv i)],[some (.box g.A),some (.box o.A),some (.box z5),some (.arr 3 (([g.I.getD u default].take i).map Id.A))]⟩) (λ_=>True) ?_ trivial ?_ ?_;simp only[go_sem,z5,uQ,uP];intro i C _;obtain rfl:i=0:=o_;have w:(g.I.map Id.A)[u]?=some (g.I.getD u default).A:=u_;generalize g.I.getD u default=x at *
 simp only[go_sem,z5,aP,p,w,Id.A_def,uQ,uP,QI,fG,(d_:1<=maxLen)]
 ·intro _;have B:=a.n;have l:=ZL (G:=G) g ([u].map λi=>g.I.getD i default) a (by rw[aP];simp);have d:=aNS a h k [u] e;have c:(zG g [u]).length<=100000:=by have:=Ou (g:=g) ([u].map λi=>g.I.getD i default);grind[List.length_map,zG]
  have t:=U9 (G:=G) g (zG g [u]) a c;have q:=aH7 (G:=G) g (zG g [u]) o.By c (λx m=>by have:=h x (Fg a.i _ x m);omega);have s:=aDT (G:=G) g (zG g [u]) a c;have f:=OX (G:=G) _ d j;have v:=So (G:=G) g (cM {o with Past:=yV g (zG g [u]),Seq:=Sx (zG g [u]) o.By,At:=Fe g (zG g [u])}) a (BM d);have cE:Fd g ([u].map λi=>g.I.getD i default)=zG g [u]:=rfl;unfold bhA;rw[cE]at l;generalize zG g [u]=X at *
  generalize yV g X=H at *
  generalize Sx X o.By=y at *
  generalize Fe g X=z at *
  clear h d e k;simp only[go_sem,z5];apply cX l;simp only[go_sem];apply cX t;simp only[go_sem];apply cX q;simp only[go_sem];apply cX s;simp only[go_sem];refine And.intro ?_ ?_
  all_goals (
   apply cX f
   simp only[go_sem]
   try refine And.intro ?_ ?_
   all_goals (
    apply cX v
    simp only[go_sem]))
structure BInv(d:Int)(A i:Nat)(gR g:GM):Prop where
 r:Reach bQ g
 c:aHf (4+A) g
 t:g.L.take (5+A)=gR.L
 n:5+A<=g.L.length/\g.L.length<=5+A+i
 d:∀j(h:j<g.L.length),4+A<j->g.L[j].By=d
def aFd(A:Nat)(g:GM):Nat:=if 5+A<g.L.length then g.L.length-1 else 3+A
def BInv.step{d:Int}{A i:Nat}{r g:GM}(h:BInv d A i r g){o:OpM}(u:o.ok)(v:o.By=d):BInv d A (i+1) r (bhA g o [aFd A g]):=by
 obtain⟨a,n,k,l,m⟩:=h;have f:=a.good rY;have B:=f.wf.i;have p:aFd A g<g.I.length:=by unfold aFd;split<;>omega
 have c:=aNS f.ok a.seqb u [aFd A g] (GR a _);have s:upC (4+A) g.L.length=[aFd A g]:=by unfold upC aFd;rcases eD (5+A) g.L.length with h|h;rw[if_neg o_,if_neg o_,if_pos h];rw[if_neg o_,if_pos o_,if_neg o_];congr 1;omega
 have t:zG g [aFd A g]=Fd g [g.I[aFd A g]]:=by unfold zG;simp[rH,p]
 unfold bhA;rw[t]at c⊢;have w:=a.add (BM c) (W6 (BM c));have x:=aMx f.wf (a.nd rY) o_ n p s (o:=cM {o with Past:=yV g (Fd g [g.I[aFd A g]]),Seq:=Sx (Fd g [g.I[aFd A g]]) o.By,At:=Fe g (Fd g [g.I[aFd A g]])}) rfl;have y:(cM {o with Past:=yV g (Fd g [g.I[aFd A g]]),Seq:=Sx (Fd g [g.I[aFd A g]]) o.By,At:=Fe g (Fd g [g.I[aFd A g]])}).By=d:=v;generalize cM {o with Past:=yV g (Fd g [g.I[aFd A g]]),Seq:=Sx (Fd g [g.I[aFd A g]]) o.By,At:=Fe g (Fd g [g.I[aFd A g]])}=q at *
 by_cases b:(dV g q).1=0;have e:(addM g q).1.L=g.L++[q]:=by rw[yE (Ff b) b]
 refine⟨w,x b,?_,?_,?_⟩;rw[e,Rf l.1];exact k;rw[e];simp;omega;rw[e];intro j z h4;rcases eD j g.L.length with h1|h1;rw[List.getElem_append_left h1];exact m j h1 h4;rw[List.getElem_append_right h1];simpa using y;have e:(addM g q).1=g:=by unfold addM;rw[if_pos b]
 rw[e];exact⟨a,n,k,⟨l.1,o_⟩,m⟩
def aOY(hK:GK G)(hA:AK G)(n a:Int)(M:mZ n)(P:mZ a)(l:B_)(hl:l.length<=2^63-1)(O:∀n∈l,mZ n)(A:Nat)(ai:A<4){d:Int}(hd:d=2\/d=3)(ei:2+pX n 2=d)(ea:pX a 4=(A:Int)){H:Nat->GM}{K:GM}(B:Bes d A H K):
 aA PQ G aF0 [iv n,iv a,rG l] [] λr T=>r=.v (.bool true)/\T=[]:=by
 have h2:=Dl (G:=G) n 2 M.1 M.2 d_ d_;have h4:=Dl (G:=G) a 4 P.1 P.2 d_ d_;rw[ea]at h4;have w0:IntKind.i64.wrap (2+pX n 2)=d:=by rw[ei];exact aJ o_ o_
 apply aC aIG;simp only[go_sem];apply cX h2;simp only[go_sem,w0];apply cX aIH;simp only[go_sem];apply cX h4;simp only[go_sem];have Q:∀g:GM,g.A.drop 5=[]:=λ_=>rfl;have q:∀s,s<=A->(H s).I.length=4+s:=λs h=>by rw[(B.re s h).hyp6.1.i,B.len s h]
 refine aQ A (λs=>⟨0,[(2,rG l),(7,iv d),(8,.ptr 0 0),(9,iv ((3+s:Nat):Int)),(10,iv ((A-s:Nat):Int))],[some (.box (H s).A)]⟩) (λ_=>True) ?_ trivial ?_ ?_;simp only[go_sem,B.g0];intro s hs _;have b:=aKI (G:=G) (B.re s o_) (b:=d) (k:=4) (d:=0) (m:=0) o_ o_ o_ o_ (3+s) (by rw[q s o_];omega) (B.st s hs);have c0:decide ((0:Int)<((A-s:Nat):Int))=true:=decide_eq_true o_;have ls:=B.len (s+1) o_;have w1:IntKind.i64.wrap ((((H (s+1)).L.length:Nat):Int)-1)=((3+(s+1):Nat):Int):=by rw[ls,aJ o_ o_];omega
 have w2:IntKind.i64.wrap (((A-s:Nat):Int)-1)=((A-(s+1):Nat):Int):=a_;simp only[go_sem,c0,gt_iff_lt];apply Sb [1] [0] (aB _) (args3:=[_,.ag (gD _ dK dK dK dK dK),_]) d_ k_ rfl rfl s9 rfl f_ b f_;simp only[go_sem,Q,w1,w2];intro _;have c0:decide ((0:Int)<((A-A:Nat):Int))=false:=decide_eq_false o_;have bR:=aKI (G:=G) (B.re A (cN _)) (b:=1) (k:=3) (d:=d) (m:=0) o_ o_ o_ o_ (3+A) (by rw[q A (cN _)];omega) B.r;have lA:=B.len A (cN _);simp only[go_sem,c0,gt_iff_lt,aP,lA];apply Sb [1] [0] (aB _) (args3:=[_,.ag (gD _ dK dK dK dK dK),_]) d_ k_ rfl rfl s9 rfl f_ bR f_;simp only[go_sem,Q];refine jG (λs=>∃(i:Nat)(g:GM),i<=5/\BInv d A i K g/\s=⟨0,[(8,.ptr 0 0),(11,iv ((4+A:Nat):Int))],[some (.box g.A)]⟩) ?_ ?_;rotate_left;rintro s ⟨i,g,u,f,rfl⟩;have D:=f.r;have y:=D.hyp6.1;have gd:=D.good rY;have aa:=D.ggood rY JP;have X:=D.nd rY;have M:=f.n;have w:∀j(h:j<g.L.length),j<5+A->g.L[j]=K.L.getD j default:=λj h N=>by rw[<-f.t,rH,List.getElem?_take_of_lt N,jN h];rfl
 have hF:=aLs D (x:=4+A) o_ f.c o_ B.rr (by rw[(o_:4+A+1=5+A)];exact f.t) f.d hd (by rw[w (4+A) o_ o_];exact B.x) (λj N=>by rw[w j o_ o_];exact B.k j N) (by rw[w 0 o_ o_];exact B.b) B.g;have U:∀x∈g.I,x∈(AM bQ g.L).I:=λx hx=>by rw[gd.sim.i];exact hx
 have ah:(kW (AM bQ g.L) g.I).length<=maxLen:=by have h:=(Aa (g:=AM bQ g.L) (V:=sU (AM bQ g.L) (eO (AM bQ g.L) g.I) (zH g.I)) (eO (AM bQ g.L) g.I) []).length_le;rw[dM,aDM]at h;have h2:(kW (AM bQ g.L) g.I).length<=g.I.length:=h;have:=y.i;unfold maxLen;omega
 have hH:=λx=>uJ (G:=G) (kW (AM bQ g.L) g.I) x ah;have ad:=aBl hK (aIS hA);have cL:decide ((g.L.length:Int)<=((4+A:Nat):Int))=false:=decide_eq_false o_;have Y:=y.i;have af:=λ(T:aK)(p:Nat×Nat×Nat)(h:GAt T p (AM bQ g.L))=>Vj hA h aa U X;simp only[go_sem];apply cX (VZ g y);simp only[go_sem];apply kM (RS hK D);generalize kW (AM bQ g.L) g.I=C at *
 generalize AM bQ g.L=p at *
 simp only[go_sem,TG,MG,aP,cL];apply cI (af _ (1,2,3) ⟨rfl,rfl,rfl,d_,d_,d_⟩);simp only[go_sem];refine aQ g.L.length (λi=>⟨0,[(8,.ptr 0 0),(11,iv ((4+A:Nat):Int)),(16,ids C),(17,iv i)],[some (.box g.A)]⟩) (λ_=>True) ?_ trivial ?_ ?_;simp only[go_sem];intro i O _;have E:=fQ i o_;have g0:(g.I.map Id.A)[i]?=some (g.I[i]'o_).A:=aO _ g.I i o_;have hf:=hF i o_;have cx:decide ((i:Int)<=((4+A:Nat):Int))=decide (i<=4+A):=decide_eq_decide.2 o_;have hh:=hH (g.I[i]'o_);rw[hf]at hh;simp only[go_sem,aP,aT O,g0,Y,O];apply cX hh;simp only[go_sem,cx,bne_self_eq_false,E];intro _;simp only[go_sem,aP,aS (bP _)];apply cX ad;simp only[go_sem];refine cO (λm s=>∃(i:Nat)(g:GM),m=5-i/\i<=5/\BInv d A i K g/\s=⟨0,[(2,rG l),(7,iv d),(8,.ptr 0 0),(9,iv ((3+A:Nat):Int)),(11,iv ((4+A:Nat):Int)),(12,iv i)],[some (.box g.A)]⟩) 5 ⟨0,K,rfl,o_,⟨B.rr,B.up,sG (by rw[B.rl];omega),by rw[B.rl];omega,λj h N=>absurd h (by rw[B.rl];omega)⟩,f_⟩ ?_;rintro m s ⟨i,g,hm,u,f,rfl⟩;obtain⟨y,ac,F,ae,ab,J⟩:=f.r.hyp6;have b1:decide ((i:Int)<(l.length:Int))=decide (i<l.length):=k_;have b2:decide ((i:Int)<5)=decide (i<5):=decide_eq_decide.2 o_;have E:=fQ i o_;by_cases Z:i<l.length/\i<5;rotate_left;rcases eD i l.length with h1|h1;have c1:decide (i<l.length)=true:=decide_eq_true h1;have c2:decide (i<5)=false:=decide_eq_false o_;simp only[go_sem,aP,b1,b2,c1,c2];exact⟨i,g,u,f,rfl⟩;have c1:decide (i<l.length)=false:=decide_eq_false o_;simp only[go_sem,aP,b1,c1,undef];exact⟨i,g,u,f,rfl⟩;obtain⟨h1,h2⟩:=Z;have c1:decide (i<l.length)=true:=decide_eq_true h1;have c2:decide (i<5)=true:=decide_eq_true h2;have g0:(l.map λn=>[iv n])[i]?=some [iv l[i]]:=aO _ l i h1;have w4:IntKind.i64.wrap (4+d)=4+d:=aJ o_ o_;have hN:=aEw (G:=G) g y ac F ae ab J (4+d) l[i] ⟨o_,o_⟩ (O _ (eQ h1));simp only[go_sem,aP,b1,b2,c1,c2,h1,g0,w4];refine And.intro ?_ ?_
 all_goals (
  apply Jo hN
  rintro r T' ⟨⟨o,ho,W,rfl⟩,rfl⟩
  simp only[go_sem]
  by_cases z:o.By=d
  rotate_left
  have R:(o.By !=d)=true:=bne_iff_ne.2 z
  simp only[go_sem,R,E]
  exact⟨5-(i+1),o_,i+1,g,rfl,o_,⟨f.r,f.c,f.t,⟨f.n.1,by have:=f.n.2;omega⟩,f.d⟩,rfl⟩
  have R:(o.By !=d)=false:=by simp[z]
  have nG:=f.step ho z
  have M:=f.n
  have P:aFd A g<g.I.length:=by rw[y.i];unfold aFd;split<;>omega
  have S:=aMz (G:=G) g y F o ho W (aFd A g) P (GR f.r _)
  have w5:IntKind.i64.wrap (((4+A:Nat):Int)+1)=((5+A:Nat):Int):=a_
  have b5:decide (((5+A:Nat):Int)<(g.L.length:Int))=decide (5+A<g.L.length):=decide_eq_decide.2 o_
  have w6:IntKind.i64.wrap ((g.L.length:Int)-1)=((g.L.length-1:Nat):Int):=a_
  by_cases h5:5+A<g.L.length
  have e:aFd A g=g.L.length-1:=if_pos h5
  have c5:decide (5+A<g.L.length)=true:=decide_eq_true h5
  rw[e]at S nG
  simp only[go_sem,R,gt_iff_lt,aP,w5,b5,c5,w6]
  apply Sb [2] [0] (aB _) (args3:=[_,_,_]) d_ k_ rfl rfl f_ rfl f_ S f_
  simp only[go_sem,Q,E]
  exact⟨5-(i+1),o_,i+1,_,rfl,o_,nG,rfl⟩
  have e:aFd A g=3+A:=if_neg h5
  have c5:decide (5+A<g.L.length)=false:=decide_eq_false h5
  rw[e]at S nG
  simp only[go_sem,R,gt_iff_lt,aP,w5,b5,c5]
  apply Sb [2] [0] (aB _) (args3:=[_,_,_]) d_ k_ rfl rfl f_ rfl f_ S f_
  simp only[go_sem,Q,E]
  exact⟨5-(i+1),o_,i+1,_,rfl,o_,nG,rfl⟩)
def aLv(j:GK G)(k:AK G)(n a:Int)(d:mZ n)(g:mZ a)(l:B_)(e:l.length<=2^63-1)(f:∀n∈l,mZ n):
 aA PQ G aF0 [iv n,iv a,rG l] [] λr T=>r=.v (.bool true)/\T=[]:=by
 obtain⟨i,c,m⟩:∃i:Nat,i<2/\pX n 2=(i:Int):=by have:=BJ n 2 d_;exact⟨(pX n 2).toNat,o_,o_⟩
 obtain⟨A,b,ea⟩:∃A:Nat,A<4/\pX a 4=(A:Int):=by have:=BJ a 4 d_;exact⟨(pX a 4).toNat,o_,o_⟩
 have h:=aBE.1 (aBE.1 aOD i (uM.2 c)) A (uM.2 b);obtain⟨H,o,B⟩:=aOE o_ h;exact aOY j k n a d g l e f A b o_ (by rw[m]) ea B
end Hud
