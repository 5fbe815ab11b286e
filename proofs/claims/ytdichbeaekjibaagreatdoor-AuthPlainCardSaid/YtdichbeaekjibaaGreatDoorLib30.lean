import Derived.Test.YtdichbeaekjibaaGreatDoorLib29
set_option linter.all false
set_option maxHeartbeats 40000000
namespace Hud
open Go
def bfM(g:GM)(x y:Id):Bool:=decide (x∈g.I)&&(decide (y∈g.I)&&(g.In.getD (aW g.I y).toNat []).getD (aW g.I x).toNat false)
def aN7{p:PGM}{g:GM}(s:Sim p g)(d:g.L.length<=200)(x y:Id):oH p x y=bfM g x y:=by
 have h:p.I.length=g.L.length:=by rw[PGM.I,<-s.l,aP,aP]
 by_cases mx:x∈p.I;by_cases a:y∈p.I;obtain⟨j,c,f,_⟩:=dG mx;obtain⟨k,b,e,_⟩:=dG a;rw[aOr s d c b o_ o_ mx a];rw[s.i]at mx a c b;unfold bfM aW qX inG;simp[mx,a,c,b];unfold oH bfM;rw[<-s.i];simp[a];unfold oH bfM;rw[<-s.i];simp[mx]
def RU.trans{a:List V_}{up:V_}{i k:Nat}(h:RU a up i)(h2:RU a (a.getD i []) k):RU a up k:=by
 induction h2 with
 |base h2=>exact .step h h2|step _ h3 ih=>exact .step ih h3
section
variable{g:GM}
def aH9(b:g.I.length=g.L.length){x:Id}(a:x∈g.I):(aW g.I x).toNat<g.L.length:=by have h1:=(Cz g.I x).2 a;have h2:=(AZ g.I x).1;omega
def aN8(w:g.wf){x y z:Id}(h1:bfM g x y=true)(h2:bfM g y z=true):bfM g x z=true:=by
 unfold bfM at *
 simp only[zJ,decide_eq_true_eq]at *
 refine⟨h1.1,h2.2.1,?_⟩;have a:=(w.past _ (aH9 w.i h1.2.1) _).1 h1.2.2;have b:=(w.past _ (aH9 w.i h2.2.1) _).1 h2.2.2;exact(w.past _ (aH9 w.i h2.2.1) _).2 (b.trans a)
def aGT(a:g.I.Nodup){i:Nat}(h:i<g.I.length):aW g.I g.I[i]=i:=by obtain⟨j,e,b,_,h2⟩:=dG (eQ h);have:j=i:=(C9 a).1 h2;unfold aW qX;rw[e,this]
def aJJ{x:Id}(b:x∈g.I):g.I.getD (aW g.I x).toNat default=x:=by obtain⟨j,e,a,_,h2⟩:=dG b;unfold aW qX;rw[e];simp[rH,a,h2]
def aK8{I:D_}{y:Id}:∀(l out:D_),y∈l.foldl (vL I) out↔y∈out\/(y∈l/\y∈I)|[],out=>by simp|z::l,out=>by rw[CW,aK8 l];unfold vL;split;rename_i a;simp only[zJ,decide_eq_true_eq]at a;have:=(Cz I z).1 a.1;grind;rename_i a;simp only[zJ,decide_eq_true_eq,EX,decide_eq_false_iff_not]at a;have:=Cz I z;grind
def aLP(d:g.I.length=g.L.length)(c:g.I.Nodup){l:D_}{y:Id}:y∈Fd g l↔(y∈l/\y∈g.I)\/∃x∈l,bfM g y x=true:=by
 unfold Fd rV;rw[(dQ _).mem_iff,aK8,(dQ _).mem_iff,or_comm];apply or_congr .rfl;unfold Le B3 bfM;simp only[dF,aBD,uM,CX,zJ,decide_eq_true_eq,Cz];constructor;rintro⟨i,⟨h1,x,a,h2,h3⟩,rfl⟩;have b:i<g.I.length:=o_;have e:g.I.getD i default=g.I[i]:=by simp[rH,b]
 rw[e,aGT c b];exact⟨x,a,eQ b,h2,h3⟩;rintro⟨x,a,h1,h2,h3⟩;exact⟨_,⟨aH9 d h1,x,a,h2,h3⟩,aJJ h1⟩
end
def aJf {g:PGM} {V:D_} {D:Id->Bool}:∀(r out:D_),(∀y∈r,D y=true->∀z,z∈out\/z∈r->oH g z y=true->D z=true) ->
 (r.foldl (iS g V) out).filter D=(r.filter D).foldl (iS g V) (out.filter D)
 |[],_,_=>rfl| y::r,out,h=>by
  have i:∀z,z∈iS g V out y->z∈out\/z=y:=λz a=>by unfold iS at a;grind
  rw[CW,aJf r _ λu d b z a c=>h u (.tail _ d) b z (by
   rcases a with a|a;rcases i z a with a|rfl;exact .inl a;exact .inr (.head _)
   exact .inr (.tail _ a)) c]
  have f:(iS g V out y).filter D=if D y=true then iS g V (out.filter D) y else out.filter D:=by
   split;rename_i b;have e:Lo g (out.filter D) y=Lo g out y:=by
    unfold Lo;rw[List.filter_filter];congr 1;refine List.filter_congr λz a=>?_
    cases c:oH g z y with
    |false=>rfl|true=>simp[h y (.head _) b z (.inl a) c]
   unfold iS;rw[e];split;rw[Mf];simp[b];rfl;rename_i b;unfold iS;split;rw[Mf];simp[b];rfl
  rw[f,List.filter_cons];split;rw[CW];rfl
def aM1{g:PGM}{S O:D_}(a:S.Nodup)(b:O.Nodup)(h:∀x∈O,x∈S):(eO g S).filter (λx=>decide (x∈O))=eO g O:=by refine aET ?_ ((U4 g S).filter _) (U4 g O);refine(aBH (((mE g S).nodup_iff.2 a).filter _) ((mE g O).nodup_iff.2 b)).2 λx=>?_;rw[aBD,(mE g S).mem_iff,(mE g O).mem_iff];grind
structure PGM.wf(g:PGM):Prop where
 nd:g.I.Nodup
 back:∀x∈g.I,∀k,qK (g.nd x).W k=true->k<g.at x
def aES{g:PGM}{x:Id}(h:x∈g.I):g.at x<g.nodes.length/\g.I[g.at x]?=some x:=by
 obtain⟨j,e,a,_,h2⟩:=dG h;have b:g.at x=j:=by unfold PGM.at;rw[e];rfl
 rw[b];refine⟨by simpa[PGM.I]using a,?_⟩;rw[jN a,h2]
def aOV{g:PGM}{x y:Id}(d:x∈g.I)(c:y∈g.I)(h:g.at x=g.at y):x=y:=by have a:=(aES d).2;have b:=(aES c).2;rw[h,b]at a;exact(Option.some.inj a).symm
def aOW{g:PGM}(w:g.wf){k:Nat}(h:k<g.nodes.length):∃y∈g.I,g.at y=k/\g.nd y=g.nodes.getD k XD:=by
 have c:k<g.I.length:=by simpa[PGM.I]using h
 have m:=eQ c;have a:=(aES m).2;have e:g.at g.I[k]=k:=by
  have b:g.at g.I[k]<g.I.length:=by have:=(aES m).1;simpa[PGM.I]using this
  rw[jN b]at a;exact(C9 w.nd).1 (Option.some.inj a)
 exact⟨_,m,e,by unfold PGM.nd;rw[e]⟩
def aHe{g:PGM}{x y:Id}(b:x∈g.I)(a:y∈g.I):oH g x y=qK (g.nd y).W (g.at x):=by unfold oH;simp[b,a]
def aNh{W V:V_}(a:Hu W)(b:Hu V)(k:Nat):qK (Cu W V) k=(qK W k&&qK V k):=by unfold qK;rw[aB2 W V (by rw[a.1,b.1]),Nat.testBit_and]
def aOu(a:List ND)(o:OpM)(W:V_)(n j:Nat)(b:j<n)(h1:(a.getD j XD).o.By=o.By)(h2:qK W j=true):(a.getD j XD).o.Seq<=(BY a o W n).1:=by
 induction n with
 |zero=>omega|succ n ih=>
  unfold BY;grind
def aNi(a:List ND)(o:OpM)(W:V_)(n:Nat):0<=(BY a o W n).1:=by
 induction n with
 |zero=>simp[BY]|succ n ih=>unfold BY;grind
def aOv(a:List ND)(o:OpM)(W:V_)(n:Nat)(h:(BY a o W n).2=true):∃j,j<n/\(a.getD j XD).o.By=o.By/\qK W j=true/\(a.getD j XD).o.Seq=o.Seq-1:=by
 induction n with
 |zero=>simp[BY]at h|succ n ih=>
  unfold BY at h;grind
def anc(g:PGM)(o:OpM)(y:Id):Bool:=o.Past.any λx=>decide (y=x)||oH g y x
def aJK{g:PGM}(c:g.ok){o:OpM}(b:∀x∈o.Past,x∈g.I){y:Id}(d:y∈g.I):qK (BF g o) (g.at y)=anc g o y:=by have e:=c.n;rw[BF,ZM (JC c _) (JB g _),CT,Ec,aDY c,aDX g c.n o.Past λx a=>by have:=(aES (b x a)).1;omega];unfold anc;rw[CX];constructor;rintro(⟨x,a,h⟩|⟨x,a,h⟩);exact⟨x,a,by simp[aHe d (b x a),h]⟩;exact⟨x,a,by simp[aOV (b x a) d h]⟩;rintro⟨x,a,h⟩;rcases Ec _ _ ▸ h with h|h;exact .inr ⟨x,a,by rw[of_decide_eq_true h]⟩;exact .inl ⟨x,a,by rw[<-aHe d (b x a)];exact h⟩
structure Took(g:PGM)(o:OpM):Prop where
 check:vF o=0
 new:C7 o∉g.I
 full:g.nodes.length<200
 card:(gM g.cards o.By).2=true
 sig:((o.By==(gM g.cards o.By).1.Device)&&BW (gM g.cards o.By).1.Sign o.B o.SR o.SS)=true
 kind:o.Kind=1->g.nodes=[]
 there:∀x∈o.Past,x∈g.I
 order:∀x∈o.Past,∀y∈o.Past,oH g y x=false
 late:G0 g o.Past<=o.At
 seq:∀y∈g.I,anc g o y=true->(g.nd y).o.By=o.By->(g.nd y).o.Seq<o.Seq
 pos:0<o.Seq
 pre:1<o.Seq->∃y∈g.I,anc g o y=true/\(g.nd y).o.By=o.By/\(g.nd y).o.Seq=o.Seq-1
def aMn{g:PGM}(d:g.ok)(w:g.wf){o:OpM}(h:(aCW g o).2=0):Took g o/\(aCW g o).1=⟨g.cards,g.nodes++[⟨o,C7 o,BF g o,Fa g o.Past⟩]⟩:=by
 unfold aCW at h⊢;by_cases c1:vF o=0;rotate_left;rw[if_pos c1]at h;exact absurd h c1;rw[if_neg (by simp[c1])]at h⊢;unfold Oa at h⊢;split at h;exact absurd h k_;rename_i c2;split at h;exact absurd h k_;rename_i c3;split at h;exact absurd h k_;rename_i c4;split at h;exact absurd h k_;rename_i c5;split at h;exact absurd h k_;rename_i c6;split at h;exact absurd h k_;rename_i t;rw[if_neg c2,if_neg c3,if_neg c4,if_neg c5,if_neg c6,if_neg t];unfold Q8 at h⊢;split at h;exact absurd h k_;rename_i l;split at h;exact absurd h k_;rename_i i;rw[if_neg l,if_neg i];refine⟨?_,rfl⟩;have u:=d.n;have c:∀x∈o.Past,x∈g.I:=λx b=>by have e:CQ g o=[]:=Ae o_;unfold CQ at e;have:=List.filter_eq_nil_iff.1 e x b;simpa using this
 have k:∀x∈o.Past,g.at x<256:=λx b=>by have:=(aES (c x b)).1;omega
 simp only[EX,Bool.not_eq_false,zJ,beq_iff_eq,decide_eq_false_iff_not]at l;unfold MQ at i;simp only[Ec,zJ,decide_eq_true_eq,EX,not_or,not_and,Bool.not_eq_false]at i;have m:=aNi g.nodes o (BF g o) g.nodes.length;refine⟨c1,c2,o_,by simpa using c4,by simpa using c5,?_,c,?_,o_,?_,o_,?_⟩;intro q;apply Ae;rw[q]at c6;simp at c6;simp[c6];intro x b y a
 cases f:oH g y x with
 |false=>rfl|true=>
  rw[aHe (c y a) (c x b)]at f;have h1:=(aDY d o.Past (g.at y)).2 ⟨x,b,f⟩;have h2:=(aDX g d.n o.Past k (g.at y)).2 ⟨y,a,rfl⟩;have h3:=aNh (JB g o.Past) (JC d o.Past) (g.at y);rw[l.1,ZN,h1,h2]at h3;exact absurd h3 d_
 intro y a s f;have:=aOu g.nodes o (BF g o) g.nodes.length (g.at y) (aES a).1 f (by rw[aJK d c a];exact s);have e:(g.nd y).o.Seq=(g.nodes.getD (g.at y) XD).o.Seq:=rfl;omega;intro p;obtain⟨j,r,h1,h2,h3⟩:=aOv _ _ _ _ (i.2 p);obtain⟨y,a,rfl,e⟩:=aOW w r;rw[aJK d c a]at h2;rw[<-e]at h1 h3;exact⟨y,a,h2,h1,h3⟩
structure Same(p q:PGM)(x:Id):Prop where
 l:x∈p.I
 r:x∈q.I
 o:(p.nd x).o=(q.nd x).o
 lv:(p.nd x).lv=(q.nd x).lv
 b:∀y,oH p y x=oH q y x
def Same.symm{p q:PGM}{x:Id}(h:Same p q x):Same q p x:=⟨h.r,h.l,h.o.symm,h.lv.symm,λy=>(h.b y).symm⟩
def Same.trans{p q r:PGM}{x:Id}(h:Same p q x)(k:Same q r x):Same p r x:=⟨h.l,k.r,h.o.trans k.o,h.lv.trans k.lv,λy=>(h.b y).trans (k.b y)⟩
def aOw{g:PGM}{x y:Id}(h:oH g x y=true):x∈g.I/\y∈g.I:=by unfold oH at h;simp only[zJ,decide_eq_true_eq]at h;exact⟨h.1,h.2.1⟩
def aKU{g:PGM}{o:OpM}(b:∀x∈o.Past,x∈g.I){y:Id}(h:anc g o y=true):y∈g.I:=by unfold anc at h;obtain⟨x,a,h⟩:=CX.1 h;rcases Ec _ _ ▸ h with h|h;rw[of_decide_eq_true h];exact b x a;exact(aOw h).1
def aMp {g:PGM} (q:g.ok) (w:g.wf) {o:OpM} (t:Took g o) {d:PGM} (e:d=⟨g.cards,g.nodes++[⟨o,C7 o,BF g o,Fa g o.Past⟩]⟩):
 d.wf/\d.I=g.I++[C7 o]/\(∀x∈g.I,Same g d x)/\(d.nd (C7 o)).o=o/\(d.nd (C7 o)).lv=Fa g o.Past/\∀y,oH d y (C7 o)=anc g o y:=by
 have hI:d.I=g.I++[C7 o]:=by subst e;simp[PGM.I]
 have z:g.I.length=g.nodes.length:=by simp[PGM.I]
 have l:d.I.Nodup:=by rw[hI,vQ];refine⟨w.nd,k_,?_⟩;intro a B b r;rw[cA.1 r];rintro rfl;exact t.new B
 have v:∀x∈g.I,d.at x=g.at x:=λx c=>by
  have h1:=aES c;have h2:=aES (g:=d) (x:=x) (by rw[hI];simp[c]);have h3:g.at x<g.I.length:=by rw[z];exact h1.1
  have h4:d.at x<d.I.length:=by have:=h2.1;simpa[PGM.I]using this
  have h5:d.I[g.at x]?=some x:=by rw[hI,mY h3];exact h1.2
  have h6:g.at x<d.I.length:=by rw[hI];simp;omega
  rw[jN h6]at h5;have s:=h2.2;rw[jN h4]at s;exact((C9 l).1 ((Option.some.inj h5).trans (Option.some.inj s).symm)).symm
 have u:d.at (C7 o)=g.nodes.length:=by
  have h2:=aES (g:=d) (x:=C7 o) (by rw[hI];simp);have h4:d.at (C7 o)<d.I.length:=by have:=h2.1;simpa[PGM.I]using this
  have s:=h2.2;rw[jN h4]at s;have h6:g.nodes.length<d.I.length:=by rw[hI];simp[z]
  have h5:d.I[g.nodes.length]=C7 o:=by simp[hI,<-z]
  exact(C9 l).1 ((Option.some.inj s).trans h5.symm)
 have p:∀x∈g.I,d.nd x=g.nd x:=λx c=>by unfold PGM.nd;rw[v x c];subst e;exact Ol _ _ _ _ (aES c).1
 have m:d.nd (C7 o)=⟨o,C7 o,BF g o,Fa g o.Past⟩:=by unfold PGM.nd;rw[u];subst e;exact D2 _ _ _
 have bk:∀k,qK (BF g o) k=true->k<g.nodes.length:=λk h=>by
  rw[BF,ZM (JC q _) (JB g _),Ec,aDY q,aDX g q.n o.Past λx c=>by have:=(aES (t.there x c)).1;have:=q.n;omega]at h;rcases h with⟨x,c,h⟩|⟨x,c,rfl⟩
  have:=w.back x (t.there x c) k h;have:=(aES (t.there x c)).1;omega;exact(aES (t.there x c)).1
 have f:∀y,y∈d.I↔y∈g.I\/y=C7 o:=λy=>by rw[hI];simp
 refine⟨⟨l,?_⟩,hI,?_,by rw[m],by rw[m],?_⟩;intro x c k h;rcases(f x).1 c with h1|rfl;rw[p x h1]at h;rw[v x h1];exact w.back x h1 k h;rw[m]at h;rw[u];exact bk k h;intro x c;refine⟨c,(f x).2 (.inl c),by rw[p x c],by rw[p x c],λy=>?_⟩;by_cases j:y∈g.I;rw[aHe j c,aHe ((f y).2 (.inl j)) ((f x).2 (.inl c)),p x c,v y j];have A:oH g y x=false:=by unfold oH;simp[j]
 rw[A];by_cases i:y=C7 o;subst i;rw[aHe ((f _).2 (.inr rfl)) ((f x).2 (.inl c)),p x c,u]
 cases r:qK (g.nd x).W g.nodes.length with
 |false=>rfl|true=>
  have:=w.back x c _ r;have:=(aES c).1;omega
 unfold oH;simp[f,j,i];intro y;by_cases j:y∈g.I;rw[aHe ((f y).2 (.inl j)) ((f _).2 (.inr rfl)),m,v y j,aJK q t.there j];have A:anc g o y=false:=by
  cases h:anc g o y with
  |false=>rfl|true=>exact absurd (aKU t.there h) j
 rw[A];by_cases i:y=C7 o;subst i;rw[aHe ((f _).2 (.inr rfl)) ((f _).2 (.inr rfl)),m,u]
 cases r:qK (BF g o) g.nodes.length with
 |false=>rfl|true=>exact absurd (bk _ r) (bP _)
 unfold oH;simp[f,j,i]
section
variable{p q:PGM}
def aOx{x y:Id}(b:Same p q x)(a:Same p q y):P0 p x y=P0 q x y:=by unfold P0 Su;simp[b.l,b.r,a.l,a.r,b.lv,a.lv]
def aNl{l:D_}(a:∀x∈l,Same p q x):eO p l=eO q l:=by refine aET (g:=p) ((mE p l).trans (mE q l).symm) (U4 p l) ?_;refine(U4 q l).imp_of_mem λc b h=>?_;rw[aOx (a _ ((mE q l).mem_iff.1 b)) (a _ ((mE q l).mem_iff.1 c))];exact h
def aNs{l m:D_}(h:l.Perm m):eO p l=eO p m:=aET ((mE p l).trans (h.trans (mE p m).symm)) (U4 p l) (U4 p m)
variable(hc:p.cards=q.cards)
include hc
def aNt{s:D_}(f:∀y∈s,Same p q y){x:Id}(e:Same p q x):Lo p s x=Lo q s x:=by
 unfold Lo;rw[hc,List.filter_congr λy _=>e.b y];have a:∀(l:D_)(r:RM),(∀y∈l,Same p q y)->l.foldl (ZO p) r=l.foldl (ZO q) r:=by
  intro l
  induction l with
  |nil=>intro r _;rfl|cons y l ih=>
   intro r h;rw[CW,CW,ih _ λz c=>h z (.tail _ c),ZO,ZO,(h y (.head _)).o]
 exact a _ _ λy d=>f y (aBD.1 d).1
def aMw {V row:D_} (c:∀x∈row,Same p q x):mW p V row=mW q V row:=by
 have b:∀(row out:D_),(∀x∈row,Same p q x)->(∀x∈out,Same p q x)->row.foldl (iS p V) out=row.foldl (iS q V) out:=by
  intro row
  induction row with
  |nil=>intro out _ _;rfl| cons x row ih=>
   intro out h k;have e:iS p V out x=iS q V out x:=by unfold iS;rw[aNt hc k (h x (.head _)),(h x (.head _)).o]
   rw[CW,CW,e];refine ih _ (λz a=>h z (.tail _ a)) λz a=>?_;unfold iS at a;split at a;rcases cG.1 a with a|a;exact k z a;rw[cA.1 a];exact h x (.head _);exact k z a
 exact b row [] c k_
end
def aM2(g:PGM)(l:D_):1<=Fa g l/\∀x∈l,(g.nd x).lv+1<=Fa g l:=by
 have a:∀(l:D_)(m:Int),m<=l.foldl (λm x=>max m ((g.nd x).lv+1)) m/\∀x∈l,(g.nd x).lv+1<=l.foldl (λm x=>max m ((g.nd x).lv+1)) m:=by
  intro l
  induction l with
  |nil=>intro m;simp|cons y l ih=>
   intro m;have h:=ih (max m ((g.nd y).lv+1));rw[CW];refine⟨o_,λx b=>?_⟩;rcases cS.1 b with rfl|b;omega;exact h.2 x b
 exact a l 1
section
variable{cs:List CardM}{L:List OpM}
def aH3 (c:∀i,(AM cs (L.take i)).ok) (b:∀i(h:i<L.length),(aCW (AM cs (L.take i)) L[i]).2=0):∀i,i<=L.length ->
 (AM cs (L.take i)).wf/\(AM cs (L.take i)).I=(L.take i).map C7/\∀j,j<=i->∀x∈(AM cs (L.take j)).I,Same (AM cs (L.take j)) (AM cs (L.take i)) x
 |0,_=>by
  refine⟨⟨by simp[AM,PGM.I],by simp[AM,PGM.I]⟩,by simp[AM,PGM.I],λj l=>?_⟩;obtain rfl:j=0:=o_;exact λx d=>⟨d,d,rfl,rfl,λ_=>rfl⟩
 | i+1,h=>by
  obtain⟨w,e,s⟩:=aH3 c b i o_;obtain⟨t,m⟩:=aMn (c i) w (b i o_);have f:AM cs (L.take (i+1))=(aCW (AM cs (L.take i)) L[i]).1:=by rw[lB o_,MS]
  rw[m]at f;obtain⟨w1,k,g,_⟩:=aMp (c i) w t f;refine⟨w1,?_,?_⟩;rw[k,e,lB o_,bZ];rfl;intro j l x d;rcases eD i j with h1|h1;obtain rfl:j=i+1:=o_;exact⟨d,d,rfl,rfl,λ_=>rfl⟩;have a:=s j h1 x d;exact a.trans (g x a.r)
def aNu(c:∀i,(AM cs (L.take i)).ok)(a:∀i(h:i<L.length),(aCW (AM cs (L.take i)) L[i]).2=0){k:Nat}(f:k<L.length):
 Took (AM cs (L.take k)) L[k]/\(∀x∈(AM cs (L.take k)).I,Same (AM cs (L.take k)) (AM cs L) x)/\C7 L[k]∈(AM cs L).I/\((AM cs L).nd (C7 L[k])).o=L[k]/\((AM cs L).nd (C7 L[k])).lv=Fa (AM cs (L.take k)) L[k].Past/\∀y,oH (AM cs L) y (C7 L[k])=anc (AM cs (L.take k)) L[k] y:=by
 obtain⟨w,e,_⟩:=aH3 c a k o_;obtain⟨t,p⟩:=aMn (c k) w (a k f);have g:AM cs (L.take (k+1))=(aCW (AM cs (L.take k)) L[k]).1:=by rw[lB f,MS]
 rw[p]at g;obtain⟨w1,m,u,j,l,q⟩:=aMp (c k) w t g;have d:=(aH3 c a L.length (cN _)).2.2;rw[dE]at d;have s:=d (k+1) o_ (C7 L[k]) (by rw[m];simp);exact⟨t,λx n=>d k o_ x n,s.r,by rw[<-s.o,j],by rw[<-s.lv,l],λy=>by rw[<-s.b,q]⟩
end
def upC(x j:Nat):V_:=if j=0 then [] else if j=x+1 then [x-1] else [j-1]
def aHf(x:Nat)(g:GM):Prop:=∀j,j<g.L.length->g.Up.getD j []=upC x j
def aNG{x n:Nat}(b:1<=x){a:List V_}(h:∀j,j<n->a.getD j []=upC x j):∀j,j<=n->∀i,RU a (upC x j) i↔i<j/\i≠x:=by
 intro j
 induction j using Nat.strongRecOn with
 | _ j ih=>
  intro c i;rw[RU.head];unfold upC;split;subst_vars;simp;split;subst_vars;have h1:=ih (x-1) o_ o_ i;simp only[cA,exists_eq_left];rw[h (x-1) o_,h1];omega;have h1:=ih (j-1) o_ o_ i;simp only[cA,exists_eq_left];rw[h (j-1) o_,h1];omega
section
variable{g:GM}
def aJa(w:g.wf)(a:g.I.Nodup){x:Nat}(e:1<=x)(d:aHf x g){i j:Nat}(c:i<g.I.length)(b:j<g.I.length):bfM g g.I[i] g.I[j]=decide (i<j/\i≠x):=by have f:=w.i;unfold bfM;rw[aGT a c,aGT a b,decide_eq_true (eQ c),decide_eq_true (eQ b),mF,mF,CT,decide_eq_true_eq];show((g.In.getD j []).getD i false=true)↔_;rw[w.past j o_ i,d j o_,aNG (n:=g.L.length) e d j o_ i]
def aLQ(d:g.I.length=g.L.length)(c:g.I.Nodup){l:D_}{y:Id}:y∈rV g l↔∃x∈l,bfM g y x=true:=by
 unfold rV;rw[(dQ _).mem_iff];unfold Le B3 bfM;simp only[dF,aBD,uM,CX,zJ,decide_eq_true_eq,Cz];constructor;rintro⟨i,⟨h1,x,a,h2,h3⟩,rfl⟩;have b:i<g.I.length:=o_;have e:g.I.getD i default=g.I[i]:=by simp[rH,b]
 rw[e,aGT c b];exact⟨x,a,eQ b,h2,h3⟩;rintro⟨x,a,h1,h2,h3⟩;exact⟨_,⟨aH9 d h1,x,a,h2,h3⟩,aJJ h1⟩
def aJc {I a:D_} {x:Id} (c:0<=aW I x) (d:x∉a):∀(l out:D_),(∀z∈l,z=x\/z∈a)->(out=[]\/out=[x])->l.foldl (uD I a) out=if x∈l then [x] else out
 |[],out,_,_=>by simp
 | z::l,out,h,g=>by
  rw[CW];by_cases e:z=x;subst e;have f:uD I a out z=[z]:=by unfold uD;rcases g with rfl|rfl;simp[c,d];simp
  rw[f,aJc c d l [z] (λy b=>h y (.tail _ b)) (.inr rfl)];simp;have i:z∈a:=(h z (.head _)).resolve_left e;have f:uD I a out z=out:=by unfold uD;simp[i]
  rw[f,aJc c d l out (λy b=>h y (.tail _ b)) g];simp[Ne.symm e]
def aKm(w:g.wf)(e:g.I.Nodup){l:D_}{x:Id}(d:x∈l)(c:x∈g.I)(h:∀z∈l,z=x\/bfM g z x=true)(a:bfM g x x=false):yV g l=[x]:=by
 have f:x∉rV g l:=by rw[aLQ w.i e];rintro⟨z,b,h1⟩;rcases h z b with rfl|h2;rw[a]at h1;exact absurd h1 d_;rw[aN8 w h1 h2]at a;exact absurd a d_
 unfold yV;rw[aJc ((Cz g.I x).2 c) f l [] (λz b=>(h z b).imp id λh1=>(aLQ w.i e).2 ⟨x,d,h1⟩) (.inl rfl),if_pos d];exact List.perm_singleton.1 (dQ [x])
def aMx(w:g.wf)(b:g.I.Nodup){x:Nat}(m:1<=x)(f:aHf x g){a:Nat}(c:a<g.I.length)(n:upC x g.L.length=[a]){o:OpM}(q:o.Past=yV g (Fd g [g.I[a]]))(e:(dV g o).1=0):aHf x (addM g o).1:=by
 have hI:=eQ c;have k:bfM g g.I[a] g.I[a]=false:=by rw[aJa w b m f c c];simp
 have p:o.Past=[g.I[a]]:=by
  rw[q];refine aKm w b ((aLP w.i b).2 (.inl ⟨k_,hI⟩)) hI (λz l=>?_) k;rcases(aLP w.i b).1 l with⟨h,_⟩|⟨y,hy,h⟩
  exact .inl x_;exact .inr (by rw[cA.1 hy]at h;exact h)
 have d:yW g o=[a]:=by unfold yW;rw[p,List.map_singleton,aGT b c];rfl
 rw[yE (Ff e) e,d];intro j r;simp only[dZ,GT]at r;show(g.Up++[[a]]).getD j []=_;rcases eD j g.L.length with h1|h1;rw[Ol _ _ _ _ (by rw[w.un];exact h1)];exact f j h1;obtain rfl:j=g.L.length:=o_;rw[n,<-w.un];exact D2 _ _ _
end
def aH5(a b e:Int)(S:List (Int×Int)):aBo ((a,b)::S) e=if e=a then b else aBo S e:=by unfold aBo;rw[List.findIdx?_cons];by_cases h:e=a;simp[h];simp only[h,beq_iff_eq,if_false];cases S.findIdx? λx=>e==x.1<;>simp
def aLR(a b d x:Int)(S:List (Int×Int)):nZ ((a,b)::S) d x=if d=a then(d,x)::S else(a,b)::nZ S d x:=by unfold nZ;rw[List.findIdx?_cons];by_cases h:d=a;simp[h];simp only[h,beq_iff_eq,if_false];cases S.findIdx? λx=>d==x.1<;>simp
def aHG(d x e:Int):∀S:List (Int×Int),aBo (nZ S d x) e=if e=d then x else aBo S e
 |[]=>by
  have:nZ [] d x=[(d,x)]:=rfl;rw[this,aH5]
 | (a,b)::S=>by rw[aLR];split;rename_i h;rw[aH5,aH5];split;rfl;rename_i h2;rw[if_neg (by rw[<-h];exact h2)];rename_i h;rw[aH5,aH5,aHG d x e S];by_cases h1:e=a;rw[if_pos h1,if_pos h1,if_neg (by rw[h1];exact λh2=>h h2.symm)];rw[if_neg h1,if_neg h1]
def aLS(e:Int):∀(l:B_)(i:Nat)(S:List (Int×Int)),e∉l->aBo (Xu i l S) e=aBo S e|[],_,_,_=>rfl|d::l,i,S,h=>by rw[Xu,aLS e l _ _ (λh1=>h (.tail _ h1)),aHG,if_neg (λh1=>h (by rw[h1];exact .head _))]
def aLT(e:Int):∀(l:B_)(i:Nat)(S:List (Int×Int)),1<=i->1<=aBo S e->1<=aBo (Xu i l S) e|[],_,_,_,h=>h|d::l,i,S,a,h=>by rw[Xu];apply aLT e l _ _ o_;rw[aHG];split;omega;exact h
def aKo {g:PGM}:∀(row:D_)(out:B_),∃t,row.foldl (kV g) out=out++t/\∀z∈t,z∉out
 |[],out=>⟨[],by simp,by simp⟩
 | x::row,out=>by
  obtain⟨t,e,h⟩:=aKo row (kV g out x);rw[CW]
  cases b:byO (g.nd x).o with
  |none=>
   have a:kV g out x=out:=by unfold kV;rw[b]
   rw[a]at e h⊢;exact⟨t,e,h⟩
  | some d=>
   by_cases c:d∈out;have a:kV g out x=out:=by unfold kV;rw[b];exact if_pos c
   rw[a]at e h⊢;exact⟨t,e,h⟩;have a:kV g out x=out++[d]:=by unfold kV;rw[b];exact if_neg c
   rw[a]at e h⊢;exact⟨d::t,by rw[e];simp,by grind⟩
def aM3{g:PGM}{row:D_}{x:Id}{r:D_}{d:Int}(b:eO g row=x::r)(f:byO (g.nd x).o=some d):
 aBo (aBt g row) d=0/\∀e,e≠d->1<=aBo (KZ g.cards) e->1<=aBo (aBt g row) e:=by
 have j:kV g [] x=[d]:=by unfold kV;rw[f];rfl
 obtain⟨t,e,h⟩:=aKo (g:=g) r [d];have i:BQ g row=d::t:=by unfold BQ;rw[b,CW,j,e];rfl
 unfold aBt;rw[i,Xu];refine⟨?_,λe a c=>?_⟩;rw[aLS d t _ _ (λh1=>h d h1 (.head _)),aHG,if_pos rfl];rfl;apply aLT e t _ _ o_;rw[aHG,if_neg a];exact c
def aNI {g:PGM} {row:D_} {S:List (Int×Int)} {c:D_} {r:Nat} (n:r<c.length) (k:∀j(h:j<c.length),j≠r->(c.any λy=>B7 g row c[j] y)=true) (l:∀j(h:j<c.length),j≠r->aBo S c[r].a<aBo S c[j].a):yY g row S c=r:=by
 have o:∀j(h:j<c.length),c.getD j default=c[j]:=λj h=>by simp[rH,h]
 have c1:∀(m i:Nat),i+m=c.length->r<i->AP g row S c (c.drop i) i (r:Int)=r:=by
  intro m
  induction m with
  |zero=>intro i f _;rw[LB o_];rfl|succ m ih=>
   intro i f p;have d:i<c.length:=o_;rw[Kc d,AP,if_pos (k i d o_),if_neg];exact ih (i+1) o_ o_;have:=l i d o_;rw[show((r:Int).toNat)=r from rfl,o r n];omega
 have c2:∀(m i:Nat)(b:Int),i+m=r->(b<0\/(b.toNat<i/\0<=b))->AP g row S c (c.drop i) i b=r:=by
  intro m
  induction m with
  | zero=>
   intro i b f e;obtain rfl:i=r:=o_;rw[Kc n,AP];split;rw[if_pos];exact c1 (c.length-(i+1)) (i+1) o_ o_;rcases e with e|e;exact .inl e;refine .inr ?_;rw[o _ o_];exact l _ o_ o_;rfl
  | succ m ih=>
   intro i b f e;have d:i<c.length:=o_;rw[Kc d,AP,if_pos (k i d o_)];apply ih (i+1) _ o_;split;right;omega;rename_i h;rcases e with e|e;exact absurd (.inl e) h;right;omega
 have:=c2 r 0 (-1) o_ (.inl o_);rwa[TZ]at this
def aKs{g:PGM}{V:D_}:∀(row out:D_),row.foldl (iS g V) out=(row.filter λx=>!decide (x∈V)).foldl (iS g []) out
 |[],_=>rfl
 | x::row,out=>by
  rw[CW,aKs row,List.filter_cons];by_cases h:x∈V;have e:iS g V out x=out:=by unfold iS;simp[h]
  simp[h,e];have e:iS g V out x=iS g [] out x:=by unfold iS;simp[h]
  simp[h,e]
def aKJ{g:PGM}{V:D_}{x:Id}:∀(row out:D_),x∈out->x∈row.foldl (iS g V) out|[],_,h=>h|y::row,out,h=>aKJ row _ (by unfold iS;split;exact List.mem_append_left _ h;exact h)
def aJ6 {g:PGM} {V:D_}:∀(row out:D_),(∀z∈V,z∉row.foldl (iS g []) out)->row.foldl (iS g V) out=row.foldl (iS g []) out
 |[],_,_=>rfl
 | x::row,out,h=>by
  have e:iS g V out x=iS g [] out x:=by by_cases a:x∈V;have h1:=h x a;rw[CW]at h1;unfold iS at h1⊢;by_cases b:mT (Lo g out x) (g.nd x).o=0;rw[if_pos (⟨by simp,b⟩:x∉[]/\mT (Lo g out x) (g.nd x).o=0)]at h1;exact absurd (aKJ row _ (by simp)) h1;simp[b];unfold iS;simp[a]
  rw[CW,CW,e];rw[CW]at h;exact aJ6 row _ h
def aIE {g:PGM} {row:D_} {S:List (Int×Int)} (c:∀x∈row,∀y∈row,aBF g x y=false):∀(n:Nat)(V left:D_),(∀z∈V,z∉mW g [] row)->(∀x∈left,x∈row)->∀z∈uL g row S n V left,z∉mW g [] row
 |0,V,_,h,_=>h
 | n+1,V,left,h,o=>by
  have j:∀x∈left.filter (λx=>!decide (x∈V)),x∈row:=λx d=>o x (aBD.1 d).1;rw[uL];dsimp only;generalize left.filter (λx=>!decide (x∈V))=L at *
  split;exact h;rename_i e;have r:=RY (g:=g) (row:=row) (S:=S) e;generalize yY g row S L=k at *
  have f:k.toNat<L.length:=by omega
  generalize k.toNat=i at *
  have ex:L.getD i default=L[i]:=by simp[rH,f]
  rw[ex];have d:=j _ (eQ f);have l:∀z∈L.eraseIdx i,z∈row:=λz a=>j z (List.mem_of_mem_eraseIdx a);split;refine aIE c n _ _ (λz a=>?_) l;unfold Mb at a;rw[Rd (p:=λy=>aBF g L[i] y||(decide (y∈L.eraseIdx i)&&B7 g row L[i] y))]at a;rcases a with a|⟨h1,h2⟩
  exact h z a;have h3:aBF g L[i] z=false:=c _ d z h1;rw[h3,EH,zJ]at h2;have h4:=h2.2;unfold B7 at h4;rw[zJ,CX]at h4;obtain⟨_,u,m,h5⟩:=h4;rw[c z h1 u m,Ea]at h5;exact absurd h5 (by decide);rename_i b;refine aIE c n _ _ (λz a=>?_) l;rcases BR.1 a with a|rfl;exact h z a;have q:mW g V row=mW g [] row:=aJ6 row [] h;rw[q]at b;exact b
def aGf(p:PGM)(out:D_):RM:=out.foldl (ZO p) (RM.new p.cards)
def aBB(p:PGM)(I:D_)(i:Nat):D_:=(I.take i).foldl (iS p []) []
section
variable{g:GM}{x:Nat}
def aPA{x:Nat}(hr:Reach bQ g)(hx:200<=x)(X:aHf x g):kW (AM bQ g.L) g.I=aBB (AM bQ g.L) g.I g.L.length /\
 ∀i(h:i<g.L.length)(h':i<g.I.length),aBB (AM bQ g.L) g.I (i+1)=(if mT (aGf (AM bQ g.L) (aBB (AM bQ g.L) g.I i)) g.L[i]=0 then aBB (AM bQ g.L) g.I i++[g.I[i]] else aBB (AM bQ g.L) g.I i) /\
  aGf (AM bQ g.L) (aBB (AM bQ g.L) g.I i++[g.I[i]])=BS (aGf (AM bQ g.L) (aBB (AM bQ g.L) g.I i)) g.L[i] g.I[i]:=by
 have C:=hr.good rY;have hn:=hr.nd rY;have w:=C.wf;have W:=w.i;have aa:=C.n;have D:∀i,(AM bQ (g.L.take i)).ok:=λi=>XM rY _ λo ho=>⟨C.ok.ops o (C8 ho),C.ids o (C8 ho)⟩
 have Y:=aH3 D C.all g.L.length (cN _);rw[dE]at Y;have hI:g.I=g.L.map C7:=by rw[<-C.sim.i];exact Y.2.1
 have v:∀i(h:i<g.L.length),g.I[i]=C7 g.L[i]:=λi h=>by simp[hI]
 have M:(AM bQ g.L).I=g.I:=C.sim.i;have B:∀y∈g.I,∃(i:Nat)(h:i<g.L.length),y=g.I[i]:=λy f=>d8;have l:=λ(i:Nat)(h:i<g.L.length)=>aNu D C.all h;have E:∀i(h:i<g.L.length),((AM bQ g.L).nd g.I[i]).o=g.L[i]:=λi h=>by rw[v i h];exact(l i h).2.2.2.1
 have k:∀i j(d:i<g.L.length)(c:j<g.L.length),oH (AM bQ g.L) g.I[i] g.I[j]=decide (i<j):=λi j d c=>by rw[aN7 C.sim C.n,aJa w hn o_ X o_ o_,decide_eq_decide];omega
 have V:∀j(c:j<g.L.length),∀i(d:i<j),((AM bQ g.L).nd (g.I[i]'o_)).lv<((AM bQ g.L).nd g.I[j]).lv:=by
  intro j
  induction j using Nat.strongRecOn with
  |_ j ih=>
   intro c i d;obtain⟨t,s,m,o0,l0,Q⟩:=l j c;have H:=k i j o_ c;rw[v j c,Q,decide_eq_true d]at H;obtain⟨y,f,h1⟩:=CX.1 H;have h2:=(aM2 (AM bQ (g.L.take j)) g.L[j].Past).2 y f;have J:=s y (t.there y f);rw[J.lv]at h2;rw[v j c,l0];rcases Ec _ _ ▸ h1 with h1|h1;rw[of_decide_eq_true h1];omega;rw[J.b]at h1;obtain⟨q,U,rfl⟩:=B y (M ▸ J.r);rw[k i q o_ U]at h1;have h3:=of_decide_eq_true h1;have h4:anc (AM bQ (g.L.take j)) g.L[j] g.I[q]=true:=CX.2 ⟨_,f,k_⟩;rw[<-Q,<-v j c,k q j U c]at h4;have:=ih q (of_decide_eq_true h4) U i h3;omega
 have A:∀i j(d:i<g.L.length)(c:j<g.L.length),i<j->g.L[i].By=g.L[j].By->g.L[i].Seq<g.L[j].Seq:=λi j d c G he=>by obtain⟨t,s,m,o0,l0,Q⟩:=l j c;have H:=k i j d c;rw[v j c,Q,decide_eq_true G]at H;have hm:=aKU t.there H;have J:=s _ hm;have e:=(J.o).trans (E i d);have:=t.seq _ hm H (by rw[e];exact he);rw[e]at this;exact this
 have P:∀i(h:i<g.L.length),g.I[i].a=g.L[i].By/\g.I[i].b=g.L[i].Seq:=λi h=>by rw[v i h];exact⟨rfl,rfl⟩
 have hF:zH g.I=[]:=by unfold zH;rw[List.filter_eq_nil_iff];intro u hu T;unfold B8 at T;simp only[CX,zJ,EX,decide_eq_false_iff_not,beq_iff_eq]at T;obtain⟨y,f,z,R,S,e1,Z,e3,_⟩:=T;obtain⟨i,d,rfl⟩:=B y f;obtain⟨j,c,rfl⟩:=B z R;rw[(P i d).1]at e1;rw[(P j c).1]at Z;rw[(P i d).2,(P j c).2]at e3;rcases aGJ i j with h|h|h;have:=A i j d c h o_;omega;subst h;exact S rfl;have:=A j i c d h o_;omega
 clear l D A P Y;generalize AM bQ g.L=p at *
 have N:eO p g.I=g.I:=by refine aET (mE p g.I) (U4 p g.I) (QD.2 λi j d c G=>?_);have:=V j o_ i G;unfold P0 Su;rw[M,if_pos (eQ _),if_pos (eQ _),decide_eq_false o_,decide_eq_false o_];rfl
 have F:∀y∈g.I,∀z∈g.I,aBF p y z=false:=λy f z R=>by obtain⟨i,d,rfl⟩:=B y f;obtain⟨j,c,rfl⟩:=B z R;unfold aBF;rw[k j i c d,k i j d c];rcases aGJ i j with h|h|h;simp[h];subst h;simp;simp[h]
 have O:kW p g.I=mW p [] g.I:=by unfold kW;rw[hF,N];exact aJ6 g.I [] (aIE F _ _ _ k_ λy f=>(aBD.1 f).1)
 have K:∀i,∀y∈aBB p g.I i,y∈g.I.take i:=λi y f=>by unfold aBB at f;exact((Vk _ _ f).resolve_left k_).1
 refine⟨by rw[O,aBB,<-W,dE];rfl,λi h h'=>⟨?_,?_⟩⟩;have e:aBB p g.I (i+1)=iS p [] (aBB p g.I i) g.I[i]:=by unfold aBB;rw[lB h',Hy];rfl
 have Z:Lo p (aBB p g.I i) g.I[i]=aGf p (aBB p g.I i):=by unfold Lo aGf;rw[Gm.2 λy f=>?_];obtain⟨j,c,rfl⟩:=TT.1 (K i y f);rw[k j i o_ h];exact decide_eq_true o_
 rw[e];unfold iS;rw[Z,E i h];simp;unfold aGf;rw[Hy,CW,Kk,ZO,E i h]
end
def aMj {g:GM} {x:Nat} (k:Reach bQ g) (F:1000<=x) (q:aHf x g) {o:OpM} (p:o.ok) {n:Int} (C:aK6 g n o.Past) (B:aJH ((pX n 1000000).toNat/5)) (a:(addM g (cM o)).2=0):
 Reach bQ (addM g (cM o)).1/\aHf x (addM g (cM o)).1/\(addM g (cM o)).1.L.length=g.L.length+1:=by
 have u:=k.good rY;have l:=k.nd rY;have w:=u.wf;have t:=u.n;have a:(dV g (cM o)).1=0:=by unfold addM at a;split at a;exact a;rename_i h;simpa using h
 have D:=k.add (BM p) (W6 (BM p));have e:(addM g (cM o)).1.L=g.L++[cM o]:=by rw[yE (Ff a) a]
 refine⟨D,?_,by rw[e];simp⟩;obtain⟨X,s,E⟩:=C;have m:(cM o).Past=o.Past:=by unfold cM;rfl
 have f:yW g (cM o)=upC x g.L.length:=by
  unfold yW upC;rw[m,E];rcases JX g.L.length with h0|h0;have:yV g X=[]:=TS.2 λy A=>by have:=KF X y A;rw[Ae (w.i.trans h0)]at this;simp at this
  rw[this,if_pos h0];rfl;have b:g.L.length-1<g.I.length:=by rw[w.i];omega
  have r:∀i j(d:i<g.I.length)(c:j<g.I.length),bfM g g.I[i] g.I[j]=decide (i<j):=λi j d c=>by have:=w.i;rw[aJa w l o_ q d c,decide_eq_decide];omega
  rw[aKm w l (s.2 B _ (eQ b)) (eQ b) (λz v=>by
   obtain⟨i,d,rfl⟩:=List.mem_iff_getElem.1 (s.1 z v);rcases eD i (g.L.length-1) with h|h;exact .inr (by rw[r i _ d b];exact decide_eq_true h);have:=w.i;obtain rfl:i=g.L.length-1:=o_
   exact .inl rfl) (by rw[r];simp),if_neg o_,if_neg o_,List.map_singleton,aGT l b]
  rfl
 rw[yE (Ff a) a,f];intro j c;simp only[dZ,GT]at c;show(g.Up++[upC x g.L.length]).getD j []=_;rcases eD j g.L.length with h1|h1;rw[Ol _ _ _ _ (by rw[w.un];exact h1)];exact q j h1;obtain rfl:j=g.L.length:=o_;rw[<-w.un];exact D2 _ _ _
def aLY:uE bQ=bQ:=(congrArg PGM.cards lQ0).trans (show(lQ 0).cards=bQ by rw[C5];rfl)
def aLZ{g:PGM}{V:D_}:∀(row out:D_),∃t,row.foldl (iS g V) out=out++t|[],out=>⟨[],k_⟩|x::row,out=>by obtain⟨t,e⟩:=aLZ (g:=g) (V:=V) row (iS g V out x);rw[CW,e];unfold iS;split;exact⟨x::t,k_⟩;exact⟨t,rfl⟩
section
variable{G:L_}
def aM0 (hK:GK G) (hA:AK G) (l:B_) (hl:l.length<=2^63-1) (hi:∀n∈l,mZ n):
 aA PQ G aH8 [rG l] [] λr T=>r=.v (.bool true)/\T=[]:=by
 apply aC aIX;simp only[go_sem];apply cX aLO;simp only[go_sem];apply cX VY;simp only[go_sem];apply cX ZW;simp only[go_sem];refine jG (λs=>∃g,Reach bQ g/\aHf 1000 g/\g.L.length<=20/\s=⟨0,[(3,.ptr 0 0)],[some (.box g.A)]⟩) ?_ ?_;rotate_left
 ·rintro s ⟨g,f,R,ax,rfl⟩;have N:=f.hyp6.1;have gd:=f.good rY;have d:=f.ggood rY JP;have K:=f.nd rY;obtain⟨E,H⟩:=aPA f (x:=1000) o_ R;have aq:(AM bQ g.L).cards=bQ:=by rw[RL bQ _ _ rfl,aLY]
  have ay:g.Cards=bQ:=gd.cards;have Y:∀x∈g.I,x∈(AM bQ g.L).I:=λx hx=>by rw[gd.sim.i];exact hx
  have bf:=λ(T:aK)(p:Nat×Nat×Nat)(h:GAt T p (AM bQ g.L))=>Vj hA h d Y K;have bc:=λ(T:aK)=>O1 (G:=G) (T:=T) bQ d_ JP.nd;have bd:=aBl hK (aIS hA);simp only[go_sem];apply cX (VZ g N);simp only[go_sem];apply kM (RS hK f);generalize AM bQ g.L=p at *
  simp only[go_sem,TG,MG,ay];apply jA (bc _);rintro y T' ⟨s0,rfl,aa,⟨X0,rfl⟩,ae⟩;simp only[go_sem];apply cI (bf _ (1,2,3) ⟨rfl,rfl,rfl,d_,d_,d_⟩);have av:=N.i;have bh:g.L.length<=20:=ax;have ab:aGf p (aBB p g.I 0)=RM.new bQ:=by rw[<-aq];rfl
  simp only[go_sem,MG]at aa ae⊢
  refine kL (λn st=>∃i,i<=g.L.length/\n=g.L.length-i/\∃(P:aK)(U:RP),U.root=s0.root/\P[0]?=some (some (.box g.A))/\(∀k,aB7 U (aGf p (aBB p g.I i)) k->0<k)/\RollAt P U (aGf p (aBB p g.I i)) /\
   st=⟨0,[(11,iv i),(10,iv (aBB p g.I i).length),(9,ids (kW p g.I)),(8,.ptr s0.root 0),(3,.ptr 0 0)],P⟩) g.L.length ⟨0,pR _,rfl,_,s0,rfl,rfl,λk hk=>CV (Nat.succ_pos _) (ae k (ab ▸ hk)),by rw[ab];exact aa,rfl⟩ ?_
  rintro n st ⟨i,bk,bj,P,U,z,h0,O,J,rfl⟩;rcases eD i g.L.length with c|bn;rotate_left;obtain rfl:i=g.L.length:=o_;rw[<-E];simp only[go_sem,h0,aP,aS (bP _)];apply cX bd;simp only[go_sem,aIW];have S:=fQ i o_;have w:i<g.I.length:=o_;have g0:(g.L.map OpM.A)[i]?=some g.L[i].A:=aO _ g.L i c;have g1:(g.I.map Id.A)[i]?=some g.I[i].A:=aO _ g.I i w;obtain⟨b,an⟩:=H i c w;have D:=N.ops _ (eQ c);have u:∀y∈aBB p g.I i,y∈g.I.take i:=λy Q=>by unfold aBB at Q;exact((Vk _ _ Q).resolve_left k_).1
  have ac:(aBB p g.I i).Nodup:=by have h:=Aa (g:=p) (V:=[]) (g.I.take i) [];rw[dM]at h;exact(K.sublist (List.take_sublist i g.I)).sublist h
  have a:RGood ((aBB p g.I i).reverse++[]) p.cards (aGf p (aBB p g.I i)):=B6 d _ (RGood.new d.cards) (λy Q=>Y y (C8 (u y Q))) (by rw[jO];exact ac);have hM:=O8 (G:=G) hA J a d.cards g.L[i] g.I[i] (by have:=D.guards.1;omega);rw[z]at hM;simp only[go_sem,h0,aP,aT c,c,w,g0,g1];apply cI hM;by_cases M:mT (aGf p (aBB p g.I i)) g.L[i]=0;rotate_left;have cm:(mT (aGf p (aBB p g.I i)) g.L[i]!=0)=true:=bne_iff_ne.2 M;rw[if_neg M]at b;simp only[go_sem,cm,S];exact⟨g.L.length-(i+1),o_,i+1,o_,rfl,P,U,z,h0,by rw[b];exact O,by rw[b];exact J,by rw[b]⟩;have cm:(mT (aGf p (aBB p g.I i)) g.L[i]!=0)=false:=dp;rw[if_pos M]at b;simp only[go_sem,cm,h0,c,w,aP,g0,g1];have al:=a.nodup12 d.cards
  have aj:=RK (G:=G) J a.wf a.inn (aEk (by rw[a.cards];exact d.cards)) al.1 al.2 g.L[i] g.I[i] (by have:=D.guards.1;omega) (λv hv e=>by
   obtain⟨m,M,hI,be,_⟩:=a.vof v hv;have:=a.gid m M hI;rw[be,e,jO,List.mem_reverse]at this;obtain⟨j,hj,ej⟩:=TT.1 (u _ this);have:=(C9 K).1 ej
   omega) a.wv a.pos
  rw[z]at aj;apply jA aj;rintro y T' ⟨s2,W⟩;have au:0<P.length:=by
   cases P with
   |nil=>simp at h0|cons _ _=>simp
  have am:T'[0]?=some (some (.box g.A)):=by rw[W.same 0 au λh=>absurd (O 0 h) o_];exact h0
  have ad:∀k,aB7 s2 (BS (aGf p (aBB p g.I i)) g.L[i] g.I[i]) k->0<k:=λk hk=>by rcases W.fp k hk with h|h;exact O k h;omega
  have Z:=W.at';have ap:=W.root.trans z;rw[<-an,<-b]at ad Z;obtain⟨t,ht⟩:∃t,kW p g.I=aBB p g.I i++[g.I[i]]++t:=by obtain⟨t,et⟩:=aLZ (g:=p) (V:=[]) (g.I.drop (i+1)) (aBB p g.I (i+1));refine⟨t,?_⟩;rw[E,<-b,<-et,aBB,aBB,<-Hy,LC,<-av,dE]
  have cn:decide (((kW p g.I).length:Int)<=((aBB p g.I i).length:Int))=false:=decide_eq_false (by rw[ht];simp<;>omega);have ar:(aBB p g.I i).length<(kW p g.I).length:=by rw[ht];simp<;>omega
  have g2:((kW p g.I).map Id.A)[(aBB p g.I i).length]?=some g.I[i].A:=by rw[ht];simp
  have wc:=fQ (aBB p g.I i).length (by
   have:=List.Nodup.length_le_of_subset ac (λy Q=>C8 (u y Q))
   omega)
  simp only[go_sem,ge_iff_le,cn,am,c,w,ar,aP,g1,g2,S,wc];exact⟨g.L.length-(i+1),o_,i+1,o_,rfl,T',s2,ap,am,ad,Z,by rw[b,dZ];rfl⟩
 refine cO (λm s=>∃(i:Nat)(g:GM),m=20-i/\i<=20/\g.L.length<=i/\Reach bQ g/\aHf 1000 g/\s=⟨0,[(0,rG l),(3,.ptr 0 0),(4,iv i)],[some (.box g.A)]⟩) 20 ⟨0,_,rfl,o_,cN _,Reach.new,λj hj=>absurd hj k_,f_⟩ ?_;rintro m s ⟨i,g,M,bi,bm,f,R,rfl⟩;obtain⟨N,ah,X,ai,af,F⟩:=f.hyp6;have b1:decide ((i:Int)<(l.length:Int))=decide (i<l.length):=k_;have b2:decide ((i:Int)<20)=decide (i<20):=decide_eq_decide.2 o_;have S:=fQ i o_;by_cases aw:i<l.length/\i<20;rotate_left;rcases eD i l.length with h1|h1;have c1:decide (i<l.length)=true:=decide_eq_true h1;have c2:decide (i<20)=false:=decide_eq_false o_;simp only[go_sem,aP,b1,b2,c1,c2];exact⟨g,f,R,o_,rfl⟩;have c1:decide (i<l.length)=false:=decide_eq_false o_;simp only[go_sem,aP,b1,c1,undef];exact⟨g,f,R,o_,rfl⟩;obtain⟨h1,h2⟩:=aw;have c1:decide (i<l.length)=true:=decide_eq_true h1;have c2:decide (i<20)=true:=decide_eq_true h2;have g0:(l.map λn=>[iv n])[i]?=some [iv l[i]]:=aO _ l i h1;have B:=hi _ (eQ h1);have ak:=Dl (G:=G) l[i] 5 B.1 B.2 d_ d_;obtain⟨q,hq,eq⟩:∃q:Nat,q<5/\pX l[i] 5=(q:Int):=by have:=BJ l[i] 5 d_;exact⟨(pX l[i] 5).toNat,o_,o_⟩
 rw[eq]at ak;have w5:IntKind.i64.wrap (5+(q:Int))=5+(q:Int):=aJ o_ o_;have hN:=aK7 (G:=G) g N ah X ai af F (5+(q:Int)) l[i] ⟨o_,o_⟩ B;have C:aJH ((pX (5+(q:Int)) 1000000).toNat/5):=by rcases(o_:q=0\/q=1\/q=2\/q=3\/q=4) with rfl|rfl|rfl|rfl|rfl<;>exact⟨d_,d_⟩
 have hA:=λo D=>So (G:=G) g o N D;clear ah X ai af F N;simp only[go_sem,aP,b1,b2,c1,c2,h1,g0];clear hi hl b1 b2 c1 c2 B eq;refine And.intro ?_ ?_
 all_goals (
  apply cX ak
  simp only[go_sem,aP,h1,g0,w5]
  try refine And.intro ?_ ?_
  all_goals (
   apply Jo hN
   rintro r T' ⟨⟨o,D,ba,hp,rfl⟩,rfl⟩
   have hs:=BM D
   have ao:=OX (G:=G) o D ba
   have bg:=hA (cM o) hs
   have az:=aMj f o_ R D hp C
   generalize cM o=p at *
   generalize bb:addM g p=ag at *
   clear bb hs hN C hp
   simp only[go_sem]
   try refine And.intro ?_ ?_
   all_goals (
    apply cX ao
    simp only[go_sem]
    try refine And.intro ?_ ?_
    all_goals (
     apply cX bg
     simp only[go_sem]
     refine aL (λhe=>?_) (λhe=>?_)
     obtain⟨k1,k2,k3⟩:=az (by simpa using he)
     simp only[go_sem,z5,S]
     exact⟨20-(i+1),o_,i+1,_,rfl,o_,o_,k1,k2,rfl⟩
     simp only[go_sem,z5,S]
     exact⟨20-(i+1),o_,i+1,g,rfl,o_,o_,f,R,rfl⟩))))
end
end Hud
