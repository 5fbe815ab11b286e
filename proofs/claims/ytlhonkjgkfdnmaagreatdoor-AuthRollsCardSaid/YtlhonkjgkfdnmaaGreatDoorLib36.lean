import Derived.Test.YtlhonkjgkfdnmaaGreatDoorLib32
set_option linter.all false
namespace Hud
open Go
def aPX{p:PGM}{o:OpM}(h:(sR p o).2=0):(sR p o).1=⟨p.cards,p.nodes++[⟨o,C7 o,BF p o,Fa p o.Past⟩]⟩:=by grind[sR,Oa,Q8]
def aPe(a:List V_)(u:V_):∀i,i<=a.length->aFc (a++[u]) i=aFc a i|0,_=>rfl|i+1,h=>by rw[aFc,aFc,aPe a u i o_,Ol _ _ _ _ o_]
structure RowOk(cs:List CardM)(g:GM):Prop where
 ids:g.I=g.L.map C7
 nd:g.I.Nodup
 par:∀i,i<g.L.length->∀y∈(g.L.getD i default).Past,∃k∈g.Up.getD i [],g.I[k]?=some y
 lv:∀i,i<g.L.length->((AM cs g.L).nodes.getD i XD).lv=(aFc g.Up g.L.length).getD i 0
def aKH{I:D_}{x:Id}(h:0<=aW I x):I[(aW I x).toNat]?=some x:=by
 unfold aW qX at *
 cases e:I.findIdx? (λy=>decide (y=x)) with
 |none=>rw[e]at h;simp at h|some j=>
  obtain⟨h1,h2,_⟩:=Ad.1 e;simp_all
def aPf(f:Id->Int)(h:Nat->Int)(pl:Id->Nat):∀(l:D_)(m:Int),(∀x∈l,f x=h (pl x))->l.foldl (λm x=>max m (f x+1)) m=(l.map pl).foldl (λm k=>max m (1+h k)) m|[],_,_=>rfl|x::l,m,a=>by simp only[CW,fG];rw[a x s_,Int.add_comm];exact aPf f h pl l _ λy b=>a y (by simp[b])
def Reach.row {cs:List CardM} (s:cardsOk cs) {g:GM} (h:Reach cs g):RowOk cs g:=by
 induction h with
 |new=>exact⟨rfl,Mm,s_,s_⟩| @add g o v D z ih=>
  by_cases h:(dV g o).1=0;rotate_left;grind[addM];have b:=v.good s;have a:=Ff h;have q:=aE0 b.wf a;have n:(AM cs g.L).ok:=XM s g.L λx j=>⟨b.ok.ops x j,b.ids x j⟩
  have t:=aE8 b.sim n b.wf h;have u:=aPX t.1;have r:(AM cs g.L).nodes.length=g.L.length:=by have:=congrArg List.length b.sim.l;rwa[aP]at this
  have F:=b.wf.i;have d:=b.wf.un;rw[yE a h];refine⟨by simp[ih.ids],?_,?_,?_⟩;rw[vQ];refine⟨ih.nd,s_,?_⟩;intro x j y c e;rw[cA.1 c]at e;exact a.twice ((Cz g.I _).2 (e ▸ j));intro i f y c;simp only[dZ,GT]at f;rcases eD i g.L.length with h1|h1;rw[Ol _ _ _ _ h1]at c;rw[Ol _ _ _ _ (by rw[d];exact h1)];obtain⟨k,E,e⟩:=ih.par i h1 y c;grind;obtain rfl:i=g.L.length:=o_;rw[D2]at c;have p:(g.Up++[yW g o]).getD g.L.length []=yW g o:=by rw[<-d];exact D2 _ _ _
  rw[p];have w:=a.there y c;refine⟨(aW g.I y).toNat,dF.2 ⟨y,c,rfl⟩,?_⟩;have m:=q _ (dF.2 ⟨y,c,rfl⟩);rw[mY o_];exact aKH w;intro i f;simp only[dZ,GT]at f⊢;rw[MS,u];have C:aFc (g.Up++[yW g o]) (g.L.length+1)=aFc g.Up g.L.length++[Fa (AM cs g.L) o.Past]:=by
   rw[aFc,aPe _ _ _ o_];have p:(g.Up++[yW g o]).getD g.L.length []=yW g o:=by rw[<-d];exact D2 _ _ _
   rw[p];congr 2;unfold Fa;refine(aPf _ (λk=>(aFc g.Up g.L.length).getD k 0) (λx=>(aW g.I x).toNat) o.Past 1 ?_).symm;intro x j;have m:=q _ (dF.2 ⟨x,j,rfl⟩);rw[PGM.nd,aDZ,b.sim.i];exact ih.lv _ m
  rw[C];rcases eD i g.L.length with h1|h1;rw[Ol _ _ _ _ (by rw[r];exact h1),Ol _ _ _ _ (by rw[aLP];exact h1)];exact ih.lv i h1;obtain rfl:i=g.L.length:=o_;have B:((AM cs g.L).nodes++[(⟨o,C7 o,BF (AM cs g.L) o,Fa (AM cs g.L) o.Past⟩:ND)]).getD g.L.length XD=⟨o,C7 o,BF (AM cs g.L) o,Fa (AM cs g.L) o.Past⟩:=by rw[<-r];exact D2 _ _ _
  have A:(aFc g.Up g.L.length++[Fa (AM cs g.L) o.Past]).getD g.L.length 0=Fa (AM cs g.L) o.Past:=by
   have:=aLP g.Up g.L.length
   conv=>lhs;arg 2;rw[<-this]
   exact D2 _ _ _
  rw[B,A]
def aOa{lt:Nat->Nat->Bool}(f:∀a b,lt a b=true->lt b a=false)(e:∀a b c,lt b a=false->lt c b=false->lt c a=false)(p:Nat):∀out:V_,out.Pairwise (λx y=>lt y x=false) ->
 (out.take (out.takeWhile λq=>lt q p).length++p::out.drop (out.takeWhile λq=>lt q p).length).Pairwise λx y=>lt y x=false
 |[],_=>by simp| q::out,h=>by
  obtain⟨h1,h2⟩:=H5.1 h
  cases d:lt q p with
  |true=>
   rw[List.takeWhile_cons_of_pos (p:=λq=>lt q p) d,sE,QI,aBO,jC];refine H5.2 ⟨?_,aOa f e p out h2⟩;grind
  |false=>
   rw[List.takeWhile_cons_of_neg (p:=λq=>lt q p) gf];grind
def aPY(c:B_)(I:D_)(a b:Nat)(h:ahM c I a b=true):ahM c I b a=false:=by
 unfold ahM at *
 split at h;rename_i e;rw[if_pos e.symm];exact Id.lt_asymm h;grind
def aPB(d:B_)(I:D_)(a b c:Nat)(h:ahM d I b a=false)(k:ahM d I c b=false):ahM d I c a=false:=by
 unfold ahM at *
 split at h<;>split at k;rename_i f e;rw[if_pos (e.trans f)];exact Id.nlt_trans k h;simp_all;simp_all;grind
def aME(a:B_)(I:D_):∀(ps out:V_),out.Pairwise (λx y=>ahM a I y x=false)->(ps.foldl (aOL a I) out).Pairwise λx y=>ahM a I y x=false|[],_,h=>h| p::ps,out,h=>aME a I ps _ (by
   have:=aOa (lt:=ahM a I) (aPY a I) (aPB a I) p out h
   exact this)
section
variable{cs:List CardM}{g:GM}
def aPg(b:cardsOk cs)(h:Reach cs g)(i:Nat)(j:i<g.L.length):(AM cs g.L).nd (g.I.getD i default)=(AM cs g.L).nodes.getD i XD/\((AM cs g.L).nd (g.I.getD i default)).o=g.L.getD i default:=by
 have a:=h.good b;have r:=h.row b;have hI:=a.wf.i;have f:(AM cs g.L).nodes.length=g.L.length:=by have:=congrArg List.length a.sim.l;rwa[aP]at this
 have e:g.I.getD i default=g.I[i]'o_:=t_;have d:(AM cs g.L).at (g.I.getD i default)=i:=by
  rw[aDZ,a.sim.i,e];have h1:0<=aW g.I g.I[i]:=(Cz _ _).2 (eQ _);have h2:=aKH h1;have h3:(aW g.I g.I[i]).toNat<g.I.length:=f_;rw[jN h3]at h2;exact(C9 r.nd).1 (Option.some.inj h2)
 have c:(AM cs g.L).nd (g.I.getD i default)=(AM cs g.L).nodes.getD i XD:=by rw[PGM.nd,d]
 refine⟨c,?_⟩;rw[c];have h1:((AM cs g.L).nodes.map (·.o))[i]?=g.L[i]?:=by rw[a.sim.l]
 simp_all
def aPh(a:cardsOk cs)(h:Reach cs g)(i:Nat)(b:i<g.L.length):Su (AM cs g.L) (g.I.getD i default)=(aFc g.Up g.L.length).getD i 0:=by
 have c:=h.good a;have hI:=c.wf.i;have d:g.I.getD i default=g.I[i]'o_:=t_;rw[Su,if_pos (by rw[c.sim.i,d];exact eQ _),(aPg a h i b).1,(h.row a).lv i b]
def aQo(a:cardsOk cs)(h:Reach cs g)(i k:Nat)(c:i<g.L.length)(b:k<g.L.length):P0 (AM cs g.L) (g.I.getD i default) (g.I.getD k default)=ahM (aFc g.Up g.L.length) g.I i k:=by unfold P0 ahM;rw[aPh a h i c,aPh a h k b];grind
def aOA{I:D_}:∀{l:D_},(∀x∈l,x∈I)->(aHe I l).map (λi=>I.getD i default)=l|[],_=>rfl|x::l,h=>by have:=aKH ((Cz I x).2 (h x (by simp)));simp only[aHe,fG,rH,this,Mi];congr 1;exact aOA λy a=>h y (by simp[a])
def aRh(d:cardsOk cs)(h:Reach cs g){l:D_}(c:∀x∈l,x∈g.I):eO (AM cs g.L) l=(aM1 (aFc g.Up g.L.length) g.I (aHe g.I l)).map λi=>g.I.getD i default:=by
 have o:=h.good d;have hI:=o.wf.i;have b:(aM1 (aFc g.Up g.L.length) g.I (aHe g.I l)).Perm (aHe g.I l):=by have:=aMA (aFc g.Up g.L.length) g.I (aHe g.I l) [];rwa[jO]at this
 have a:∀p∈aM1 (aFc g.Up g.L.length) g.I (aHe g.I l),p<g.L.length:=λp f=>by obtain⟨x,e,rfl⟩:=dF.1 (b.mem_iff.1 f);have:=aKH ((Cz g.I x).2 (c x e));grind
 refine aLO ((mE _ l).trans ?_) (U4 _ l) ?_;have:=(b.map λi=>g.I.getD i default).symm;rwa[aOA c]at this;rw[Mh];refine(aME (aFc g.Up g.L.length) g.I (aHe g.I l) [] List.Pairwise.nil).imp_of_mem ?_;intro i k m j n;rw[aQo d h k i (a k j) (a i m)];exact n
end
end Hud
