import Derived.Test.YtdichbeaekjibaaGreatDoorLib29
set_option linter.all false
set_option maxHeartbeats 40000000
namespace Hud
open Go
def aLO{cs:List CardM}(hc:cardsOk cs)(hG:CardsG cs){g:GM}(hr:Reach cs g){S:D_}(hs:∀x∈S,x∈g.I)(U:S.Nodup)(af:∀y∈S,∀z,oH (AM cs g.L) z y=true->z∈S){R:V_}(eR:R=(eO (AM cs g.L) S).map λx=>(aW g.I x).toNat):
 (∀k∈R,k<g.L.length)/\(∀i(h:i<R.length),(sR (AM cs (KV g (R.take i))) (g.L.getD R[i] default)).2=0)/\GGood (AM cs (KV g R))/\∀x∈S,Same (AM cs g.L) (AM cs (KV g R)) x:=by
 have q:=hr.good hc;have D:∀o∈g.L,o.ok/\(C7 o).ok:=λo K=>⟨q.ok.ops o K,q.ids o K⟩
 have p:∀i,(AM cs (g.L.take i)).ok:=λi=>XM hc _ λo K=>D o (C8 K);have hN:=aBC p q.all g.L.length (cN _);rw[dE]at hN;have hI:g.I=g.L.map C7:=by rw[<-q.sim.i];exact hN.2.1
 have hg:∀k(h:k<g.L.length),g.L.getD k default=g.L[k]:=λk h=>by simp[rH,h]
 have Q:=hr.ggood hc hG
 obtain⟨c,B,ac,O,eR⟩:∃c:D_,(∀x,x∈c↔x∈S)/\c.Nodup/\c.Pairwise (λx y=>P0 (AM cs g.L) y x=false)/\R=c.map λx=>(aW g.I x).toNat :=
  ⟨_,λx=>(mE _ S).mem_iff,(mE _ S).nodup_iff.2 U,U4 _ S,eR⟩
 have hk:∀x∈S,(aW g.I x).toNat<g.L.length/\C7 (g.L.getD (aW g.I x).toNat default)=x:=λx d=>by have h1:=aBF q.ok.i (hs x d);have h2:=aE4 (hs x d);refine⟨h1,?_⟩;rw[hg _ h1];rw[rH,hI]at h2;rw[hI]at h1;simpa[h1,hI]using h2
 have C:R.map (λk=>C7 (g.L.getD k default))=c:=by
  rw[eR,rI]
  conv=>rhs;rw[<-List.map_id c]
  exact LD λx d=>(hk x ((B x).1 d)).2
 have ah:∀i,(R.take i).map (λk=>C7 (g.L.getD k default))=c.take i:=λi=>by rw[QN,C]
 have aj:R.length=c.length:=by rw[<-C,aP]
 have Y:∀k∈R,k<g.L.length:=λk h=>by rw[eR]at h;obtain⟨x,d,rfl⟩:=dF.1 h;exact(hk x ((B x).1 d)).1
 have X:R.Nodup:=List.Pairwise.of_map (S:=(· ≠ ·)) _ (λa b h e=>h (congrArg _ e)) (show(R.map λk=>C7 (g.L.getD k default)).Nodup from C ▸ ac);have H:∀i(h:i<R.length),C7 (g.L.getD R[i] default)=c[i]'o_:=λi h=>by
  have:(R.map (λk=>C7 (g.L.getD k default)))[i]'x_=c[i]'o_:=by simp only[C]
  simpa using this
 have W:∀k(h:k<g.L.length),g.L[k].Past=[]↔g.L[k].Kind=1:=λk h=>by
  have h1:=(Aq g.L[k]).symm.trans (aCZ p q.all h).1.check;have h2:decide (g.L[k].Past.length=0)=decide (g.L[k].Kind=1):=by grind[jB]
  rw[decide_eq_decide]at h2;rw[<-h2,List.length_eq_zero_iff]
 have ae:∀x∈g.I,1<=((AM cs g.L).nd x).lv:=λx d=>by rw[hI]at d;obtain⟨o,K,rfl⟩:=dF.1 d;obtain⟨k,h,rfl⟩:=List.mem_iff_getElem.1 K;rw[(aCZ p q.all h).2.2.2.2.1];exact(aH9 _ _).1
 have u:(AM cs g.L).I=g.I:=q.sim.i;have V:∀x y,x∈g.I->y∈g.I->((AM cs g.L).nd x).lv<((AM cs g.L).nd y).lv->P0 (AM cs g.L) x y=true:=λx y d hy h=>by unfold P0 Su;rw[u];simp[d,hy,h]
 have T:∀i(h:i<R.length),∀x∈(g.L.getD R[i] default).Past,x∈(R.take i).map λk=>C7 (g.L.getD k default):=by
  intro i h x d;have v:=Y _ (eQ h);have A:=H i h;obtain⟨t,s,m,o0,l0,b0⟩:=aCZ p q.all v;rw[hg _ v]at d A;rw[A]at m l0 b0;have M:=s x (t.there x d);have hb:oH (AM cs g.L) x (c[i]'o_)=true:=by rw[b0];unfold anc;exact CX.2 ⟨x,d,k_⟩
  have ab:=(B x).2 (af _ ((B _).1 (eQ _)) x hb);have hl:=(aH9 (AM cs (g.L.take R[i])) g.L[R[i]].Past).2 x d;have h1:=V x (c[i]'o_) (u ▸ M.r) (u ▸ m) (by rw[l0,<-M.lv];omega);rw[ah];obtain⟨j,hj,rfl⟩:=List.mem_iff_getElem.1 ab;rcases aGJ j i with e|e|e;exact TT.2 ⟨j,o_,rfl⟩;subst e;rw[aGT]at h1;exact absurd h1 d_;have:=QD.1 O i j o_ hj e;rw[this]at h1;exact absurd h1 d_
 have F:∀i(h:i<R.length),(g.L.getD R[i] default).Kind=1->i=0:=by
  intro i h G;rcases JX i with e|e;exact e;have v:=Y _ (eQ h);have A:=H i h;have J:=Y _ (eQ (o_:0<R.length));have P:=H 0 o_;rw[hg _ v]at G A;rw[hg _ J]at P;obtain⟨t,s,m,o0,l0,b0⟩:=aCZ p q.all v;obtain⟨t',s',m',ai,aa,ak⟩:=aCZ p q.all J;have z0:R[i]=0:=by
   have h1:=t.kind G;have h2:=(aBC p q.all R[i] o_).2.1;have h3:(AM cs (g.L.take R[i])).I=[]:=by unfold PGM.I;rw[h1];rfl
   rw[h3]at h2;have:=congrArg List.length h2;simp only[gQ,aP,eC]at this;omega
  have z1:R[0]≠0:=λZ=>by have:=(C9 X).1 (Z.trans z0.symm);omega
  have k0:g.L[R[0]].Kind≠1:=λZ=>by
   have h1:=t'.kind Z;have h2:=(aBC p q.all R[0] o_).2.1;have h3:(AM cs (g.L.take R[0])).I=[]:=by unfold PGM.I;rw[h1];rfl
   rw[h3]at h2;have:=congrArg List.length h2;simp only[gQ,aP,eC]at this;omega
  have p0:g.L[R[0]].Past≠[]:=λZ=>k0 ((W _ J).1 Z);obtain⟨x,d⟩:=List.exists_mem_of_ne_nil _ p0;have h2:=(aH9 (AM cs (g.L.take R[0])) g.L[R[0]].Past).2 x d;have M:=s' x (t'.there x d);have h3:=ae x (u ▸ M.r);rw[<-M.lv]at h3;have h4:((AM cs g.L).nd (C7 g.L[R[i]])).lv=1:=by rw[l0,(W _ v).2 G];rfl
  have h5:=V _ _ (u ▸ m) (u ▸ m') (show((AM cs g.L).nd (C7 g.L[R[i]])).lv<((AM cs g.L).nd (C7 g.L[R[0]])).lv by rw[h4,aa];omega);rw[A,P,QD.1 O 0 i o_ o_ e]at h5;exact absurd h5 d_
 have hP:=aJF p D hc q.all q.n Y X T F;have hE:=hP R.length (cN _);rw[dE,show(R.map λk=>g.L.getD k default)=KV g R from rfl]at hE;obtain⟨w,ok,ad,E,_⟩:=hE;refine⟨Y,λi h=>(hP i o_).2.2.2.2 h,⟨ok,?_,?_,?_⟩,λx d=>E x ?_⟩;intro n U;obtain⟨k,h,rfl⟩:=List.mem_iff_getElem.1 U;obtain⟨y,hy,_,e⟩:=aH3 w h;have s:=E y hy;have:=Q.chk _ (aEo s.l);rw[s.o,e]at this;have e2:∀(N:List ND)(h:k<N.length),N.getD k XD=N[k]:=λN h=>by simp[rH,h]
 rw[e2 _ h]at this;exact this;show CardsG (AM cs _).cards;rw[RL cs _ _ rfl];exact hG.perm (H4 _ _);intro n U;have h1:=(E n.id (List.mem_map_of_mem (f:=(·.id)) U)).l;obtain⟨m,hm,e⟩:=dF.1 h1;have:=Q.idb m hm;have e2:m.id=n.id:=e;rw[e2]at this;exact this;rw[ad,C];exact(B x).2 d
section
variable{G:L_}
def aIE(hK:GK G)(N:AK G)(l m:B_)(hl:l.length<=2^63-1)(P:∀n∈l,mZ n)(hm:m.length<=2^63-1)(ad:∀n∈m,mZ n):
 aA PQ G aCE [rG l,rG m] [] λr T=>r=.v (.bool true)/\T=[]:=by
 apply aC aE2;simp only[go_sem];apply Jo (aBj l hl P 14 d_);rintro r T' ⟨⟨g,s,al,rfl⟩,rfl⟩;have f:=s.hyp6.1;have t:=s.good rY;have o:=s.ggood rY JP;simp only[go_sem];apply cX (VZ g f);simp only[go_sem];apply kM (RS hK s);have Q:=t.sim;have ab:(AM bQ g.L).I=g.I:=t.sim.i;simp only[go_sem,TG,MG];apply cX (aE7 g f m hm ad);have E:=s.nd rY;have j:=XW f.i m;have c:=Sy f.i E m;have aj:=XX f m;have H:=λx e y h=>aE5 t.wf E (m:=m) (y:=x) (z:=y) e ((aLM Q t.n y x).symm.trans h);generalize qI g m=S at *
 obtain⟨R,O⟩:∃R:V_,R=(eO (AM bQ g.L) S).map λx=>(aW g.I x).toNat:=⟨_,rfl⟩
 obtain⟨hR,K,C,b⟩:=aLO rY JP s j c H O;have ae:(AM bQ g.L).cards=(AM bQ (KV g R)).cards:=by rw[RL bQ _ _ rfl,RL bQ _ _ rfl]
 have F:=t.cards;have M:=aGe (G:=G) hK g f (F ▸ rY) t.ids R hR (by rw[O,aP,aDM];omega);rw[F]at M;have M:=M K;have hO:=ZK (G:=G) (AM bQ g.L) o.ok S c o_;have B:=mE (AM bQ g.L) S;have af:∀i(h:i<R.length)(h':i<(eO (AM bQ g.L) S).length),aW g.I (eO (AM bQ g.L) S)[i]=(R[i]:Int):=λi h h'=>by have h1:=(Cz g.I _).2 (j _ (B.mem_iff.1 (eQ h')));simp only[O,zL];omega
 have ah:R.length=(eO (AM bQ g.L) S).length:=by rw[O,aP]
 have c1:=aGg ae b;have J:(eO (AM bQ g.L) S).reverse.Perm S:=(List.reverse_perm _).trans B;have c2:=(aE3 (g:=AM bQ (KV g R)) J).trans c1.symm;have c3:=aE3 (g:=AM bQ g.L) J;have aa:=λx=>Dt (G:=G) g x f;have ai:=aBl hK (aIS N);have w:∀x∈S,x∈(AM bQ g.L).I:=λx e=>by rw[ab];exact j x e
 have u:∀x∈S,x∈(AM bQ (KV g R)).I:=λx e=>(b x e).r;have am:(kW (AM bQ g.L) S).length<=1000:=by have h:=(Aa (g:=AM bQ g.L) (V:=sU (AM bQ g.L) (eO (AM bQ g.L) S) (zH S)) (eO (AM bQ g.L) S) []).length_le;rw[dM,aDM]at h;have h2:(kW (AM bQ g.L) S).length<=S.length:=h;omega
 clear O H b K;generalize AM bQ g.L=p at *
 generalize AM bQ (KV g R)=q at *
 have X:=aDM p S;generalize eO p S=a at *
 simp only[go_sem];apply aG (T2:=TG 0 p) [1,2,3] (aB _) d_ k_ rfl w_ hO;rintro r T' ⟨rfl,rfl⟩;simp only[go_sem,TG,MG];have ak:=f.n;refine aQ R.length (λi=>⟨0,[(5,.ptr 0 0),(6,.ptr 1 0),(7,ids S),(8,ids a),(9,.own 2),(10,.own 3),(11,iv i)],[some (.box g.A),some (.box [.ls 5 (p.cards.map CardM.A),.mp 4,.own 5]),some (.arr 1 ((R.take i).map λ(k:Nat)=>[iv (k:Int)])),some (.arr 3 ((a.reverse.take i).map Id.A)),some (MG p.I),some (.arr 35 (p.nodes.map ND.A))]⟩) (λ_=>True) ?_ trivial ?_ ?_;simp only[go_sem,MG,uQ,uP];intro i P _;have d:i<a.length:=o_;have ws:=fQ i o_;have g0:(a.map Id.A)[i]?=some a[i].A:=aO _ a i d;have hp:=aa a[i];rw[af i P d]at hp;have c0:decide ((R[i]:Int)<0)=false:=decide_eq_false o_;have w1:IntKind.i64.wrap ((a.length:Int)-1)=(a.length:Int)-1:=aJ o_ o_;have w2:IntKind.i64.wrap ((a.length:Int)-1-(i:Int))=((a.length-1-i:Nat):Int):=a_;have hj:a.length-1-i<a.length:=o_;have g1:(a.map Id.A)[a.length-1-i]?=some a[a.length-1-i].A:=aO _ a _ hj;have e1:(R.take (i+1)).map (λ(k:Nat)=>[iv (k:Int)])=(R.take i).map (λ(k:Nat)=>[iv (k:Int)])++[[iv (R[i]:Int)]]:=by rw[lB P,bZ];rfl
 have e2:(a.reverse.take (i+1)).map Id.A=(a.reverse.take i).map Id.A++[a[a.length-1-i].A]:=by rw[lB (by simpa using d),bZ,List.getElem_reverse];rfl
 have l1:(R.take i).length=i:=c_;have l2:(a.reverse.take i).length=i:=c_;rw[e1,e2];simp only[go_sem,MG,aP,aT d,g0];apply cX hp;simp only[go_sem,MG,aP,d,g0,g1,c0,w1,w2,hj,l1,l2,ws,(g_:i+1<=maxLen),(o_:(i+1)*8<=140737488355328),(o_:(i+1)*24<=140737488355328)];intro _;have W:a.reverse.take R.length=a.reverse:=sG (by rw[List.length_reverse];omega);have ac:a.length=S.length:=X;rw[rG,rI]at M;have D:a.reverse.Nodup:=J.nodup_iff.2 c;have Z:∀x∈a.reverse,x∈p.I:=λx e=>w x (J.mem_iff.1 e);have Y:∀x∈a.reverse,x∈q.I:=λx e=>u x (J.mem_iff.1 e);simp only[go_sem,MG,aP,<-ah,aS (bP _),dE,W];apply kM M;generalize a.reverse=U at *
 simp only[go_sem,TG,MG,aP,ac];apply cI (Vj N (p:=(1,2,3)) ⟨rfl,rfl,rfl,d_,d_,d_⟩ o w c);simp only[go_sem];apply cI (Vj N (p:=(4,5,6)) ⟨rfl,rfl,rfl,d_,d_,d_⟩ C u c);have hS:=Pr (G:=G) (kW p S) (kW p S) g_;rw[<-c1];simp only[go_sem];apply cX hS;simp only[go_sem];apply cI (Vj N (p:=(4,5,6)) ⟨rfl,rfl,rfl,d_,d_,d_⟩ C Y D);rw[c2];simp only[go_sem];apply cX hS;simp only[go_sem];apply cI (Vj N (p:=(1,2,3)) ⟨rfl,rfl,rfl,d_,d_,d_⟩ o Z D);rw[c3];simp only[go_sem];apply cX hS;simp only[go_sem];apply cX ai;simp only[go_sem]
end
end Hud
