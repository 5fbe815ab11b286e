import Derived.Test.YtlhonkjgkfdnmaaGreatDoorLib41
import Derived.Test.YtlhonkjgkfdnmaaGreatDoorLib42
set_option linter.all false
set_option maxHeartbeats 40000000
namespace Hud
open Go
variable{G:L_}
def aQk {cs:List CardM} (v:cardsOk cs) {g:GM} (B:Reach cs g) {x z:Id} (h:oH (AM cs g.L) z x=true):Su (AM cs g.L) z<Su (AM cs g.L) x:=by
 have f:=B.good v;have d:∀i,(AM cs (g.L.take i)).ok:=λi=>XM v _ λo e=>⟨f.ok.ops o (C8 e),f.ids o (C8 e)⟩
 have w:=aJf d f.all g.L.length (cN _);rw[dE]at w;obtain⟨A,l⟩:=aMp h;unfold Su;rw[if_pos A,if_pos l];have m:∀k,(u:k<g.L.length)->∀z,oH (AM cs g.L) z (C7 g.L[k])=true->((AM cs g.L).nd z).lv<((AM cs g.L).nd (C7 g.L[k])).lv:=by
  intro k
  induction k using Nat.strongRecOn with
  | _ k ih=>
   intro u z a;obtain⟨t,s,_,_,D,C⟩:=aP7 d f.all u;rw[C]at a;unfold anc at a;obtain⟨y,p,a⟩:=CX.1 a;have n:=(aQi (AM cs (g.L.take k)) g.L[k].Past).2 y p;have c:=t.there y p;rw[(s y c).lv]at n;rw[D];rw[Ec,decide_eq_true_eq]at a;rcases a with rfl|a;omega;rw[(aJf d f.all k o_).2.1]at c;obtain⟨o,e,rfl⟩:=dF.1 c;obtain⟨j,r,rfl⟩:=List.mem_iff_getElem.1 e;have q:j<k:=by rw[eC]at r;omega
   rw[List.getElem_take]at *
   have:=ih j q o_ z (by rw[<-(s _ (t.there _ p)).b];exact a);omega
 rw[w.2.1]at l;obtain⟨o,e,rfl⟩:=dF.1 l;obtain⟨j,r,rfl⟩:=List.mem_iff_getElem.1 e;exact m j r z h
def aMb{I b:D_}{y:Id}:∀(l out:D_),y∈l.foldl (uD I b) out↔y∈out\/(y∈l/\y∈I/\y∉b)|[],out=>by simp|z::l,out=>by rw[CW,aMb l];have c:=Cz I z;unfold uD;split;rename_i a;simp only[zJ,decide_eq_true_eq,EX,decide_eq_false_iff_not]at a;grind;rename_i a;simp only[zJ,decide_eq_true_eq,EX,decide_eq_false_iff_not]at a;grind
def aRa{g:GM}(w:g.wf){x y:Id}(h:bfM g x y=true):(aW g.I x).toNat<(aW g.I y).toNat:=by unfold bfM at h;simp only[zJ,decide_eq_true_eq]at h;have a:=(w.past _ (aJ3 w.i h.2.1) _).1 h.2.2;exact RU.lt (w.up _) w.up a
def aMI{g:GM}(w:g.wf)(e:g.I.Nodup):∀(n:Nat)(y:Id),y∈g.I->g.L.length<=n+(aW g.I y).toNat->y∈yV g g.I\/∃h∈yV g g.I,bfM g y h=true:=by
 have f:∀y,y∈yV g g.I↔y∈g.I/\¬∃z∈g.I,bfM g y z=true:=λy=>by unfold yV;rw[(dQ _).mem_iff,aMb,aP8 w.i e];simp
 intro n
 induction n with
 |zero=>
  intro y a h;have:=aJ3 w.i a;omega
 | succ n ih=>
  intro y a h;by_cases b:∃z∈g.I,bfM g y z=true;obtain⟨z,c,h1⟩:=b;have h2:=aRa w h1;rcases ih z c o_ with h3|⟨u,d,h3⟩
  exact .inr ⟨z,h3,h1⟩;exact .inr ⟨u,d,aP1 w h1 h3⟩;exact .inl ((f y).2 ⟨a,b⟩)
def aOc(d:Int):∀(l:D_)(n:Int),∀z∈l,z.a=d->z.b<=l.foldl (vM d) n|x::l,n,z,c,e=>by rw[CW];rcases cS.1 c with rfl|c;refine Int.le_trans ?_ (XH d l _);unfold vM;rw[if_pos e];split<;>omega;exact aOc d l _ z c e
def aMM{g:GM}{o:OpM}{X:D_}(h:(aBC g o X).L.length≠g.L.length):(aBC g o X).L=g.L++[cM (aH8 g o X)]/\(aBC g o X).I=g.I++[C7 (cM (aH8 g o X))]:=by
 unfold aBC addM at *
 split at h;exact absurd rfl h;rename_i a;rw[if_neg a];exact⟨rfl,rfl⟩
def aOn {g:GM} (s:Reach bQ g) {o:OpM} (C:o.ok) (W:jM o=false) (Y:byO o=none) (h:(aBC g o g.I).L.length≠g.L.length):
 Last1 (AM bQ (aBC g o g.I).L) g.I (C7 (cM (aH8 g o g.I)))/\(∀y∈g.I,Same (AM bQ g.L) (AM bQ (aBC g o g.I).L) y)/\((AM bQ (aBC g o g.I).L).nd (C7 (cM (aH8 g o g.I)))).o=cM (aH8 g o g.I)/\∀y∈g.I,B8 (g.I++[C7 (cM (aH8 g o g.I))]) y=B8 g.I y:=by
 obtain⟨P,e2⟩:=aMM h;have q:=aGf s s.hyp6.1 C g.I s.seqb;have D:=q.good rY;have e:=s.good rY;have G:=s.nd rY;have w:=q.nd rY;have K:=λx z=>aQk rY q (x:=x) (z:=z);have V:(AM bQ (aBC g o g.I).L).I=(aBC g o g.I).I:=D.sim.i;have m:(AM bQ g.L).I=g.I:=e.sim.i;have F:∀i,(AM bQ ((aBC g o g.I).L.take i)).ok:=λi=>XM rY _ λo C=>⟨D.ok.ops o (C8 C),D.ids o (C8 C)⟩
 have H:g.L.length<(aBC g o g.I).L.length:=by rw[P];simp
 have O:(aBC g o g.I).L.take g.L.length=g.L:=by rw[P];simp
 have N:(aBC g o g.I).L[g.L.length]=cM (aH8 g o g.I):=by simp[P]
 obtain⟨t,E,U,d,_,B⟩:=aP7 F D.all H;rw[O,N]at t;rw[O,m]at E;rw[N]at U d;rw[N,O]at B;have l:∀z∈g.I,z.a=(C7 (cM (aH8 g o g.I))).a->z.b<(C7 (cM (aH8 g o g.I))).b:=λz T X=>by have:=aOc o.By g.I 0 z T X;show z.b<Sx g.I o.By;unfold Sx;omega
 have r:(cM (aH8 g o g.I)).Past=yV g g.I:=rfl;have J:jM (cM (aH8 g o g.I))=false:=W;have M:byO (cM (aH8 g o g.I))=none:=Y;have p:C7 (cM (aH8 g o g.I))∉g.I:=λc=>by rw[e2]at w;exact(vQ.1 w).2.2 _ c _ s_ rfl
 generalize cM (aH8 g o g.I)=S at *
 generalize aBC g o g.I=R at *
 generalize C7 S=x at *
 have A:∀y∈g.I,oH (AM bQ R.L) y x=true:=λy f=>by
  rw[B];unfold anc;rw[r,CX];rcases aMI e.wf G g.L.length y f o_ with h1|⟨u,k,h1⟩
  exact⟨y,h1,s_⟩;exact⟨u,k,by rw[aQf e.sim e.n];simp[h1]⟩
 refine⟨⟨p,by rw[d];exact J,by rw[d];exact M,λy f=>?_,λy f=>?_,λy f=>?_⟩,E,d,λy f=>?_⟩;unfold lA;rw[A y f];simp;cases Q:oH (AM bQ R.L) x y;rfl;rw[<-(E y f).b]at Q;have:=(aMp Q).1;rw[m]at this;exact absurd this p;have:=K _ _ (A y f);unfold P0;simp[this];unfold B8;rw[CT];simp only[CX,cG,cA,zJ,EX,decide_eq_false_iff_not,beq_iff_eq,decide_eq_true_eq];constructor;rintro⟨u,k,v,j,h1,h2,h3,h4,Z⟩;rcases k with k|rfl;rcases j with j|rfl;exact⟨u,k,v,j,h1,h2,h3,h4,Z⟩;have:=l u k o_;omega;rcases j with j|rfl;have:=l v j o_;omega;exact absurd rfl h1;rintro⟨u,k,v,j,h1⟩;exact⟨u,.inl k,v,.inl j,h1⟩
def erL(c:Bool)(y:Id)(L:List LnM):List LnM:=L.map λn=>⟨n.id,n.er||(c&&decide (y=n.id)),n.re⟩
def aMU{g:PGM}{C:D_}{x:Id}(a:(g.nd x).o.Kind=8):aBA g (C++[x])=erL true (g.nd x).o.Of (aBA g C):=by
 have b:aH9 g (C++[x])=aH9 g C:=by rw[aIE,aE2,if_neg o_]
 unfold aBA aBB erL;rw[b,Mf,List.filter_cons_of_neg (by simp[a]),List.filter_nil,jO,rI];refine LD λy _=>?_;simp[aJ6,a]
def aOo(y:Id)(L:List LnM):erL false y L=L:=by unfold erL;simp
def aHG(c:Bool)(y:Id)(L:List LnM):(erL c y L).length=L.length:=aP ..
def aOe{c:Bool}{y:Id}{L:List LnM}{i:Nat}(h:i<(erL c y L).length):(erL c y L)[i]=⟨(L[i]'(by rw[aHG]at h;exact h)).id,(L[i]'(by rw[aHG]at h;exact h)).er||(c&&decide (y=(L[i]'(by rw[aHG]at h;exact h)).id)),(L[i]'(by rw[aHG]at h;exact h)).re⟩:=by simp[erL]
def aPb{y:Id}{L:List LnM}:y∉aBF (erL true y L):=by unfold aBF erL;intro h;obtain⟨n,a,e⟩:=dF.1 h;obtain⟨h1,h2⟩:=gR.1 a;obtain⟨m,b,rfl⟩:=dF.1 h1;have e:m.id=y:=e;simp[e]at h2
def aN3{g:GM}(l:Reach bQ g){o:OpM}(m:o.ok)(c:o.Kind=8)(h:(aBC g o g.I).L.length≠g.L.length):
 ∃x,(aBC g o g.I).I=g.I++[x]/\x∉g.I/\aBA (AM bQ (aBC g o g.I).L) (kW (AM bQ (aBC g o g.I).L) (aBC g o g.I).I)=erL (decide (x∈kW (AM bQ (aBC g o g.I).L) (aBC g o g.I).I)) o.Of (aBA (AM bQ g.L) (kW (AM bQ g.L) g.I)):=by
 obtain⟨f,e,d,k⟩:=aOn l m (by unfold jM;simp[c]) (by unfold byO;simp[c]) h;have t:=(aMM h).2;have s:((AM bQ (aBC g o g.I).L).nd (C7 (cM (aH8 g o g.I)))).o.Kind=8:=by rw[d];exact c
 have r:((AM bQ (aBC g o g.I).L).nd (C7 (cM (aH8 g o g.I)))).o.Of=o.Of:=e_;have i:(AM bQ g.L).cards=(AM bQ (aBC g o g.I).L).cards:=by rw[RL _ _ _ rfl,RL _ _ _ rfl]
 have p:=aME i e;have n:=aNI (C:=kW (AM bQ g.L) g.I) i λy j=>(e y (aET y j)).o;have b:=aMH f k;rw[t];generalize C7 (cM (aH8 g o g.I))=x at *
 generalize AM bQ (aBC g o g.I).L=q at *
 refine⟨x,rfl,f.new,?_⟩;rw[n,p];by_cases a:x∈kW q (g.I++[x]);rw[if_pos a]at b;rw[decide_eq_true a,b,aMU s,r];rw[if_neg a]at b;rw[decide_eq_false a,b,aOo]
def aSF{A W:aK}{p:PGM}:GAt (A++(TG A.length p++W)) (A.length,A.length+1,A.length+2) p :=
 ⟨by simp[TG],by simp[TG],by simp[TG],s_,s_,s_⟩
def aMr (hK:GK G) (hA:AK G) (l:B_) (m n:Int) (hl:l.length<=2^63-1) (hi:∀n∈l,mZ n) (ao:mZ m) (am:mZ n):
 aA PQ G aID [rG l,iv m,iv n] [] λr T=>r=.v (.bool true)/\T=[]:=by
 apply aC aJu;simp only[go_sem];apply Jo (aBj l hl hi 18 d_);rintro r T' ⟨⟨g,N,bu,rfl⟩,rfl⟩;have hg:=N.hyp6.1;have gd:=N.good rY;have be:=N.ggood rY JP;have an:=N.nd rY;have bb:(AM bQ g.L).I=g.I:=gd.sim.i;have cb:=hg.i;simp only[go_sem];apply kM (aJE hK N);simp only[go_sem,aMB];have ba:∀x∈g.I,x∈(AM bQ g.L).I:=λx hx=>by rw[bb];exact hx
 have hL:=aLJ hA (aOk (o:=some (AObj.box g.A))) be ba an o_;have M:=aM5 (G:=G) hK hA;have ca:(aBA (AM bQ g.L) (kW (AM bQ g.L) g.I)).length<=22:=uR (aIX _ _) (uR aE4 o_);have bk:=λ(o:OpM)(ho:o.ok)=>aN3 N ho;have aa:=aK8 (AM bQ g.L) (kW (AM bQ g.L) g.I);have bj:((aBA (AM bQ g.L) (kW (AM bQ g.L) g.I)).map (·.id)).Nodup:=by rw[aa];exact(aK1 an).filter _
 have bh:∀n∈aBA (AM bQ g.L) (kW (AM bQ g.L) g.I),n.id∈g.I:=λn hn=>by have:n.id∈(aBA (AM bQ g.L) (kW (AM bQ g.L) g.I)).map (·.id):=List.mem_map_of_mem hn;rw[aa]at this;exact aET _ (gR.1 this).1
 generalize aBA (AM bQ g.L) (kW (AM bQ g.L) g.I)=L at *
 have h0:∀W:aK,((some (AObj.box g.A)::TG 1 (AM bQ g.L))++W)[0]?=some (some (.box g.A)):=λW=>rfl;have bw:0<(some (AObj.box g.A)::TG 1 (AM bQ g.L)).length:=s_;generalize some (AObj.box g.A)::TG 1 (AM bQ g.L)=T at *
 apply jA hL;rintro y T' ⟨X,rfl,ah⟩;rcases ah with⟨rfl,rfl⟩|⟨a,b,ak,rfl,B,d,Y⟩
 simp only[go_sem];apply cX M;simp only[go_sem,aE3,uP];cases b
 all_goals (
  simp only[jE]at B
  have D:=λW:aK=>aF (X:=W) B
  have aq:L=[]\/0<L.length:=by cases L<;>simp
  rcases aq with rfl|aq
  obtain rfl:ak=[]:=List.length_eq_zero_iff.1 d
  simp only[go_sem,nY,B,d,gQ,beq_self_eq_true]
  apply cX M
  simp only[go_sem,aE3,uP]
  have hz:((L.length:Int)==0)=false:=se
  have hk:=BJ n (L.length:Int) o_
  have av:=Dl (G:=G) n (L.length:Int) am.1 am.2 o_ o_
  obtain⟨k,ek⟩:∃k:Nat,pX n (L.length:Int)=k:=⟨(pX n (L.length:Int)).toNat,o_⟩
  rw[ek]at av hk
  have w:k<L.length:=o_
  simp only[go_sem,nY,B,d,hz]
  apply cX av
  have hj:=BJ m 4 d_
  have ab:=Dl (G:=G) m 4 ao.1 ao.2 d_ d_
  generalize pX m 4=j at *
  obtain⟨v,V,_⟩:=Y k w
  have w1:IntKind.i64.wrap (1+j)=1+j:=aJ o_ o_
  have af:(xE (1+j) L[k].id).ok:=aOP (okS ⟨o_,o_⟩) (hg.is _ (bh _ (eQ w)))
  have hM:=(aOK (G:=G) g hg (xE (1+j) L[k].id) af (o_:0<=1+j) g.I N.seqb o_ (GR N _)).mid (aQ0 (1+j) L[k].id)
  simp only[go_sem,nY,B,D,d,w,V,h0]
  refine'(λ(ac:(_:Prop))=>⟨cX ab ?_,cX ab ?_⟩) ?_
  rotate_left 2
  simp only[go_sem,nY,B,D,d,w,V,h0,w1]
  refine⟨cX hM ?_,cX hM ?_⟩
  simp only[go_sem,nY,B,D,d,w,V,h0,w1]
  exact ac
  simp only[go_sem,nY,B,D,d,w,V,h0,w1]
  exact ac
  simp only[go_sem,nY,B,D,d,w,V,h0,w1]
  apply cX hM
  simp only[go_sem,nY,B,D,d,w,V,h0,w1]
  exact ac
  have H:=aGf N hg af g.I N.seqb
  have hE:=bk _ af rfl
  have bf:=H.hyp6.1
  have cc:=bf.i
  have K:=H.ggood rY JP
  have J:=H.nd rY
  have al:(AM bQ (aBC g (xE (1+j) L[k].id) g.I).L).I=(aBC g (xE (1+j) L[k].id) g.I).I:=(H.good rY).sim.i
  have bp:=(H.good rY).n
  generalize aBC g (xE (1+j) L[k].id) g.I=q at *
  apply kM (aJE hK H)
  have hB:∀W:aK,(X++(some (.box q.A)::W))[X.length]?=some (some (.box q.A)):=λW=>s_
  by_cases he:q.L.length=g.L.length
  have q1:((q.I.length:Int)==(g.I.length:Int))=true:=by rw[beq_iff_eq];omega
  simp only[go_sem,nY,aMB,h0,hB,aP,eB,jC,dM,q1]
  apply cX M
  simp only[go_sem,aE3,uP]
  have q1:((q.I.length:Int)==(g.I.length:Int))=false:=se
  obtain⟨x,O,bo,ax⟩:=hE he
  have q2:IntKind.i64.wrap ((q.I.length:Int)-1)=(g.I.length:Int):=by rw[O,dZ,GT,aJ o_ o_];omega
  have q3:(q.I.map Id.A)[g.I.length]?=some x.A:=by rw[O];simp
  have bz:q.I.length<=19:=by rw[O,dZ,GT];omega
  rw[Id.A_def]at q3
  simp only[go_sem,nY,aMB,h0,hB,aP,eB,jC,dM,q1,q2,q3]
  have ap:(TG (T.length+(X.length+1)) (AM bQ q.L)).length=3:=by simp[TG]
  have hN:=aSF (A:=T++(X++[some (.box q.A)])) (W:=[some (.box x.A)]) (p:=AM bQ q.L)
  simp only[dZ,GT,eB,jC,dM]at hN
  have F:∀y∈q.I,y∈(AM bQ q.L).I:=λy hy=>by rw[al];exact hy
  have aj:=aLJ hA hN K F J o_
  have hW:=λW:aK=>aHg hA (hN.app (X:=W)) K F J x
  have ay:=aPw (x:=x) F (by rw[O];simp:x∈q.I)
  have E:=λW:aK=>aNt hA (hN.app (X:=W)) K F J o_ 500
  rw[ax]at aj E
  generalize decide (x∈kW (AM bQ q.L) q.I)=c at *
  have bn:=aHG c L[k].id L
  have bq:=aHe (erL c L[k].id L)
  have au:∀W:aK,((T++(X++some (.box q.A)::(TG (T.length+(X.length+1)) (AM bQ q.L)++[some (.box x.A)])))++W)[T.length+(X.length+4)]?=some (some (.box x.A)):=λW=>by simp[TG]
  have S:∀W:aK,((T++(X++some (.box q.A)::(TG (T.length+(X.length+1)) (AM bQ q.L)++[some (.box x.A)])))++W)[T.length+X.length]?=some (some (.box q.A)):=λW=>s_
  have C:∀W:aK,((T++(X++some (.box q.A)::(TG (T.length+(X.length+1)) (AM bQ q.L)++[some (.box x.A)])))++W)[T.length+a]?=X[a]?:=λW=>by rw[eB,aZ,eB];rw[D];exact B.symm
  have bg:∀(W:aK)(b:Nat)(o:Option AObj),X[b]?=some o->((T++(X++some (.box q.A)::(TG (T.length+(X.length+1)) (AM bQ q.L)++[some (.box x.A)])))++W)[T.length+b]?=some o:=λW b o h=>by rw[eB,aZ,eB];exact aF h
  have bd:∀i(h:i<L.length),decide (L[k].id=L[i].id)=((i:Int)==(k:Int)):=λi h=>by
   rw[CT,decide_eq_true_eq,beq_iff_eq];constructor;intro e;have e2:(L.map (·.id))[k]'(by rw[aP];exact w)=(L.map (·.id))[i]'(by rw[aP];exact h):=X_;have:=(C9 bj).1 e2;omega;intro e;obtain rfl:i=k:=o_;rfl
  simp only[xE]at aj E
  apply jA aj
  rintro y2 T' ⟨X2,rfl,ah⟩
  generalize T++(X++some (.box q.A)::(TG (T.length+(X.length+1)) (AM bQ q.L)++[some (.box x.A)]))=U at *
  rcases ah with⟨e,rfl⟩|⟨a2,b2,aw,rfl,z,s,ad⟩
  have:=congrArg List.length e
  rw[aHG,gQ]at this
  omega
  rw[aHG]at s
  cases b2
  all_goals (
   simp only[jE]at z
   have bm:=λW:aK=>aF (X:=W) z
   simp only[go_sem,nY,ap,C,S,au,B,z,d,s,bne_self_eq_false]
   apply cI (hW X2)
   simp only[go_sem,nY,ap,C,S,au,B,z,d,s,ay]
   have cE:aOZ (aBF (erL c L[k].id L)) 500=aBF (erL c L[k].id L):=aMC o_
   have ar:=E X2
   rw[cE]at ar
   have bi:=uJ (G:=G) (aBF (erL c L[k].id L)) L[k].id g_
   apply kL (λn st=>∃i,i<=L.length/\n=L.length-i/\st=⟨0,[(16,iv i),(15,.v (.bool c)),(14,.own (U.length+a2)),(12,.ptr (T.length+(X.length+1)) 0),(11,.ptr (T.length+X.length) 0),(10,iv k),(9,.own (T.length+a))],U++X2⟩) L.length ⟨0,pR _,rfl,rfl⟩
   rintro n2 st ⟨i,bt,br,rfl⟩
   rcases eD i L.length with u|bv
   rotate_left
   obtain rfl:i=L.length:=o_
   simp only[go_sem,nY,z,s,aS (bP _)]
   cases c
   simp only[go_sem,nY]
   apply cX M
   simp only[go_sem,aE3,uP]
   simp only[go_sem,nY,C,S,B,d,w,V]
   apply cI ar
   simp only[go_sem,nY,C,S,B,d,w,V]
   apply cX bi
   simp only[go_sem,nY,decide_eq_false (aPb (y:=L[k].id) (L:=L))]
   apply cX M
   simp only[go_sem,aE3,uP]
   have ws:=fQ i o_
   obtain⟨v1,Q,az⟩:=Y i u
   obtain⟨v2,t,P⟩:=ad i (by rw[aHG];exact u)
   rw[aOe]at t
   simp only[bd i u]at t
   rw[aOe]at P
   dsimp only at t P
   have R:L[i].er=true\/(L[i].er=false/\c=false)\/(L[i].er=false/\c=true):=by cases L[i].er<;>cases c<;>simp
   rcases az with⟨rfl,ae⟩|⟨k1,rfl,bc⟩
   ·rcases P with⟨rfl,_⟩|⟨k2,rfl,ai⟩
    ·rcases R with f|⟨f,rfl⟩|⟨f,rfl⟩
     all_goals (
      simp only[go_sem,nY,C,B,z,d,s,aT u,u,Q,t,f,ws,bne_self_eq_false,undef,EI,EH,mF,lR]
      exact⟨_,(by omega:L.length-(i+1)<n2),i+1,o_,rfl,rfl⟩)
    ·rcases R with f|⟨f,rfl⟩|⟨f,rfl⟩
     all_goals (
      simp only[go_sem,nY,C,B,z,d,s,aT u,u,Q,t,f,ws,bne_self_eq_false,undef,ai,ae,uP,gQ,EI,EH,mF,lR]
      exact⟨_,(by omega:L.length-(i+1)<n2),i+1,o_,rfl,rfl⟩)
   ·have Z:=λW:aK=>bg W _ _ bc
    rcases P with⟨rfl,ae⟩|⟨k2,rfl,ai⟩
    ·rcases R with f|⟨f,rfl⟩|⟨f,rfl⟩
     all_goals (
      simp only[go_sem,nY,C,B,z,d,s,aT u,u,Q,t,f,ws,bne_self_eq_false,undef,Z,ae,uP,gQ,EI,EH,mF,lR]
      exact⟨_,(by omega:L.length-(i+1)<n2),i+1,o_,rfl,rfl⟩)
    ·rcases R with f|⟨f,rfl⟩|⟨f,rfl⟩
     all_goals (
      simp only[go_sem,nY,C,B,z,d,s,aT u,u,Q,t,f,ws,bne_self_eq_false,undef,Z,ai,aP,EI,EH,mF,lR]
      exact⟨_,(by omega:L.length-(i+1)<n2),i+1,o_,rfl,rfl⟩)))
end Hud
