import Derived.Test.YtlhonkjgkfdnmaaGreatDoorLib41
import Derived.Test.YtlhonkjgkfdnmaaGreatDoorLib42
set_option linter.all false
set_option maxHeartbeats 40000000
namespace Hud
open Go
def aPI{g:GM}{S:D_}{i:Nat}(f:i<g.L.length)(e:g.I.getD i default∈S)(k:∀j(h:j<(inR g S g.L.length).length),(sR (AM bQ (KV g ((inR g S g.L.length).take j))) (g.L.getD (inR g S g.L.length)[j] default)).2=0):
 (sR (AM bQ (KV g (inR g S i))) g.L[i]).2=0/\KV g (inR g S (i+1))=KV g (inR g S i)++[g.L[i]]:=by
 have a:inR g S (i+1)=inR g S i++[i]:=by rw[aMC,if_pos e]
 have d:=aNl g S (n:=i+1) (m:=g.L.length) o_;have o:=aNl g S (n:=i) (m:=g.L.length) o_;have c:g.L.getD i default=g.L[i]:=by simp[rH,f]
 have b:(inR g S i).length<(inR g S g.L.length).length:=by have:=congrArg List.length d;rw[a,eC,dZ,GT]at this;omega
 have h:=k _ b;rw[o]at h;have l:(inR g S g.L.length)[(inR g S i).length]=i:=by have:=congrArg (·[(inR g S i).length]?) d;simp only[a,dZ,GT]at this;rw[BT,if_pos o_,jN b]at this;simpa using this
 rw[l,c]at h;refine⟨h,?_⟩;rw[a,KV,bZ,fG,uP,c];rfl
def aQo {cs:List CardM} (v:cardsOk cs) {g:GM} (B:Reach cs g) {x z:Id} (h:oH (AM cs g.L) z x=true):Su (AM cs g.L) z<Su (AM cs g.L) x:=by
 have f:=B.good v;have d:∀i,(AM cs (g.L.take i)).ok:=λi=>XM v _ λo e=>⟨f.ok.ops o (C8 e),f.ids o (C8 e)⟩
 have w:=aET d f.all g.L.length (cN _);rw[dE]at w;obtain⟨A,l⟩:=aOu h;unfold Su;rw[if_pos A,if_pos l];have m:∀k,(u:k<g.L.length)->∀z,oH (AM cs g.L) z (C7 g.L[k])=true->((AM cs g.L).nd z).lv<((AM cs g.L).nd (C7 g.L[k])).lv:=by
  intro k
  induction k using Nat.strongRecOn with
  | _ k ih=>
   intro u z a;obtain⟨t,s,_,_,D,C⟩:=aLZ d f.all u;rw[C]at a;unfold anc at a;obtain⟨y,p,a⟩:=CX.1 a;have n:=(aQn (AM cs (g.L.take k)) g.L[k].Past).2 y p;have c:=t.there y p;rw[(s y c).lv]at n;rw[D];rw[Ec,decide_eq_true_eq]at a;rcases a with rfl|a;omega;rw[(aET d f.all k o_).2.1]at c;obtain⟨o,e,rfl⟩:=dF.1 c;obtain⟨j,r,rfl⟩:=List.mem_iff_getElem.1 e;have q:j<k:=by rw[eC]at r;omega
   rw[List.getElem_take]at *
   have:=ih j q o_ z (by rw[<-(s _ (t.there _ p)).b];exact a);omega
 rw[w.2.1]at l;obtain⟨o,e,rfl⟩:=dF.1 l;obtain⟨j,r,rfl⟩:=List.mem_iff_getElem.1 e;exact m j r z h
def aOG{g:PGM}{C:D_}(h:C.Pairwise λx y=>P0 g x y=true):(aAD g C).Pairwise λx y=>P0 g x.id y.id=true:=by unfold aAD;rw[Mh];exact h.filter _
def aPi{g:PGM}{C:D_}:∀x∈aAD g C,x.re.length<=C.length:=by intro x a;obtain⟨y,_,rfl⟩:=dF.1 a;show(aEU _).length<=_;rw[show(aEU (aBA g C y)).length=(aBA g C y).length from(H4 _ _).length_eq];exact aJa g C y
def aPJ(g:GM)(p q:PGM):aK:=[some (.box g.A),some (.box [.ls 5 (p.cards.map CardM.A),.mp 3,.own 4]),some (.box [.ls 5 (q.cards.map CardM.A),.mp 5,.own 6]),some (MG p.I),some (.arr 35 (p.nodes.map ND.A)),some (MG q.I),some (.arr 35 (q.nodes.map ND.A))]
def aM0{g:GM}{p q:PGM}:GAt (aPJ g p q) (1,3,4) p:=⟨rfl,rfl,rfl,d_,d_,d_⟩
def aQp{g:GM}{p q:PGM}:GAt (aPJ g p q) (2,5,6) q:=⟨rfl,rfl,rfl,d_,d_,d_⟩
section
variable{G:L_}
def aOH(hK:GK G)(hA:AK G)(l m:B_)(n:Int)(hl:l.length<=2^63-1)(t:∀n∈l,mZ n)(hm:m.length<=2^63-1)(bg:∀n∈m,mZ n)(ah:mZ n):
 aA PQ G aJE [rG l,rG m,iv n] [] λr T=>r=.v (.bool true)/\T=[]:=by
 apply aC aK2;simp only[go_sem];apply Jo (aBj l hl t 20 d_);rintro r T' ⟨⟨g,N,bv,rfl⟩,rfl⟩;have D:=N.hyp6.1;have gd:=N.good rY;have C:=N.ggood rY JP;have ax:=gd.sim;have al:=gd.cards;simp only[go_sem];apply kM (aJf hK N);simp only[go_sem,TG,MG];apply cX (aE7 g D m hm bg);have bd:(AM bQ g.L).I=g.I:=gd.sim.i;have ai:=N.nd rY;have ac:=XW D.i m;have Q:=Sy D.i ai m;have bu:=XX D m;have am:=λx e y h=>aM7 gd.wf ai (m:=m) (y:=x) (z:=y) e ((aQl ax gd.n y x).symm.trans h);generalize qI g m=S at *
 have K:∀x∈S,x∈(AM bQ g.L).I:=λx e=>by rw[bd];exact ac x e
 have hS:S.length<=24:=o_;obtain⟨bi,az,c⟩:=aPH rY JP N am ac;have w1:IntKind.i64.wrap ((S.length:Int)+1)=(S.length:Int)+1:=aJ o_ o_;have s:=BJ n ((S.length:Int)+1) o_;have av:=Dl (G:=G) n ((S.length:Int)+1) ah.1 ah.2 o_ o_;obtain⟨k,ek⟩:∃k:Nat,pX n ((S.length:Int)+1)=k:=⟨(pX n ((S.length:Int)+1)).toNat,o_⟩
 rw[ek]at av s;have bf:k<=S.length:=o_;simp only[go_sem,ids,aP,w1];apply cX av;have m1:S.length-k<=maxLen:=g_;have m2:(S.length-k)*24<=140737488355328:=o_;have m3:S.length-k+min k S.length<=maxLen:=g_;have m4:(S.length-k+min k S.length)*24<=140737488355328:=o_;have eo:(S.map Id.A).drop k++(S.map Id.A).take k=(S.drop k++S.take k).map Id.A:=by rw[bZ,aC0,QN]
 simp only[go_sem,aP,vY,eC,bf,m1,m2,m3,m4];apply kM (aKl g.Cards (by rw[al];exact rY));rw[al];have cE:(S.drop k++S.take k).Perm S:=(List.perm_append_comm).trans (by rw[LC]);simp only[go_sem,MG,uP,Mk,gQ];generalize S.drop k++S.take k=O at *
 have cb:=D.n;have bw:∀i(h:i<g.L.length),OpM.ok g.L[i]:=λi h=>D.ops _ (eQ h);have be:∀i,i<=g.L.length->(AM bQ (KV g (inR g S i))).ok:=λi t=>XM rY _ λo ho=>by obtain⟨k,s,rfl⟩:=dF.1 ho;have h:k<g.L.length:=CV (uM.1 (gR.1 s).1) t;rw[rH,jN h];exact⟨D.ops _ (eQ h),gd.ids _ (eQ h)⟩
 have J:=λx z=>aQo rY N (x:=x) (z:=z);have bc:(AM bQ g.L).cards=uE bQ:=RL bQ _ _ rfl;generalize AM bQ g.L=p at *
 refine aQ g.L.length (λi=>⟨0,[(7,.ptr 0 0),(8,.ptr 1 0),(9,ids S),(11,ids O),(12,.ptr 2 0),(13,iv i)],[some (.box g.A),some (.box [.ls 5 (p.cards.map CardM.A),.mp 3,.own 4]),some (.box [.ls 5 ((AM bQ (KV g (inR g S i))).cards.map CardM.A),.mp 5,.own 6]),some (MG p.I),some (.arr 35 (p.nodes.map ND.A)),some (MG (AM bQ (KV g (inR g S i))).I),some (.arr 35 ((AM bQ (KV g (inR g S i))).nodes.map ND.A))]⟩) (λ_=>True) ?_ trivial ?_ ?_;simp only[go_sem,MG,inR,Mk,List.filter_nil,KV,uP,AM,Kk,PGM.I,gQ,eo];intro i j _;have ws:=fQ i o_;have g0:(g.I.map Id.A)[i]?=some (g.I.getD i default).A:=by
  have:i<g.I.length:=by rw[D.i];exact j
  rw[gE,rH,jN this];rfl
 have g1:(g.L.map OpM.A)[i]?=some g.L[i].A:=aO _ g.L i j;have hH:=uJ (G:=G) S (g.I.getD i default) g_;have ho:=D.ops _ (eQ j);simp only[go_sem,MG,aP,aT j,g0];apply cX hH;have ft:=aMC g S i;by_cases B:g.I.getD i default∈S;obtain⟨z1,z2⟩:=aPI j B bi;have bn:AM bQ (KV g (inR g S (i+1)))=(sR (AM bQ (KV g (inR g S i))) g.L[i]).1:=by rw[z2,MS]
 have ay:=be i o_;rw[decide_eq_true B];generalize AM bQ (KV g (inR g S (i+1)))=q2 at *
 generalize AM bQ (KV g (inR g S i))=q at *
 generalize g.L[i]=o at *
 subst bn;simp only[go_sem,MG,g1];apply aG (T2:=TG 0 q) [2,5,6] (aB _) d_ s_ rfl w_ (aIe hK q o ay ho);rintro r T' ⟨rfl,hT⟩;rw[z1];rcases hT with⟨rfl,he⟩|rfl;simp only[go_sem,TG,MG,ws];simp only[go_sem,TG,TH,MG,ws];rw[decide_eq_false B];rw[if_neg B]at ft;rw[ft];simp only[go_sem,MG,ws];intro _;have hq:(AM bQ (KV g (inR g S g.L.length))).cards=p.cards:=by rw[RL bQ _ _ rfl,bc]
 have af:∀x∈O,x∈(AM bQ (KV g (inR g S g.L.length))).I:=λx e=>(c x (cE.mem_iff.1 e)).r;generalize AM bQ (KV g (inR g S g.L.length))=q at *
 have bz:O.length<=24:=by rw[cE.length_eq];exact hS
 have ap:O.Nodup:=cE.nodup_iff.2 Q;have ao:∀x∈O,x∈p.I:=λx e=>K x (cE.mem_iff.1 e);have bq:kW p O=kW p S:=aKJ cE;have bp:kW q O=kW p S:=by rw[aKJ cE];exact(aNk hq.symm c).symm
 have au:∀x∈kW p S,x∈S:=aJH;have bo:aAD q (kW q O)=aAD p (kW p S):=by rw[bp];exact(aOf hq.symm λx e=>(c x (au x e)).o).symm
 have ar:=aIz hA (aM0 (g:=g) (p:=p) (q:=q)) C K Q o_;have aa:=λX=>aIz hA ((aM0 (g:=g) (p:=p) (q:=q)).app (X:=X)) C ao ap o_;have Z:=λX=>aIz hA ((aQp (g:=g) (p:=p) (q:=q)).app (X:=X)) az af ap o_;rw[bo]at Z;rw[bq]at aa;have P:=QD.1 (aOG (Xx (g:=p) Q));have bk:(kW p S).length<=24:=uR aE3 hS;have ca:(aAD p (kW p S)).length<=24:=uR (aJe _ _) bk;have M:∀x∈aAD p (kW p S),x.re.length<=1000:=λx e=>uR (aPi x e) o_;have an:∀x z,oH p z x=true->Su p z<Su p x:=J;have bm:=λ(X:aK) x y=>JO (G:=G) ((aM0 (g:=g) (p:=p) (q:=q)).app (X:=X)) C.ok x y;have bj:=λ(X:aK) x y=>((aM0 (g:=g) (p:=p) (q:=q)).app (X:=X)).lift (args:=[.ptr 1 0,.ag x.A,.ag y.A]) (by simp only[xF,Bd,gL0 ((aM0 (g:=g) (p:=p) (q:=q)).app (X:=X)),Id.A_def]) rfl (Vm (G:=G) p C.ok x y);have aq:=aKs (G:=G) hK hA;generalize aAD p (kW p S)=L at *
 simp only[go_sem,MG,aP,aS (bP _)];apply jA ar;rintro r T' ⟨X,rfl,R⟩;simp only[go_sem];apply jA (aa X);rintro r2 T' ⟨u,rfl,ak⟩;simp only[go_sem];apply cI (aN7 o_ M (aLS.toT R).app (aLS.toT ak));simp only[go_sem,eB];apply jA (Z (X++u));rintro r3 T' ⟨X3,rfl,aj⟩;simp only[go_sem,eB];refine cI (T:=aPJ g p q++(X++(u++X3))) (aN7 (r1:=r) (r2:=r3) (L:=L) o_ M ?_ ?_) ?_;have:=((aLS.toT R).app (Y:=u)).app (Y:=X3);rwa[eB,eB]at this;have:=aLS.toT aj;rwa[eB,eB]at this;have bb:∀i k(t:i<L.length)(s:k<L.length),k<i->oH p L[i].id L[k].id=false:=λi k t s h=>by have h1:=P k i s t h;cases h2:oH p L[i].id L[k].id;rfl;have h3:=an _ _ h2;simp only[P0,Ec,zJ,decide_eq_true_eq]at h1;omega
 have ba:∀i k(t:i<L.length)(s:k<L.length),k<i->decide (B2 p L[k].id L[i].id<0)=true:=λi k t s h=>decide_eq_true (by rw[U5 (P k i s t h)];decide);clear ak aj ar aa Z P an M c af au ao K am J;generalize u++X3=u at *
 generalize aPJ g p q=T at *
 rcases R with⟨rfl,rfl⟩|⟨a,b,ab,rfl,ha,w,ad⟩
 simp only[go_sem];apply kL (λn F=>F=⟨0,[(15,iv 0),(14,.v (.slice none 0 0)),(8,.ptr 1 0)],T++(X++u)⟩) 0 rfl;rintro n F rfl;simp only[go_sem];apply cX aq;simp only[go_sem,aBD,uP];have hv:∀i(h:i<L.length),∃v,ab[i]?=some (aLJ L[i].id L[i].er v):=λi h=>by obtain⟨v,v1,_⟩:=ad i h;exact⟨v,v1⟩
 clear ad;cases b
 all_goals (
  simp only[jE]at ha
  have E:=λW:aK=>aF (X:=W) ha
  simp only[go_sem]
  apply kL (λn F=>∃i,i<=L.length/\n=L.length-i/\F=⟨0,[(15,iv i),(14,.own (T.length+a)),(8,.ptr 1 0)],T++(X++u)⟩) L.length ⟨0,pR _,rfl,rfl⟩
  rintro n F ⟨i,t,bt,rfl⟩
  rcases eD i L.length with d|bh
  rotate_left
  obtain rfl:i=L.length:=o_
  simp only[go_sem,nY,E,w,aS (bP _)]
  apply cX aq
  simp only[go_sem,aBD,uP]
  have ws:=fQ i o_
  obtain⟨v,ae⟩:=hv i d
  simp only[go_sem,nY,E,w,aT d]
  apply kL (λn F=>∃k,k<=i/\n=i-k/\F=⟨0,[(16,iv k),(15,iv i),(14,.own (T.length+a)),(8,.ptr 1 0)],T++(X++u)⟩) i ⟨0,pR _,rfl,rfl⟩
  rintro n2 F ⟨k,s,br,rfl⟩
  rcases eD k i with U|bh
  rotate_left
  obtain rfl:k=i:=o_
  simp only[go_sem,aS (bP _),ws]
  exact⟨_,(by omega:L.length-(k+1)<n),k+1,o_,rfl,rfl⟩
  have aw:=fQ k o_
  have f:k<L.length:=o_
  obtain⟨v2,H⟩:=hv k f
  have hB:=bm (X++u) L[i].id L[k].id
  have V:=bj (X++u) L[k].id L[i].id
  rw[bb i k d f U]at hB
  rw[ba i k d f U]at V
  simp only[Id.A_def]at hB V
  simp only[go_sem,nY,E,w,aT U,d,f,ae,H]
  apply cI hB
  simp only[go_sem,nY,E,w,d,f,ae,H]
  apply cI V
  simp only[go_sem,aw]
  exact⟨_,(by omega:i-(k+1)<n2),k+1,o_,rfl,rfl⟩)
end
end Hud
