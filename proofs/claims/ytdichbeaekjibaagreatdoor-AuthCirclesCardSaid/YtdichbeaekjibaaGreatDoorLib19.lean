import Derived.Test.YtdichbeaekjibaaGreatDoorLib18
set_option linter.all false
set_option maxHeartbeats 40000000
namespace Hud
open Go
def aB5{cs:List CardM}{d:Int}(h:(gM cs d).2=true):(gM cs d).1.Device=d:=by unfold gM at h⊢;grind
def aG0(a:List ND)(o:OpM)(W:V_)(n:Nat)(c:1<=o.Seq)(h:∀j,j<n->(a.getD j XD).o.By=o.By->qK W j=true->(a.getD j XD).o.Seq<o.Seq):(BY a o W n).1<o.Seq:=by
 induction n with
 |zero=>simp only[BY];omega|succ n ih=>
  have b:=ih λj d=>h j o_;unfold BY;grind
def XR(a:List ND)(o:OpM)(W:V_)(n j:Nat)(b:j<n)(h1:(a.getD j XD).o.By=o.By)(h2:qK W j=true)(h3:(a.getD j XD).o.Seq=o.Seq-1):(BY a o W n).2=true:=by
 induction n with
 |zero=>omega|succ n ih=>
  unfold BY;grind
def aE8{p:PGM}{g:GM}{o:OpM}(s:Sim p g)(y:p.ok)(w:g.wf)(h:(dV g o).1=0):(aCW p o).2=0/\Sim (aCW p o).1 (addM g o).1:=by
 have a:=Ff h;have R:p.nodes.length=g.L.length:=by rw[<-s.l,aP]
 have d:=aE0 w a;have X:vF o=0:=(Aq o).trans a.check;have hI:∀x∈o.Past,x∈p.I:=λx b=>by rw[s.i];exact(Cz g.I x).1 (a.there x b)
 have V:C7 o∉p.I:=λb=>a.twice ((Cz g.I _).2 (s.i ▸ b));have P:=s.c o.By;have U:((o.By==(gM p.cards o.By).1.Device)&&BW (gM p.cards o.By).1.Sign o.B o.SR o.SS)=true:=by rw[P,a.sig,yH,aB5 a.card];simp
 have T:CQ p o=[]:=List.filter_eq_nil_iff.2 λx b=>by simp[hI x b]
 have M:∀x,p.at x=(aW g.I x).toNat:=λx=>by rw[aDZ,s.i]
 have m:∀x∈o.Past,p.at x∈yW g o:=λx b=>by rw[M];exact dF.2 ⟨x,b,rfl⟩
 have z:∀k∈yW g o,∃x∈o.Past,p.at x=k:=λk t=>by obtain⟨x,b,e⟩:=dF.1 t;grind
 have A:∀k,(qK (Hg p o.Past) k=true)↔k∈yW g o:=λk=>by rw[aDX p y.n o.Past (λx b=>by have:=d _ (m x b);have:=y.n;omega)];grind
 have D:∀k,k<256->((qK (Hh p o.Past) k=true)↔∃i∈yW g o,(g.In.getD i []).getD k false=true):=λk t=>by rw[aDY y];constructor;rintro⟨x,b,G⟩;refine⟨p.at x,m x b,?_⟩;rw[<-s.w _ (d _ (m x b)) k t];exact G;rintro⟨i,q,G⟩;obtain⟨x,b,rfl⟩:=z i q;refine⟨x,b,?_⟩;rw[<-s.w _ (d _ q) k t]at G;exact G
 have H:∀i,i<g.L.length->(p.nodes.getD i XD).o=g.L.getD i default:=λi q=>by
  have O:p.nodes.getD i XD=p.nodes[i]:=u_;have N:g.L.getD i default=g.L[i]:=u_;rw[O,N];have h1:(p.nodes.map (·.o))[i]?=g.L[i]?:=by rw[s.l]
  simp_all
 have v:=a.order;unfold J0 at v;rw[aBE]at v;have S:Cu (Hg p o.Past) (Hh p o.Past)=z4:=by refine aB3 (JB p _) (JC y _) λk t h1=>?_;grind
 have u:=Dv a.check;have k9:G0 p o.Past<=o.At:=by refine aFY p o.At o.Past u.2.2.2 λx b=>?_;have q:=m x b;have h1:(p.nd x).o=g.L.getD (p.at x) default:=H _ (d _ q);grind
 have f:∀k,k<256->((qK (BF p o) k=true)↔((oL g (yW g o)).getD k false=true)):=λk t=>by rw[Ok g _ d w.up,RU.head,BF,ZM (JC y _) (JB p _),Ec,A,D k t];constructor;rintro(⟨i,q,h1⟩|h1);exact .inr ⟨i,q,(w.past i (d i q) k).1 h1⟩;exact .inl h1;rintro(h1|⟨i,q,h1⟩);exact .inr h1;exact .inl ⟨i,q,(w.past i (d i q) k).2 h1⟩
 have K:(oL g (yW g o)).length=g.L.length:=Cs g _;have E:=a.right;unfold FT at E;rw[zJ,aBE]at E;have Y:(g.L.zip (oL g (yW g o))).length=g.L.length:=by simp[K]
 have Q:∀j(F:j<g.L.length),(g.L.zip (oL g (yW g o)))[j]'o_=(g.L.getD j default,(oL g (yW g o)).getD j false):=λj F=>by rw[List.getElem_zip,rH,rH,jN F,jN o_];rfl
 have W:(BY p.nodes o (BF p o) p.nodes.length).1<o.Seq:=by refine aG0 _ _ _ _ u.1 λj F h1 h2=>?_;rw[H j o_]at h1⊢;have h3:=(f j (by have:=y.n;omega)).1 h2;have h4:=E.1 _ (eQ (o_:j<(g.L.zip (oL g (yW g o))).length));rw[Q j o_]at h4;simp only[I0,h3,h1]at h4;simpa using h4
 have J:MQ p o=false:=by
  unfold MQ;rw[decide_eq_false o_,EH];rcases Ec _ _ ▸ E.2 with h1|h1;have:o.Seq=1:=by simpa using h1
  rw[decide_eq_false o_];rfl;rw[CX]at h1;obtain⟨e,Z,h2⟩:=h1;obtain⟨j,F,rfl⟩:=CU Z;rw[Q j o_]at h2;simp only[I0,zJ,beq_iff_eq]at h2;rw[XR p.nodes o (BF p o) p.nodes.length j o_ (by rw[H j o_];exact h2.1.2) ((f j (by have:=y.n;omega)).2 h2.1.1) (by rw[H j o_];exact h2.2)];simp
 have C:aCW p o=(⟨p.cards,p.nodes++[⟨o,C7 o,BF p o,Fa p o.Past⟩]⟩,0):=by rw[aCW,if_neg (by simp[X]),Oa,if_neg V,if_neg (by have:=a.full;omega),if_neg (by rw[P,a.card];decide),if_neg (by rw[U];decide),if_neg (by rw[R,a.kind];decide),if_neg (by rw[T];decide),Q8,if_neg (by rw[S,decide_eq_false o_];decide),if_neg (by rw[J];decide)]
 rw[C,yE a h];refine⟨rfl,s.c,by simp[s.l],by simp only[PGM.I,bZ,fG,uP];rw[<-s.i];rfl,?_⟩;intro i q k t;simp only[dZ,GT]at q;rcases eD i g.L.length with h1|h1;rw[aE1 w _ i h1 k,Ol _ _ _ _ o_];exact s.w i h1 k t;obtain rfl:i=g.L.length:=o_;have O:((g.In.map λr=>r++[false])++[oL g (yW g o)++[false]]).getD g.L.length []=oL g (yW g o)++[false]:=by
  have h2:g.L.length=(g.In.map λr=>r++[false]).length:=by simp[w.inn]
  rw[h2];exact D2 _ _ _
 have N:(p.nodes++[(⟨o,C7 o,BF p o,Fa p o.Past⟩:ND)]).getD g.L.length XD=⟨o,C7 o,BF p o,Fa p o.Past⟩:=by rw[<-R];exact D2 _ _ _
 rw[O,N,RC,CT];exact f k t
inductive Reach(cs:List CardM):GM->Prop
 |new:Reach cs ⟨cs,[],[],[],[]⟩|add {g:GM} {o:OpM}:Reach cs g->o.ok->(C7 o).ok->Reach cs (addM g o).1
structure Good(cs:List CardM)(g:GM):Prop where
 ok:g.ok
 wf:g.wf
 cards:g.Cards=cs
 n:g.L.length<=200
 ids:∀o∈g.L,(C7 o).ok
 sim:Sim (AM cs g.L) g
 all:∀i(h:i<g.L.length),(aCW (AM cs (g.L.take i)) g.L[i]).2=0
def Reach.good {cs:List CardM} (c:cardsOk cs) {g:GM} (h:Reach cs g):Good cs g:=by
 induction h with
 |new=>
  exact⟨⟨k_,c.n,c.cs,k_,rfl,k_,rfl,k_,rfl,k_⟩,aIh cs,rfl,k_,k_,aFZ c,k_⟩
 | @add g o _ k f ih=>
  by_cases h:(dV g o).1=0;have a:=Ff h;have e:=yE a h;have d:(AM cs g.L).ok:=XM c g.L λx b=>⟨ih.ok.ops x b,ih.ids x b⟩
  have m:=aE8 ih.sim d ih.wf h;have j:(addM g o).1.L=g.L++[o]:=by rw[e]
  have p:=a.full;refine⟨aFI ih.ok k o_ f,aIi ih.wf h,by rw[e];exact ih.cards,by rw[j];simp;omega,?_,?_,?_⟩;intro x b;rw[j]at b;rcases cG.1 b with b|b;exact ih.ids x b;simp_all;grind[MS];intro i l;simp only[j,dZ,GT]at l⊢;rcases eD i g.L.length with h1|h1;rw[Rf o_,List.getElem_append_left h1];exact ih.all i h1;grind;grind[addM]
section
variable{G:L_}
end
def XS(out:D_)(x:Id):(Ps out x).Perm (out++[x]):=by
 unfold Ps;have e:out=out.take (Ha x out out.length)++out.drop (Ha x out out.length):=(LC _ _).symm;generalize Ha x out out.length=p at *
 refine List.Perm.trans ?_ (List.Perm.append_right [x] (List.Perm.of_eq e.symm));rw[eB,eB];exact YB _ List.perm_append_comm
def VC(l:D_):∀out,(l.foldl Ps out).Perm (out++l):=by
 induction l with
 |nil=>intro out;simp|cons x l ih=>
  intro out;refine(ih (Ps out x)).trans ?_;have:=List.Perm.append_right l (XS out x);simpa using this
def dQ(l:D_):(jI l).Perm l:=by have:=VC l [];simpa[jI]using this
def aE9{I:D_}{p:Nat->Bool}{n:Nat}(c:n<=I.length):∀x∈Le I p n,x∈I:=by intro x a;unfold Le at a;obtain⟨i,b,rfl⟩:=dF.1 a;have:=uM.1 (aBD.1 b).1;rw[rH,jN o_];exact eQ _
def RD {I:D_}:∀(l out:D_),(∀x∈out,x∈I)->∀x∈l.foldl (vL I) out,x∈I|[],_,h=>h| y::l,out,h=>RD l _ (by
   intro x a;unfold vL at a;split at a;rename_i b;simp only[zJ,decide_eq_true_eq]at b;rcases cG.1 a with a|a;exact h x a;rw[cA.1 a];exact(Cz I y).1 b.1
   exact h x a)
def RE {I c:D_}:∀(l out:D_),(∀x∈out,x∈I)->∀x∈l.foldl (uD I c) out,x∈I|[],_,h=>h| y::l,out,h=>RE l _ (by
   intro x a;unfold uD at a;split at a;rename_i b;simp only[zJ,decide_eq_true_eq]at b;rcases cG.1 a with a|a;exact h x a;rw[cA.1 a];exact(Cz I y).1 b.1
   exact h x a)
section
variable{g:GM}
def aEa(b:g.I.length=g.L.length)(l:D_):∀x∈rV g l,x∈g.I:=λx a=>aE9 o_ x ((dQ _).mem_iff.1 a)
def Fg(b:g.I.length=g.L.length)(l:D_):∀x∈Fd g l,x∈g.I:=λx a=>RD l _ (aEa b l) x ((dQ _).mem_iff.1 a)
def aEb(l:D_):(rV g l).length<=g.L.length:=by rw[rV,(dQ _).length_eq];exact JF _ _ _
def Ou(l:D_):(Fd g l).length<=g.L.length+l.length:=by have h1:=aEb (g:=g) l;have h2:=GN g.I l (rV g l);rw[Fd,(dQ _).length_eq];omega
def KF(l:D_):∀x∈yV g l,x∈g.I:=λx a=>RE l [] k_ x ((dQ _).mem_iff.1 a)
end
def Ov{o:OpM}(h:jB o=0):o.Seq<=2147483647/\o.At<=2147483647:=by
 unfold jB at h;split at h;simp at h;split at h;simp at h;split at h;simp at h;rename_i a;have:fP o=true:=by cases e:fP o<;>simp_all
 unfold fP oI at this;simp only[zJ,decide_eq_true_eq]at this;omega
def Reach.seqb{cs:List CardM}{g:GM}(h:Reach cs g):∀x∈g.I,x.b<=2147483647:=by
 induction h with
 |new=>simp| @add g o f i d ih=>
  by_cases h:(dV g o).1=0;have a:=Ff h;rw[yE a h];intro x c;rcases cG.1 c with c|c;exact ih x c;rw[cA.1 c];exact(Ov a.check).1;have e:(addM g o).1=g:=by rw[addM,if_pos h]
  rw[e];exact ih
def BK(d m:Nat):CardM:=⟨d,m,((37:Fq)^AG ZC d).val,((37:Fq)^AG ZD d).val,((37:Fq)^AG vW d).val⟩
def lG(a:V_)(d:Nat):AG a d<2^64:=J4 _ _
def BL(ow:V_):List CardM:=ow.mapIdx λi m=>BK (i+1) m
def XY(ow:V_)(i:Nat)(h:i<ow.length):BL (ow.take (i+1))=BL (ow.take i)++[BK (i+1) ow[i]]:=by rw[<-aBV h];grind[BL]
theorem Hk(ow:V_):(BL ow).length=ow.length:=by simp[BL]
def aG1{o:OpM}(h:o.ok)(a b:Nat)(e:a<2^64)(d:b<2^64):OpM.ok {o with SR:=a,SS:=b}:=by refine⟨h.ints,?_,h.epoch,h.of,h.past,h.path,h.body,h.refs,h.guards,h.boxes,h.hist⟩;intro n c;simp only[cS,pP,or_false]at c;rcases c with rfl|rfl|rfl;exact h.nums _ k_;exact e;exact d
def aEc(s:Nat)(b:V_):I9 s b<2^64:=QQ (zM _ d_) (by decide:lT<2^64)
def BM{o:OpM}(h:o.ok):(cM o).ok:=by unfold cM;exact aG1 h _ _ (Cr _) (aEc _ _)
def aEd(ow:V_)(f:ow.length<=1000)(h0:ow≠[])(d:∀m∈ow,m<=1000):cardsOk (BL ow):=by
 have a:∀c∈BL ow,∃i,∃h:i<ow.length,c=BK (i+1) ow[i]:=by intro c b;obtain⟨i,h,rfl⟩:=List.mem_mapIdx.1 b;grind
 refine⟨by rw[Hk];exact f,?_,?_,?_,?_⟩;intro e;have:=Hk ow;grind;intro c b;obtain⟨i,h,rfl⟩:=a c b;have:=d _ (eQ h);refine⟨⟨?_,?_⟩,⟨?_,?_⟩,?_,?_,?_⟩<;>simp only[BK];omega;omega;omega;omega;exact Cr _;exact Cr _;exact Cr _;grind[BK];grind[BK]
section
variable{G:L_}
def aEe(ow:V_)(o:ow.length<=1000):aA PQ G xP [Sa ow] [] λr T=>r=.own 0/\T=[some (.arr 5 ((BL ow).map CardM.A))]:=by
 apply aC Na;simp only[go_sem];refine aQ ow.length (λi=>⟨0,[(0,Sa ow),(3,.own 0),(4,iv i)],[some (.arr 5 ((BL (ow.take i)).map CardM.A))]⟩) (λ_=>True) ?_ trivial ?_ ?_;rfl;intro i d _;have c:decide ((i:Int)<(ow.length:Int))=true:=decide_eq_true o_;have e:=fQ i o_;have a:(ow.map λn:Nat=>[iv (n:Int)])[i]?=some [iv (ow[i]:Int)]:=by simp[d]
 have b:(BL (ow.take i)).length=i:=by grind[Hk]
 have m:=XY ow i d;have h:=AI (G:=G) (bs [108,101,97,100]) ZC (i+1) X_ X_ (Az d_) d_ o_;have g:=AI (G:=G) (bs [107,101,101,112]) ZD (i+1) X_ X_ (Az d_) d_ o_;have f:=AI (G:=G) (bs [115,105,103,110]) vW (i+1) X_ X_ (Az d_) d_ o_;have l:=GJ (G:=G) (AG ZC (i+1)) (lG _ _);have k:=GJ (G:=G) (AG ZD (i+1)) (lG _ _);have j:=GJ (G:=G) (AG vW (i+1)) (lG _ _);simp only[go_sem,aP,c,a,e];apply cX h;simp only[go_sem,a];apply cX l;simp only[go_sem,a];apply cX g;simp only[go_sem,a];apply cX k;simp only[go_sem,a];apply cX f;simp only[go_sem,a];apply cX j;simp only[go_sem,aP,b,m,bZ,fG,uP,(g_:i+1<=maxLen),(o_:(i+1)*40<=140737488355328)];simp_all[CardM.A_def,BK,fu];intro _;have c:decide ((ow.length:Int)<(ow.length:Int))=false:=decide_eq_false o_;simp only[go_sem,aP,c,dE]
end
section
variable{h h1:GH}{φ φ1:Nat->Value}{m n:Nat}
mutual
def aEf:∀{x:AV}{u u1:Value},Rp h φ m x u->Rp h1 φ1 n x u1->Rp h φ n x u
 |.v _,_,_,e,_=>by simpa[Rp]using e|.ls _ _,_,_,e,_=>by simp only[Rp]at *;exact e|.ag g,_,_,e,f=>by simp only[Rp]at *;obtain⟨d,a,b⟩:=e;obtain⟨_,_,c⟩:=f;exact⟨d,a,B4 b c⟩
 |.own _,_,_,e,f=>by simp only[Rp]at *;exact⟨f.1,e.2⟩|.ptr _ _,_,_,e,f=>by simp only[Rp]at *;exact⟨f.1,e.2⟩|.elt _ _ _ _,_,_,e,f=>by simp only[Rp]at *;exact⟨f.1,e.2⟩|.vw _ _ _ _,_,_,e,f=>by simp only[Rp]at *;exact⟨f.1,e.2⟩|.mp _,_,_,e,f=>by simp only[Rp]at *;exact⟨f.1,e.2⟩|.yl _,_,_,e,f=>by simp only[Rp]at *;exact⟨f.1,e.2⟩|.rp _,_,_,e,_=>by simp only[Rp]at *;exact e|.cl _ g,_,_,e,f=>by simp only[Rp]at *;obtain⟨d,a,b⟩:=e;obtain⟨_,_,c⟩:=f;exact⟨d,a,B4 b c⟩
 |.bm _ _ g,_,_,e,f=>by simp only[Rp]at *;obtain⟨d,a,b⟩:=e;obtain⟨_,_,c⟩:=f;exact⟨d,a,B4 b c⟩
 |.tup g,_,_,e,f=>by simp only[Rp]at *;obtain⟨d,a,b⟩:=e;obtain⟨_,_,c⟩:=f;exact⟨d,a,B4 b c⟩
 |.any,_,_,_,_=>A_
def B4:∀{cs:O_}{us vs:C_},cC h φ m cs us->cC h1 φ1 n cs vs->cC h φ n cs us
 |[],us,vs,e,_=>by simpa[cC]using e
 |c::cs,us,vs,e,f=>by
  simp only[cC]at *
  obtain⟨u,d,a,b,c⟩:=e;obtain⟨_,_,_,i,g⟩:=f;exact⟨u,d,a,aEf b i,B4 c g⟩
end
def GP{w w1:World}{i D:Nat}:∀{o:AObj},uF h φ m w i o->uF h1 φ1 n w1 D o->uF h φ n w i o
 |.box O,e,f=>by
  obtain⟨g,B,E,a,b,c,d⟩:=e;obtain⟨_,_,_,_,_,_,F⟩:=f;exact⟨g,B,E,a,b,c,B4 d F⟩
 |.arr _ _,e,_=>e
 |.arf k N,e,f=>by
  refine⟨e.1,e.2.imp id ?_⟩;rintro⟨g,c,y,E,t,q,j,u,v,z,J⟩;refine⟨g,c,y,E,t,q,j,u,v,z,?_⟩;rcases f.2 with⟨_,_,M⟩|⟨_,_,_,_,_,_,_,_,_,_,G⟩
  grind[cC];exact B4 J G
 |.lp r s,e,f=>by
  obtain⟨l,t,q,j,u,v⟩:=e;obtain⟨_,_,_,_,_,I⟩:=f;exact⟨l,t,q,j,u,λp A=>aEf (v p A) (I p A)⟩
 |.mit k a b c,e,f=>by
  obtain⟨g,C,t,q,j,u⟩:=e;obtain⟨_,_,_,_,_,Q⟩:=f;refine⟨g,C,t,q,j,?_⟩;grind
 |.map R L K bs P,e,f=>by obtain⟨g,x,t,q,j,u,v,z⟩:=e;obtain⟨_,_,_,_,_,_,_,H⟩:=f;exact⟨g,x,t,q,j,u,v,B4 z H⟩
end
def aA.keep{P:Program}{G:L_}{f:FuncId}{args:O_}{T:aK}{q:Value->Prop}(B:aA P G f args T λr d=>(∃J,d=T++J)/\∃v,r=.v v/\q v):
 aA P G f args T λr d=>(∃v,r=.v v/\q v)/\d=T:=by
 have n:∀{h:GH}{φ:Nat->Value}{w w':World}{v:Value},Inv h φ w T->CS h φ T w (λr d=>(∃J,d=T++J)/\∃v,r=.v v/\q v) v w'->CS h φ T w (λr d=>(∃v,r=.v v/\q v)/\d=T) v w':=by
  rintro h φ w w' v hI ⟨r,d,F,m,⟨⟨J,rfl⟩,x,rfl,z⟩,c,g,y⟩;have l:∀i o,T[i]?=some (some o)->(T++J)[i]?=some (some o):=λi o e=>by rw[mY];exact e;grind
  refine⟨.v x,T,F,m,⟨⟨x,rfl,z⟩,rfl⟩,?_,?_,by simpa[Rp]using y⟩;exact⟨c.os,c.tape,c.output,c.size,c.frame,c.le,c.gfr,c.phi,λi o b A C=>c.org i o b (l i o A) C,cN _,c.drawn⟩;exact⟨g.gh,λi o e=>GP (g.obj i o (l i o e)) (hI.obj i o e),λi j u t b s p=>g.dis i j u t b (l i u s) (l j t p)⟩
 intro h φ w k D hI E;rcases B h φ w k D hI E with⟨a,b⟩|⟨v,w',a,b⟩
 exact .inl ⟨a,b.mono λe w' ⟨v,s,p⟩=>⟨v,s,n hI p⟩⟩;grind
def eH{P:Program}{G:L_}{f:FuncId}{b:HFun}{H:List (Nat×Option Nat×Nat)}(e:tF P f H=some b){args:O_}{T:aK}{x:Value}
 (c:aF8 P G b args T λr a=>r=.v x/\a.take T.length=T):aA P G f args T λr a=>r=.v x/\a=T:=by
 refine(aA.keep (q:=λv=>v=x) ((fT e c).mono ?_)).mono ?_;rintro r a ⟨rfl,d⟩;exact⟨⟨a.drop T.length,by have:=(LC T.length a).symm;rwa[d]at this⟩,x,rfl,rfl⟩;simp
structure VM where
 Of:Id
 By:Int
 Device:Int
 At:Int
 deriving DecidableEq,Inhabited
structure MM where
 N:Int
 Role:Int
 Is:Bool
 ID:Id
 Guards:List Int
 Need:Int
 Wait:Int
 Obj:Bool
 Last:Int
 deriving DecidableEq,Inhabited
structure RM where
 Cards:List CardM
 In:List Int
 Gone:List Int
 L:List MM
 Back:Int
 V:List VM
 deriving DecidableEq,Inhabited
def eI(r:RM)(d:Int):Int:=match r.Cards.find? (λc=>c.Device==d) with|some c=>c.Member|none=>0
def jL(r:RM)(n:Int):Int:=qX (λm=>m.N==n) r.L
def sD(r:RM)(n:Int):Int:=if jL r n<0 then 0 else(r.L.getD (jL r n).toNat default).Role
def aB6(r:RM)(d:Int):Bool:=decide (d∈r.In)||decide (d∈r.Gone)
def lZ(r:RM)(d:Int):Bool:=decide (0<eI r d)&&!aB6 r d
def pZ(r:RM)(x:Id):Int:=qX (λm=>m.Is&&decide (m.ID=x)) r.L
def kR(out:B_)(x:Int):Nat:=(out.takeWhile λy=>decide (y<=x)).length
def Sz(out:B_)(x:Int):B_:=out.take (kR out x)++([x]++out.drop (kR out x))
def C0(l:B_):B_:=l.foldl Sz []
def RF(out:B_)(x:Int):(Sz out x).Perm (x::out):=by show(out.take (kR out x)++x::out.drop (kR out x)).Perm (x::out);grind[List.take_append_drop]
def Ow:∀(l out:B_),(l.foldl Sz out).Perm (l++out)|[],out=>.refl _|x::l,out=>by refine(Ow l _).trans (((RF out x).append_left l).trans ?_);simp
def Hl(l:B_):(C0 l).Perm l:=by have:=Ow l [];rwa[jO]at this
def XZ(r:RM)(x:Id)(d:Int):B_:=C0 ((r.V.filter λv=>decide (v.Of=x)&&(v.Device==d)).map (·.At))
def Ll(r:RM)(n d:Int):Int×Int :=
 if jL r n<0 then(0,4) else
 let m:=r.L.getD (jL r n).toNat default
 if !m.Is then(0,4) else
 let a:=XZ r m.ID d
 if(a.length:Int)<m.Need then(0,26) else
 if m.Obj&&decide (a.getD 0 0<=m.Last) then(0,28) else(IntKind.i64.wrap (a.getD (m.Need-1).toNat 0+m.Wait),0)
def kD(r:RM)(o:OpM):Int×Int :=
 let a:=pZ r o.Of
 if a<0 then(-1,25) else
 if !decide (o.By∈(r.L.getD a.toNat default).Guards) then(-1,14) else(a,0)
def JI(r:RM)(o:OpM)(m:Int)(rules:Bool):Int :=
 if o.Device≠0 then(if !decide (o.Device∈r.In) then 17 else if !rules&&eI r o.Device !=m then 14 else 0) else
 if jL r o.Member<0 then 16 else if !rules&&o.Member !=m then 14 else 0
def C1(r:RM)(o:OpM):Int :=
 let g:=kD r o
 if g.2≠0 then g.2 else
 let n:=(r.L.getD g.1.toNat default).N
 if o.Kind==11&&eI r o.Device !=n then 16 else
 if o.Kind==13&&(!decide (o.Old∈r.In)||eI r o.Old !=n||eI r o.Device !=n) then 17 else
 if !lZ r o.Device then 17 else
 if o.Kind==11 then 0 else
 let d:=Ll r n o.Device
 if d.2==0&&decide (o.At<d.1) then 27 else d.2
def mT(r:RM)(o:OpM):Int :=
 let m:=eI r o.By
 if o.Kind==1 then(if m==0 then 17 else if 0<r.In.length\/0<r.Gone.length then 5 else 0) else
 if !decide (o.By∈r.In) then 15 else
 let rules:=sD r m==3
 if o.Kind==2 then(if !lZ r o.Device then 17 else if !rules&&eI r o.Device !=m then 14 else 0) else
 if o.Kind==3 then JI r o m rules else
 if o.Kind==5 then(if !rules then 14 else if jL r o.Member<0 then 16 else 0) else
 if o.Kind==6 then(if sD r m<2 then 14 else 0) else
 if o.Kind==8 then(if !rules&&eI r o.Of.a !=m then 14 else 0) else
 if o.Kind==9 then(if o.Guards.all λd=>decide (d∈r.In) then 0 else 17) else
 if o.Kind==10||o.Kind==12 then(if jL r m<0 then 25 else if !(r.L.getD (jL r m).toNat default).Is||!decide ((r.L.getD (jL r m).toNat default).ID=o.Of) then 25 else 0) else
 if o.Kind==11||o.Kind==13 then C1 r o else 0
def mU(r:RM)(d role:Int):RM :=
 if !lZ r d then r else
 {r with In:=r.In++[d],L:=if jL r (eI r d)<0 then r.L++[⟨eI r d,role,false,⟨0,0,0⟩,[],0,0,false,0⟩] else r.L}
def Fh(r:RM):List VM:=r.V.filter λv=>decide (0<=pZ r v.Of)
def lN(r:RM)(d:Int):RM :=
 if !decide (d∈r.In) then r else
 let n:=eI r d
 let i:=r.In.filter λx=>x !=d
 let b:={r with In:=i,Gone:=r.Gone++[d]}
 if i.any λx=>eI r x==n then b else
 let a:={b with L:=r.L.filter λm=>m.N !=n}
 {a with V:=Fh a}
def BN(r:RM)(o:OpM)(x:Id):RM :=
 let k:=jL r (eI r o.By)
 if k<0 then r else
 let m:=r.L.getD k.toNat default
 let a:={r with L:=r.L.set k.toNat ⟨m.N,m.Role,true,x,o.Guards,o.Need,o.Wait,false,0⟩}
 {a with V:=Fh a}
def iQ(r:RM)(o:OpM):RM :=
 if(kD r o).2≠0 then r else
 let same:=λv:VM=>decide (v.Of=o.Of)&&(v.By==o.By&&v.Device==o.Device)
 {r with V:=r.V.filter (λv=>!same v)++[⟨o.Of,o.By,o.Device,(r.V.filter same).foldl (λa v=>min a v.At) o.At⟩]}
def BS(r:RM)(o:OpM)(x:Id):RM :=
 if o.Kind==1 then(if 0<r.In.length\/0<r.Gone.length\/eI r o.By=0 then r else {mU r o.By 3 with Back:=o.Need}) else
 if o.Kind==2 then mU r o.Device o.Role else
 if o.Kind==3 then(if o.Device=0 then r.In.filter (λd=>eI r d==o.Member) else [o.Device]).foldl lN r else
 if o.Kind==5 then(if jL r o.Member<0 then r else {r with L:=r.L.set (jL r o.Member).toNat { (r.L.getD (jL r o.Member).toNat default) with Role:=o.Role} }) else
 if o.Kind==9 then BN r o x else
 if o.Kind==11 then iQ r o else
 if o.Kind==12 then
  let k:=jL r (eI r o.By)
  if k<0 then r else
  let m:=r.L.getD k.toNat default
  if m.Is&&decide (m.ID=o.Of) then {r with L:=r.L.set k.toNat {m with Obj:=true,Last:=max m.Last o.At} } else r
 else
 if o.Kind==13 then
  let k:=pZ r o.Of
  if k<0 then r else
  let n:=(r.L.getD k.toNat default).N
  if decide (o.Old∈r.In)&&(eI r o.Old==n&&eI r o.Device==n) then lN (mU r o.Device (sD r (eI r o.Device))) o.Old else r
 else r
def RM.new(cs:List CardM):RM:=⟨cs,[],[],[],0,[]⟩
@[go_sem] def OpM.g16(o:OpM):o.A[16]?=some (iv o.Of.a):=fI rfl rfl
structure RM.ok(r:RM):Prop where
 c:r.Cards.length<=1000
 i:r.In.length<=100000
 g:r.Gone.length<=100000
 l:r.L.length<=100000
 v:r.V.length<=100000
 mg:∀m∈r.L,m.Guards.length<=1000
def ZP{α:Type}{p:α->Bool}{l:List α}(h:0<=qX p l):∃i:Nat,qX p l=(i:Int)/\∃a:i<l.length,p l[i]=true:=by
 unfold qX at h⊢
 cases e:l.findIdx? p with
 |none=>rw[e]at h;simp at h|some i=>
  obtain⟨h1,h2,_⟩:=Ad.1 e;grind
def nH{α:Type}[Inhabited α]{l:List α}{i:Nat}(h:i<l.length):l.getD i default=l[i]:=u_
section
variable{G:L_}
def Ox{r:RM}{n:Int}(h:0<=jL r n):∃i:Nat,jL r n=(i:Int)/\∃a:i<r.L.length,(r.L[i].N==n)=true:=ZP h
def Hm{r:RM}{x:Id}(h:0<=pZ r x):∃i:Nat,pZ r x=(i:Int)/\∃a:i<r.L.length,(r.L[i].Is&&decide (r.L[i].ID=x))=true:=ZP h
def RM.need(r:RM):Prop:=∀m∈r.L,m.Is=true->1<=m.Need/\m.Need<=1000
end
section
open W
def P8:cF HL []=some ⟨27,[(2,none)],S [R0 2 1 [M (kc (.const (.pointer none)))],R0 6 6 [A 3 (b (q4 [.map none,.map none,.map none,.map none,z0] (x (.mkm false)) (x (.mkm false)) (x (.mkm false)) (x (.mkm false))))],S [R 13 0 [0] [A 12 t0,n (t 12),A 14 w0],ra 0 14 (t 13) 15 [12,14,13] 25 (S [R0 16 2 [L 5 (i 5 (t 12) (t 14)),J 5 (s 5 (al zC) (t 17))],D 18 7 [5] [l (f 0 (y v3)),l (f 0 t5),L 5 t5,Yh (.mup false [.int .i64] (zt 21) (zt 23) (zt 24))]])],R 26 1 [3] [A 2 v3],.ret]⟩:=s_
def Hn:cF tM []=some ⟨57,[(6,none)],S [R 5 2 [1,2] [J 4 (b t1),b t2,M w0],S [R0 7 2 [eq (l (f 2 t4)) w1],If 9 [] (S [bw 0 (S [R 11 5 [4] [eq (c2 aAO v0 (l (f 0 t4))) w0,J 10 v15],Ie 10 [0] (S [E0 [A 6 (w 17)],.ret]) [] (S [R 17 6 [0] [l (f 2 (y v0)),gt (x (.lenM (zt 20))) w0,J 16 v22],If 16 [] (S [E0 [A 6 (w 5)],.ret])])]),i0 6,.ret])],S [D 23 7 [] [l (f 1 (y v0)),l (f 0 t4),o (x (.lku false [.int .i64] (.bool false) (zt 26) (zt 28) false))],If 30 [4,0] (S [E0 [A 6 (w 15)],.ret])],S [R0 31 14 [M (O (ls (l (f 2 t4)) w0) (ge (l (f 2 t4)) (w 14))),G 39 false (l (f 2 t4)),G 39 false (l (x (.iadA (.global NY) (zt 41) 14 1))),G 39 false (x (.nilS false 2 (zt 43))),x (.pick (zt 39) (.const (.bool true)) (zt 44))],If 45 [4,0] (S [i0 6,.ret])],D 46 11 [4,0] [l (f 2 t4),A 6 (d3 (l (x (.iadA (.global NY) (zt 47) 14 1))) v0 (L 27 t4) (K [zv 51 27 4,zm 50 0,zl 49 48,zo 48 (.iadA (.global NY) (zt 47) 14 1),zl 47 46,zf 46 4 2] (c2 aAO v0 (l (f 0 t4)))))],.ret]⟩:=s_
def JJ:cF Am [(0,none,1002)]=some ⟨259,[],S [R 4 0 [1,2] [b t1,b t2],D 17 9 [] [l (f 3 (y v0)),K [zl 20 19,zf 19 18 3,zo 18 (.nilc (zt 17)),zm 17 0] (c2 aAO v0 (l (f 0 t4))),A 6 (x (.lku false [.int .i64] (.pointer none) (zt 20) (zt 24) false))],R0 26 1 [l (f 2 t4)],bw 0 (S [R0 29 1 [eq (t 27) w1,J 28 v29],Ie 28 [27,6,5] (S [R0 30 11 [l (f 2 (y v0)),N (eq (x (.lenM (zt 33))) w0) (c2 iL v0 (l (f 0 t4)))],Iz 41 [] (S [R0 42 4 [c3 mK v0 (l (f 0 t4)) w3],R 46 5 [0,4] [v0,l (f 20 t4),s 1 (f 4 (y (t 46))) (t 48)]]) [0,4]]) [] (S [R0 52 1 [eq (t 27) w2,J 51 (v 52)],Ie 51 [27,6,5] (R 53 6 [0,4] [c3 mK v0 (l (f 5 t4)) (l (f 8 t4))]) [] (S [R0 60 1 [eq (t 27) w3,J 59 (v 60)],Ie 59 [27,6,5] (S [S [R0 61 2 [ne (l (f 5 t4)) w0],If 63 [] (S [R 64 4 [0,4] [c2 nK v0 (l (f 5 t4))],.ret])],R0 68 1 [n (c1 sH v0),M w0],ra 1 71 (t 70) 72 [69,71,70,4,0] 84 (S [R0 73 2 [A 8 (l (i 1 (t 69) (t 71)))],D 75 5 [] [v0,v8,J 78 (l (f 7 t4)),J 77 (K [zl 79 78,zf 78 4 7] (c2 aAO (t 75) (t 76))),J 80 (eq (t 77) (t 79))],Iz 80 [] (R 81 3 [8] [c2 nK v0 v8]) [8]])]) [] (S [R0 86 1 [eq (t 27) (w 5),J 85 (v 86)],Ie 85 [27,6,5] (S [D 87 7 [0] [l (f 3 (y v0)),l (f 7 t4),A 9 (x (.lku false [.int .i64] (.pointer none) (zt 90) (zt 92) false))],R0 94 1 [v9,x (.nilS true 0 (zt 94))],Iz 95 [] (R 96 5 [9,4] [v9,l (f 8 t4),s 1 (f 0 (y (t 96))) (t 98)]) [9,4]]) [] (S [R0 102 1 [eq (t 27) (w 9),J 101 (v 102)],Ie 101 [27,0] (S [R0 103 1 [v6,x (.nilS true 0 (zt 103))],Iz 104 [] (S [.regd (zq (zm 105 6) (zq (zv 106 3 5) (zq (zf 107 4 19) (zq (zl 108 107) (zq (zf 110 4 20) (zq (zl 111 110) (zq (zf 112 4 21) (zq (zl 113 112) (zA (zo 109 (.call (.func eU) [zt 108])) [zl 113 112,zf 112 4 21,zl 111 110,zf 110 4 20,zv 106 3 5,zm 105 6] (zA (zo 114 (.mkm true)) [zl 113 112,zf 112 4 21,zl 111 110,zf 110 4 20,zv 106 3 5,zm 105 6] (zq (zo 115 (.bld [z0,z0,zU,zS,z0,z0,.map none,.bool false,z0] [(0,(3,zt 106)),(3,(1,zt 109)),(4,(1,zt 111)),(5,(1,zt 113)),(6,(1,zt 114))])) (zA (zo 116 (.box (zt 115))) [zm 105 6] (zq (zo 117 (.nilc (zt 105))) (zq (zf 118 117 1) (zA (⟨none,.st 1 (zt 118) (zt 116),none⟩) [] (.done false) .no))) .no)) .no) (zA (zo 114 (.mkm true)) [zl 113 112,zf 112 4 21,zl 111 110,zf 110 4 20,zl 108 107,zf 107 4 19,zv 106 3 5,zm 105 6] (zA (zo 109 (.call (.func eU) [zt 108])) [zl 113 112,zf 112 4 21,zl 111 110,zf 110 4 20,zv 106 3 5,zm 105 6] (zq (zo 115 (.bld [z0,z0,zU,zS,z0,z0,.map none,.bool false,z0] [(0,(3,zt 106)),(3,(1,zt 109)),(4,(1,zt 111)),(5,(1,zt 113)),(6,(1,zt 114))])) (zA (zo 116 (.box (zt 115))) [zm 105 6] (zq (zo 117 (.nilc (zt 105))) (zq (zf 118 117 1) (zA (⟨none,.st 1 (zt 118) (zt 116),none⟩) [] (.done false) .no))) .no)) .no) .no)))))))))),.kill [6,5,4,118,117,116,115,114,113,112,111,110,109,108,107,106,105]]) [6,5,4]]) [5] (S [R0 120 1 [eq (t 27) (w 11),J 119 (v 120)],Ie 119 [27,6] (S [R 122 3 [126,125,121] [c2 lM v0 (L 27 t4),J 121 (v 124),J 125 (e 0 (t 121)),e 1 (t 121),A 10 (t 125),A 11 (t 126)],R 127 1 [11] [eq v11 w0],Iz 128 [] (S [R 129 9 [0,10] [l (f 3 (y v0)),v10,A 12 (l (f 1 (y (x (.lku false [.int .i64] (.pointer none) (zt 132) (zt 133) false)))))],R0 138 5 [q2 [z0,z0] (l (f 0 t4)) (l (f 5 t4)),J 13 (s 2 (al [z0,z0]) (t 142))],D 144 6 [151,150,143] [l (f 6 (y v12)),L 2 (t 13),x (.lku true [.int .i64,.int .i64] z0 (zt 147) (zt 148) true),J 143 (v 149),J 150 (e 0 (t 143)),e 1 (t 143),A 14 (t 150),A 15 (t 151)],R 152 7 [15,14] [O (o v15) (ls (l (f 3 t4)) v14)],Iz 159 [] (D 160 7 [12,13,4] [l (f 6 (y v12)),L 2 (t 13),l (f 3 t4),Yh (.mup true [.int .i64,.int .i64] (zt 163) (zt 164) (zt 166))]) [12,13,4]]) [0,10,4]]) [] (S [R0 168 1 [eq (t 27) (w 12),J 167 (v 168)],Ie 167 [27,0] (S [D 169 20 [] [v6,M (x (.nilS true 0 (zt 169))),G 171 true (l (f 1 (y v6))),G 171 true (x (.nilS true 0 (zt 175))),N (x (.pick (zt 171) (zt 176) (.const (.bool false)))) (ea false [.int .i64,.int .i64,.int .u64] (L 3 (f 0 (y (l (f 1 (y v6)))))) (L 3 (f 16 t4)))],Iz 189 [] (D 190 22 [6,4] [l (f 1 (y v6)),l (f 1 (y v6)),mm true (l (f 8 (y (l (f 1 (y v6)))))) (l (f 3 t4)),K [zo 207 (.mm true (zt 204) (zt 206)),zl 206 205,zf 205 4 3] (s 1 (f 7 (y (t 193))) T),s 1 (f 8 (y (t 197))) (t 207)]) [6,4]]) [6] (S [R 213 1 [27] [eq (t 27) (w 13),J 212 (v 213)],Iz 212 [] (S [R0 214 4 [A 16 (c2 qE v0 (L 3 (f 16 t4)))],D 218 26 [16] [M (gt v16 w0),G 220 true (l (f 1 (y v0))),G 220 true (l (f 6 t4)),G 220 true (x (.lku false [.int .i64] (.bool false) (zt 224) (zt 226) false)),M (x (.pick (zt 220) (zt 227) (.const (.bool false)))),G 229 true v0,G 229 true (l (f 6 t4)),J 234 (G 229 true v16),J 233 (G 229 true (K [⟨some 234,.mov (zt 16),some (229,true)⟩] (c2 aAO (t 230) (t 232)))),J 235 (G 229 true (eq (t 233) (t 234))),M (x (.pick (zt 229) (zt 235) (.const (.bool false)))),G 237 true v0,G 237 true (l (f 5 t4)),J 242 (G 237 true v16),J 241 (G 237 true (K [⟨some 242,.mov (zt 16),some (237,true)⟩] (c2 aAO (t 238) (t 240)))),J 243 (G 237 true (eq (t 241) (t 242))),x (.pick (zt 237) (zt 243) (.const (.bool false)))],Iz 244 [] (S [D 245 10 [] [v0,l (f 5 t4),v0,K [zm 248 0,zl 247 246,zf 246 4 5,zm 245 0] (c2 aAO v0 (l (f 5 t4))),c3 mK (t 245) (t 247) (K [zl 247 246,zf 246 4 5,zm 245 0] (c2 nL (t 248) (t 252)))],R 255 4 [0,4] [c2 nK v0 (l (f 6 t4))]]) [0,4]]) [0,4]])])])])])])])])]⟩:=s_
def aJ3:cF aEQ []=some ⟨11,[(4,none)],S [R0 4 1 [M F],R 5 6 [0,1] [l (f 1 (y v0)),v1,x (.lku false [.int .i64] (.bool false) (zt 8) (zt 9) false),J 4 v10],.ret]⟩:=s_
def D3:cF sH []=some ⟨9,[(2,none)],S [R0 2 1 [M z],R 3 6 [0] [c1 sI (c1 lU (l (f 1 (y v0)))),J 2 v8],.ret]⟩:=s_
def JK:cF aAO []=some ⟨12,[(4,none)],S [R0 4 1 [M w0],R 5 7 [0,1] [l (f 0 (y v0)),v1,x (.lku false [.int .i64] (.agg (#[z0,z0,zU,zU,zU])) (zt 8) (zt 9) false),x (.fld (zt 10) 1 none),J 4 v11],.ret]⟩:=s_
def Fi:cF iL []=some ⟨18,[(4,none)],S [R0 4 1 [M F],R 5 13 [0,1] [M (gt (c2 aAO v0 v1) w0),G 9 true (l (f 2 (y v0))),G 9 true v1,G 9 true (o (x (.lku false [.int .i64] (.bool false) (zt 13) (zt 14) false))),x (.pick (zt 9) (zt 16) (.const (.bool false))),J 4 v17],.ret]⟩:=s_
def Fj:cF mK []=some ⟨43,[],S [S [R0 7 3 [o (c2 iL v0 v1)],If 10 [0,1,2] .ret],D 11 14 [] [l (f 1 (y v0)),v1,l (f 2 (y v0)),v1,e 1 (K [zm 20 1] (xh (.men false [.int .i64] (.bool false) (zt 14) (zt 15)))),K [zm 20 1] (Yh (.mst (zt 14) (zt 22) (.const (.bool true)))),e 1 (xh (.men false [.int .i64] (.bool false) (zt 19) (zt 20))),Yh (.mst (zt 19) (zt 24) (.const (.bool true)))],R 25 3 [1] [A 6 (c2 aAO v0 v1)],R0 28 6 [l (f 3 (y v0)),v6,x (.lku false [.int .i64] (.pointer none) (zt 31) (zt 32) false),x (.nilS false 0 (zt 33))],Iz 34 [] (R 35 8 [0,6,2] [l (f 3 (y v0)),v6,b (q1 [z0,.pointer none] v2),Y (.mup false [.int .i64] (zt 38) (zt 39) (zt 42))]) [0,6,2]]⟩:=s_
def Gh:cF nK []=some ⟨40,[],S [S [R0 6 6 [l (f 1 (y v0)),v1,o (x (.lku false [.int .i64] (.bool false) (zt 9) (zt 10) false))],If 12 [0,1] .ret],R0 13 5 [l (f 1 (y v0)),v1,Y (.del false [.int .i64] (zt 16) (zt 17))],R 18 3 [1] [A 4 (c2 aAO v0 v1)],S [R0 21 4 [l (f 1 (y v0)),x (.rgm (zt 24))],lo 0 (S [R0 26 1 [e 0 (x (.nxt (zt 25)))],Ie 27 [] .skip [25] (ex 0),bw 1 (S [R0 28 2 [A 5 (e 0 (x (.ent (zt 25))))],R 30 4 [5] [eq (c2 aAO v0 v5) v4],If 34 [25,4,0] .ret])])],R 35 5 [0,4] [l (f 3 (y v0)),v4,Y (.del false [.int .i64] (zt 38) (zt 39))]]⟩:=s_
def EU:cF lM []=some ⟨32,[(4,none),(5,none)],S [R 4 2 [1] [J 3 (b t1),M w0,M w0],R0 7 4 [c2 qE v0 (L 3 (f 16 t3)),J 6 v10],bw 0 (S [R0 12 2 [eq v6 w0,J 11 v13],Ie 11 [0,6,3] (S [E0 [A 4 w0,A 5 (w 25)],.ret]) [] (S [D 15 16 [0,3] [l (f 3 (y v0)),v6,o (c2 iN (l (f 3 (y (l (f 1 (y (x (.lku false [.int .i64] (.pointer none) (zt 18) (zt 19) false)))))))) (l (f 0 t3))),J 14 v30],If 14 [6] (S [E0 [A 4 w0,A 5 (w 14)],.ret])])]),R 31 1 [6] [A 4 v6,A 5 w0],.ret]⟩:=s_
def Fk:cF qE []=some ⟨34,[(4,none)],S [R 4 1 [1] [J 3 (b t1),M w0],S [R 7 4 [0] [l (f 3 (y v0)),x (.rgm (zt 10))],lo 0 (S [R0 12 1 [e 0 (x (.nxt (zt 11)))],Ie 13 [] .skip [11,3] (ex 0),bw 1 (S [R0 14 3 [e 0 (x (.ent (zt 11))),e 1 (t 14),A 5 (t 15),A 6 (t 16)],D 17 15 [6] [l (f 1 (y v6)),N (x (.nilS true 0 (zt 20))) (ea false [.int .i64,.int .i64,.int .u64] (L 3 (f 0 (y (l (f 1 (y v6)))))) (L 3 t3))],Iz 32 [11,3] (S [R 33 1 [5] [A 4 v5],.ret]) [5]])])],i0 4,.ret]⟩:=s_
def Gi:cF nL []=some ⟨18,[(4,none)],S [R0 4 1 [M w0],S [R 6 6 [0,1] [l (f 3 (y v0)),v1,x (.lku false [.int .i64] (.pointer none) (zt 9) (zt 10) false),J 5 v11],R0 12 1 [v5,x (.nilS true 0 (zt 12))],Iz 13 [] (S [R 14 4 [5] [A 4 (l (f 0 (y v5)))],.ret]) [5]],i0 4,.ret]⟩:=s_
def sS:cF lU []=some ⟨4,[(2,none)],S [R 2 1 [0] [J 1 (b t0),M (kc (.const .nilFunc))],R 3 1 [1] [x (.clo bT [zt 1]),J 2 v3],.ret]⟩:=s_
def jV:cF bT []=some ⟨14,[],S [R 4 1 [1] [l t1,x (.rgm (zt 4))],lo 0 (S [R0 6 1 [e 0 (x (.nxt (zt 5)))],Ie 7 [] .skip [5,0] (ex 0),bw 1 (S [R0 8 2 [A 3 (e 0 (x (.ent (zt 5))))],R 10 3 [3] [o (d1 v0 v3)],If 13 [5,0] .ret])])]⟩:=s_
def KG:cF wS []=some ⟨26,[(6,none)],S [R 6 1 [1] [J 4 (b t1),J 6 (M w0)],bw 0 (S [R0 8 5 [o (c2 iL v0 (l (f 5 t4))),J 7 v12],Ie 7 [0,2,4] (S [E0 [A 6 (w 17)],.ret]) [] (S [R 14 12 [0,2,4] [N (o (c2 kA v0 v2)) (ne (c2 aAO v0 (l (f 5 t4))) v2),J 13 v25],If 13 [] (S [E0 [A 6 (w 14)],.ret])])]),i0 6,.ret]⟩:=s_
def Fl:cF kA []=some ⟨9,[(4,none)],S [R0 4 1 [M F],R 5 4 [0,1] [eq (c2 nL v0 v1) w3,J 4 v8],.ret]⟩:=s_
def KH:cF wT []=some ⟨42,[(6,none)],S [R 6 1 [1] [J 4 (b t1),J 6 (M w0)],R0 8 2 [l (f 7 t4),J 7 v9],S [R0 10 2 [ne (l (f 5 t4)) w0],Ie 12 [7] (S [S [D 13 7 [] [l (f 1 (y v0)),l (f 5 t4),o (x (.lku false [.int .i64] (.bool false) (zt 16) (zt 18) false))],If 20 [0,4,2] (S [E0 [A 6 (w 17)],.ret])],R 21 4 [4] [A 7 (c2 aAO v0 (l (f 5 t4)))]]) [] (S [D 25 7 [4] [l (f 3 (y v0)),l (f 7 t4),x (.lku false [.int .i64] (.pointer none) (zt 28) (zt 30) false),x (.nilS false 0 (zt 31))],If 32 [0,2,7] (S [E0 [A 6 (w 16)],.ret])])],S [R 33 8 [0,2,7] [N (o (c2 kA v0 v2)) (ne v7 v2)],If 41 [] (S [E0 [A 6 (w 14)],.ret])],i0 6,.ret]⟩:=s_
def KI:cF wU []=some ⟨21,[(6,none)],S [R 6 1 [1] [J 4 (b t1),J 6 (M w0)],bw 0 (S [R 8 4 [2] [o (c2 kA v0 v2),J 7 v11],Ie 7 [0,4] (S [E0 [A 6 (w 14)],.ret]) [] (S [D 13 8 [0,4] [l (f 3 (y v0)),l (f 7 t4),x (.lku false [.int .i64] (.pointer none) (zt 16) (zt 18) false),x (.nilS false 0 (zt 19)),J 12 v20],If 12 [] (S [E0 [A 6 (w 16)],.ret])])]),i0 6,.ret]⟩:=s_
def KJ:cF wV []=some ⟨11,[(6,none)],S [R 4 1 [1,6] [b t1,A 6 w0],S [R 7 3 [0,2] [ls (c2 nL v0 v2) w2],If 10 [] (S [E0 [A 6 (w 14)],.ret])],i0 6,.ret]⟩:=s_
def KK:cF wW []=some ⟨20,[(6,none)],S [R 6 1 [1] [J 4 (b t1),J 6 (M w0)],S [R 7 12 [0,2,4] [N (o (c2 kA v0 v2)) (ne (c2 aAO v0 (l (f 0 (f 16 t4)))) v2)],If 19 [] (S [E0 [A 6 (w 14)],.ret])],i0 6,.ret]⟩:=s_
def KL:cF wX []=some ⟨11,[(6,none)],Z [2] (S [R 6 1 [0,1] [J 3 (b t0),b t1,J 6 (M w0)],S [R 7 3 [4,3] [c2 dI (l (f 19 t4)) (x (.clo tQ [zt 3]))],If 10 [] (S [E0 [A 6 (w 17)],.ret])],i0 6,.ret])⟩:=s_
def Ho:cF tQ []=some ⟨11,[(3,none)],S [R0 3 1 [M F],R 4 7 [1,0] [l (f 1 (y (l t1))),v0,o (x (.lku false [.int .i64] (.bool false) (zt 7) (zt 8) false)),J 3 v10],.ret]⟩:=s_
def Hp:cF mB []=some ⟨35,[(6,none)],S [R 6 1 [1] [J 4 (b t1),J 6 (M w0)],S [R 8 6 [0,2] [l (f 3 (y v0)),v2,x (.lku false [.int .i64] (.pointer none) (zt 11) (zt 12) false),J 7 v13],D 14 20 [7,4] [v7,M (x (.nilS false 0 (zt 14))),G 16 false (l (f 1 (y v7))),G 16 false (x (.nilS false 0 (zt 20))),O (x (.pick (zt 16) (.const (.bool true)) (zt 21))) (ea true [.int .i64,.int .i64,.int .u64] (L 3 (f 0 (y (l (f 1 (y v7)))))) (L 3 (f 16 t4)))],If 34 [] (S [E0 [A 6 (w 25)],.ret])],i0 6,.ret]⟩:=s_
def KM:cF wY []=some ⟨32,[(6,none)],Z [2] (S [R 6 1 [1] [J 4 (b t1),J 6 (M w0)],R 10 3 [14,13,9] [c2 lM v0 (L 27 t4),J 9 v12,J 13 (e 0 t9),e 1 t9,J 7 v13,v14],bw 0 (S [R0 16 2 [ne v8 w0,J 15 v17],Ie 15 [0,4,7] (S [R 18 1 [8] [A 6 v8],.ret]) [8] (S [R 20 6 [7] [ne (c2 aAO v0 (l (f 5 t4))) v7,J 19 v25],Ie 19 [0,4] (S [E0 [A 6 (w 16)],.ret]) [] (S [R 27 5 [0,4] [o (c2 iL v0 (l (f 5 t4))),J 26 v31],If 26 [] (S [E0 [A 6 (w 17)],.ret])])])]),i0 6,.ret])⟩:=s_
def KN:cF wZ []=some ⟨67,[(6,none)],Z [2] (S [R 6 1 [1] [J 4 (b t1),J 6 (M w0)],R 11 3 [15,14,10] [c2 lM v0 (L 27 t4),J 10 v13,J 14 (e 0 (t 10)),e 1 (t 10),A 7 (t 14),A 8 (t 15)],bw 0 (S [R0 17 2 [ne v8 w0,J 16 v18],Ie 16 [0,4,7] (S [R 19 1 [8] [A 6 v8],.ret]) [8] (S [S [D 21 16 [] [l (f 1 (y v0)),l (f 6 t4),M (o (x (.lku false [.int .i64] (.bool false) (zt 24) (zt 26) false))),G 29 false v0,G 29 false (l (f 6 t4)),J 34 (G 29 false v7),J 33 (G 29 false (K [⟨some 34,.mov (zt 7),some (29,false)⟩] (c2 aAO (t 30) (t 32)))),J 35 (G 29 false (ne (t 33) (t 34))),x (.pick (zt 29) (.const (.bool true)) (zt 35)),J 20 v36],C 20 .skip (Z [20] (R0 37 13 [A 20 (O (o (c2 iL v0 (l (f 5 t4)))) (ne (c2 aAO v0 (l (f 5 t4))) v7))]))],If 20 [0,7,4] (S [E0 [A 6 (w 17)],.ret])])]),R 51 5 [0,7,57,56,50] [c3 yR v0 v7 (l (f 5 t4)),J 50 (v 55),J 56 (e 0 (t 50)),e 1 (t 50),A 9 (t 56),A 8 (t 57)],S [R 58 7 [4,9] [N (eq v8 w0) (ls (l (f 3 t4)) v9)],If 65 [8] (E0 [A 8 (w 27)])],R 66 1 [8] [A 6 v8],.ret])⟩:=s_
def Hq:cF yR [(10,none,1)]=some ⟨88,[(6,none),(7,none)],S [R0 6 2 [M w0,M w0],R 13 6 [0,1] [l (f 3 (y v0)),v1,A 8 (x (.lku false [.int .i64] (.pointer none) (zt 16) (zt 17) false))],S [R0 19 8 [v8,M (x (.nilS false 0 (zt 19))),G 21 false (l (f 1 (y v8))),G 21 false (x (.nilS false 0 (zt 25))),x (.pick (zt 21) (.const (.bool true)) (zt 26))],If 27 [8,2] (S [E0 [A 6 w0,A 7 (w 4)],.ret])],R 28 4 [8] [A 9 (l (f 1 (y v8)))],S [iz 10,ow 10 1],S [R0 32 4 [l (f 6 (y v9)),x (.rgm (zt 35))],lo 0 (S [R0 37 1 [e 0 (x (.nxt (zt 36)))],Ie 38 [] .skip [36,2] (ex 0),bw 1 (S [R0 39 3 [e 0 (x (.ent (zt 36))),e 1 (t 39),J 11 (s 2 (al [z0,z0]) (t 40)),A 12 (t 41)],R 42 3 [11] [eq (l (f 1 (t 11))) v2],Iz 45 [] (S [R 46 4 [12] [A 10 (a 1 8 v10 (ba 1 [z0] v12))],ow 10 1]) [12]])])],R0 50 2 [c1 kO v10],bw 2 (S [R0 53 7 [ls (n v10) (l (f 4 (y v9))),J 52 (v 59)],Ie 52 [9,10] (S [E0 [A 6 w0,A 7 (w 26)],.ret]) [] (S [D 61 14 [] [N (l (f 7 (y v9))) (ge (l (f 8 (y v9))) (l (i 1 v10 w0))),J 60 (v 74)],If 60 [10,9] (S [E0 [A 6 w0,A 7 (w 28)],.ret])])]),D 75 13 [10,9] [A 6 (ad (l (i 1 v10 (sb (l (f 4 (y v9))) w1))) (l (f 5 (y v9)))),A 7 w0],.ret]⟩:=s_
end
end Hud
