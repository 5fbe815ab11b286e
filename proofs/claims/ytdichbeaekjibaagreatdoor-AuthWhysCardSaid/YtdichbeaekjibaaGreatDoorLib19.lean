import Derived.Test.YtdichbeaekjibaaGreatDoorLib18
set_option linter.all false
set_option maxHeartbeats 40000000
namespace Hud
open Go
variable{G:L_}
def aB5{cs:List CardM}{d:Int}(h:(gM cs d).2=true):(gM cs d).1.Device=d:=by unfold gM at h⊢;grind
def aG0(a:List ND)(o:OpM)(W:V_)(n:Nat)(c:1<=o.Seq)(h:∀j,j<n->(a.getD j XD).o.By=o.By->qK W j=true->(a.getD j XD).o.Seq<o.Seq):(BY a o W n).1<o.Seq:=by
 induction n with
 |zero=>simp only[BY];omega|succ n ih=>
  have b:=ih λj d=>h j o_;unfold BY;grind
def XR(a:List ND)(o:OpM)(W:V_)(n j:Nat)(b:j<n)(h1:(a.getD j XD).o.By=o.By)(h2:qK W j=true)(h3:(a.getD j XD).o.Seq=o.Seq-1):(BY a o W n).2=true:=by
 induction n with
 |zero=>omega|succ n ih=>
  unfold BY;grind
def aE8{p:PGM}{g:GM}{o:OpM}(s:Sim p g)(y:p.ok)(w:g.wf)(h:(dV g o).1=0):(sR p o).2=0/\Sim (sR p o).1 (addM g o).1:=by
 have a:=Ff h;have S:p.nodes.length=g.L.length:=by rw[<-s.l,aP]
 have d:=aE0 w a;have Y:vF o=0:=(Aq o).trans a.check;have hI:∀x∈o.Past,x∈p.I:=λx b=>by rw[s.i];exact(Cz g.I x).1 (a.there x b)
 have W:C7 o∉p.I:=λb=>a.twice ((Cz g.I _).2 (s.i ▸ b));have Q:=s.c o.By;have V:((o.By==(gM p.cards o.By).1.Device)&&BW (gM p.cards o.By).1.Sign o.B o.SR o.SS)=true:=by rw[Q,a.sig,yH,aB5 a.card];simp
 have U:CQ p o=[]:=List.filter_eq_nil_iff.2 λx b=>by simp[hI x b]
 have M:∀x,p.at x=(aW g.I x).toNat:=λx=>by rw[aDZ,s.i]
 have m:∀x∈o.Past,p.at x∈yW g o:=λx b=>by rw[M];exact dF.2 ⟨x,b,rfl⟩
 have z:∀k∈yW g o,∃x∈o.Past,p.at x=k:=λk t=>by obtain⟨x,b,e⟩:=dF.1 t;grind
 have A:∀k,(qK (Hg p o.Past) k=true)↔k∈yW g o:=λk=>by rw[aDX p y.n o.Past (λx b=>by have:=d _ (m x b);have:=y.n;omega)];grind
 have D:∀k,k<256->((qK (Hh p o.Past) k=true)↔∃i∈yW g o,(g.In.getD i []).getD k false=true):=λk t=>by rw[aDY y];constructor;rintro⟨x,b,G⟩;refine⟨p.at x,m x b,?_⟩;rw[<-s.w _ (d _ (m x b)) k t];exact G;rintro⟨i,q,G⟩;obtain⟨x,b,rfl⟩:=z i q;refine⟨x,b,?_⟩;rw[<-s.w _ (d _ q) k t]at G;exact G
 have H:∀i,i<g.L.length->(p.nodes.getD i XD).o=g.L.getD i default:=λi q=>by
  have P:p.nodes.getD i XD=p.nodes[i]:=u_;have O:g.L.getD i default=g.L[i]:=u_;rw[P,O];have h1:(p.nodes.map (·.o))[i]?=g.L[i]?:=by rw[s.l]
  simp_all
 have v:=a.order;unfold J0 at v;rw[oD]at v;have T:Cu (Hg p o.Past) (Hh p o.Past)=z4:=by refine aB3 (JB p _) (JC y _) λk t h1=>?_;grind
 have u:=Dv a.check;have k9:G0 p o.Past<=o.At:=by refine aFY p o.At o.Past u.2.2.2 λx b=>?_;have q:=m x b;have h1:(p.nd x).o=g.L.getD (p.at x) default:=H _ (d _ q);grind
 have f:∀k,k<256->((qK (BF p o) k=true)↔((oL g (yW g o)).getD k false=true)):=λk t=>by rw[Ok g _ d w.up,RU.head,BF,ZM (JC y _) (JB p _),Ec,A,D k t];constructor;rintro(⟨i,q,h1⟩|h1);exact .inr ⟨i,q,(w.past i (d i q) k).1 h1⟩;exact .inl h1;rintro(h1|⟨i,q,h1⟩);exact .inr h1;exact .inl ⟨i,q,(w.past i (d i q) k).2 h1⟩
 have K:(oL g (yW g o)).length=g.L.length:=Cs g _;have E:=a.right;unfold FT at E;rw[zJ,oD]at E;have Z:(g.L.zip (oL g (yW g o))).length=g.L.length:=by simp[K]
 have R:∀j(F:j<g.L.length),(g.L.zip (oL g (yW g o)))[j]'o_=(g.L.getD j default,(oL g (yW g o)).getD j false):=λj F=>by rw[List.getElem_zip,rH,rH,jN F,jN o_];rfl
 have X:(BY p.nodes o (BF p o) p.nodes.length).1<o.Seq:=by refine aG0 _ _ _ _ u.1 λj F h1 h2=>?_;rw[H j o_]at h1⊢;have h3:=(f j (by have:=y.n;omega)).1 h2;have N:=E.1 _ (eQ (o_:j<(g.L.zip (oL g (yW g o))).length));rw[R j o_]at N;simp only[I0,h3,h1]at N;simpa using N
 have J:MQ p o=false:=by
  unfold MQ;rw[decide_eq_false o_,EH];rcases Ec _ _ ▸ E.2 with h1|h1;have:o.Seq=1:=by simpa using h1
  rw[decide_eq_false o_];rfl;rw[CX]at h1;obtain⟨e,he,h2⟩:=h1;obtain⟨j,F,rfl⟩:=CU he;rw[R j o_]at h2;simp only[I0,zJ,beq_iff_eq]at h2;rw[XR p.nodes o (BF p o) p.nodes.length j o_ (by rw[H j o_];exact h2.1.2) ((f j (by have:=y.n;omega)).2 h2.1.1) (by rw[H j o_];exact h2.2)];simp
 have C:sR p o=(⟨p.cards,p.nodes++[⟨o,C7 o,BF p o,Fa p o.Past⟩]⟩,0):=by rw[sR,if_neg (by simp[Y]),Oa,if_neg W,if_neg (by have:=a.full;omega),if_neg (by rw[Q,a.card];decide),if_neg (by rw[V];decide),if_neg (by rw[S,a.kind];decide),if_neg (by rw[U];decide),Q8,if_neg (by rw[T,decide_eq_false o_];decide),if_neg (by rw[J];decide)]
 rw[C,yE a h];refine⟨rfl,s.c,by simp[s.l],by simp only[PGM.I,bZ,fG,uP];rw[<-s.i];rfl,?_⟩;intro i q k t;simp only[dZ,GT]at q;rcases eD i g.L.length with h1|h1;rw[aE1 w _ i h1 k,Ol _ _ _ _ o_];exact s.w i h1 k t;obtain rfl:i=g.L.length:=o_;have P:((g.In.map λr=>r++[false])++[oL g (yW g o)++[false]]).getD g.L.length []=oL g (yW g o)++[false]:=by
  have h2:g.L.length=(g.In.map λr=>r++[false]).length:=by simp[w.inn]
  rw[h2];exact D2 _ _ _
 have O:(p.nodes++[(⟨o,C7 o,BF p o,Fa p o.Past⟩:ND)]).getD g.L.length XD=⟨o,C7 o,BF p o,Fa p o.Past⟩:=by rw[<-S];exact D2 _ _ _
 rw[P,O,RC,CT];exact f k t
inductive Reach(cs:List CardM):GM->Prop
 |new:Reach cs ⟨cs,[],[],[],[]⟩|add {g:GM} {o:OpM}:Reach cs g->o.ok->(C7 o).ok->Reach cs (addM g o).1
structure Good(cs:List CardM)(g:GM):Prop where
 ok:g.ok
 wf:g.wf
 cards:g.Cards=cs
 n:g.L.length<=200
 ids:∀o∈g.L,(C7 o).ok
 sim:Sim (AM cs g.L) g
 all:∀i(h:i<g.L.length),(sR (AM cs (g.L.take i)) g.L[i]).2=0
def Reach.good {cs:List CardM} (c:cardsOk cs) {g:GM} (h:Reach cs g):Good cs g:=by
 induction h with
 |new=>
  exact⟨⟨s_,c.n,c.cs,s_,rfl,s_,rfl,s_,rfl,s_⟩,aIh cs,rfl,s_,s_,aFZ c,s_⟩
 | @add g o _ k f ih=>
  by_cases h:(dV g o).1=0;have a:=Ff h;have e:=yE a h;have d:(AM cs g.L).ok:=XM c g.L λx b=>⟨ih.ok.ops x b,ih.ids x b⟩
  have m:=aE8 ih.sim d ih.wf h;have j:(addM g o).1.L=g.L++[o]:=by rw[e]
  have p:=a.full;refine⟨aFI ih.ok k o_ f,aIi ih.wf h,by rw[e];exact ih.cards,by rw[j];simp;omega,?_,?_,?_⟩;intro x b;rw[j]at b;rcases cG.1 b with b|b;exact ih.ids x b;simp_all;grind[MS];intro i l;simp only[j,dZ,GT]at l⊢;rcases eD i g.L.length with h1|h1;rw[Rf o_,List.getElem_append_left h1];exact ih.all i h1;grind;grind[addM]
def XS(out:D_)(x:Id):(Ps out x).Perm (out++[x]):=by
 unfold Ps;have e:out=out.take (Ha x out out.length)++out.drop (Ha x out out.length):=(LC _ _).symm;generalize Ha x out out.length=p at *
 refine List.Perm.trans ?_ (List.Perm.append_right [x] (List.Perm.of_eq e.symm));rw[eB,eB];exact YB _ List.perm_append_comm
def VC(l:D_):∀out,(l.foldl Ps out).Perm (out++l):=by
 induction l with
 |nil=>intro out;simp|cons x l ih=>
  intro out;refine(ih (Ps out x)).trans ?_;have:=List.Perm.append_right l (XS out x);simpa using this
def dQ(l:D_):(jI l).Perm l:=by have:=VC l [];simpa[jI]using this
def aE9{I:D_}{p:Nat->Bool}{n:Nat}(c:n<=I.length):∀x∈Le I p n,x∈I:=by intro x a;unfold Le at a;obtain⟨i,b,rfl⟩:=dF.1 a;have:=uM.1 (gR.1 b).1;rw[rH,jN o_];exact eQ _
def XT{I:D_}{p:Nat->Bool}{n:Nat}(d:n<=I.length)(hI:I.Nodup):(Le I p n).Nodup:=by unfold Le;rw[List.Nodup,Mh];refine(aBT.filter p).imp_of_mem ?_;intro i j c b a e;have h1:=uM.1 (gR.1 c).1;have h2:=uM.1 (gR.1 b).1;rw[rH,jN o_,rH,jN o_]at e;exact a ((C9 hI).1 Z_)
def RD {I:D_}:∀(l out:D_),(∀x∈out,x∈I)->∀x∈l.foldl (vL I) out,x∈I|[],_,h=>h| y::l,out,h=>RD l _ (by
   intro x a;unfold vL at a;split at a;rename_i b;simp only[zJ,decide_eq_true_eq]at b;rcases cG.1 a with a|a;exact h x a;rw[cA.1 a];exact(Cz I y).1 b.1
   exact h x a)
def K3{I:D_}:∀(l out:D_),out.Nodup->(l.foldl (vL I) out).Nodup|[],_,h=>h| y::l,out,h=>K3 l _ (by
   unfold vL;split;rename_i c;simp only[zJ,decide_eq_true_eq,EX,decide_eq_false_iff_not]at c;rw[vQ];refine⟨h,s_,?_⟩;intro a f b d e;rw[cA.1 d]at e;exact c.2 (e ▸ f)
   exact h)
def RE {I c:D_}:∀(l out:D_),(∀x∈out,x∈I)->∀x∈l.foldl (uD I c) out,x∈I|[],_,h=>h| y::l,out,h=>RE l _ (by
   intro x a;unfold uD at a;split at a;rename_i b;simp only[zJ,decide_eq_true_eq]at b;rcases cG.1 a with a|a;exact h x a;rw[cA.1 a];exact(Cz I y).1 b.1
   exact h x a)
section
variable{g:GM}
def aEa(b:g.I.length=g.L.length)(l:D_):∀x∈rV g l,x∈g.I:=λx a=>aE9 o_ x ((dQ _).mem_iff.1 a)
def XU(b:g.I.length=g.L.length)(a:g.I.Nodup)(l:D_):(rV g l).Nodup:=(dQ _).nodup_iff.2 (XT o_ a)
def Fg(b:g.I.length=g.L.length)(l:D_):∀x∈Fd g l,x∈g.I:=λx a=>RD l _ (aEa b l) x ((dQ _).mem_iff.1 a)
def XV(b:g.I.length=g.L.length)(a:g.I.Nodup)(l:D_):(Fd g l).Nodup:=(dQ _).nodup_iff.2 (K3 l _ (XU b a l))
def aEb(l:D_):(rV g l).length<=g.L.length:=by rw[rV,(dQ _).length_eq];exact JF _ _ _
def Ou(l:D_):(Fd g l).length<=g.L.length+l.length:=by have h1:=aEb (g:=g) l;have h2:=GN g.I l (rV g l);rw[Fd,(dQ _).length_eq];omega
def KF(l:D_):∀x∈yV g l,x∈g.I:=λx a=>RE l [] s_ x ((dQ _).mem_iff.1 a)
def XW(b:g.I.length=g.L.length)(l:B_):∀x∈qI g l,x∈g.I:=by intro x a;unfold qI at a;split at a;exact(dQ _).mem_iff.1 a;exact Fg b _ x a
def Sy(b:g.I.length=g.L.length)(a:g.I.Nodup)(l:B_):(qI g l).Nodup:=by unfold qI;split;exact(dQ _).nodup_iff.2 a;exact XV b a _
def XX(a:g.ok)(l:B_):(qI g l).length<=g.L.length+4:=by unfold qI;split;rw[(dQ _).length_eq,a.i];omega;have:=Ou (g:=g) (Hj g.I l);have:=Ot g.I l;omega
end
def Ov{o:OpM}(h:jB o=0):o.Seq<=2147483647/\o.At<=2147483647:=by
 unfold jB at h;split at h;simp at h;split at h;simp at h;split at h;simp at h;rename_i a;have:fP o=true:=by cases e:fP o<;>simp_all
 unfold fP oI at this;simp only[zJ,decide_eq_true_eq]at this;omega
def Reach.seqb{cs:List CardM}{g:GM}(h:Reach cs g):∀x∈g.I,x.b<=2147483647:=by
 induction h with
 |new=>simp| @add g o f i d ih=>
  by_cases h:(dV g o).1=0;have a:=Ff h;rw[yE a h];intro x c;rcases cG.1 c with c|c;exact ih x c;rw[cA.1 c];exact(Ov a.check).1;have e:(addM g o).1=g:=by rw[addM,if_pos h]
  rw[e];exact ih
def BK(d m:Nat):CardM:=⟨d,m,((37:Fq)^AG ZC d).val,((37:Fq)^AG ZD d).val,((37:Fq)^AG vW d).val⟩
def lG(a:V_)(d:Nat):AG a d<2^64:=J4 _ _
def BL(ow:V_):List CardM:=ow.mapIdx λi m=>BK (i+1) m
def XY(ow:V_)(i:Nat)(h:i<ow.length):BL (ow.take (i+1))=BL (ow.take i)++[BK (i+1) ow[i]]:=by rw[<-aBV h];grind[BL]
theorem Hk(ow:V_):(BL ow).length=ow.length:=by simp[BL]
def aG1{o:OpM}(h:o.ok)(a b:Nat)(e:a<2^64)(d:b<2^64):OpM.ok {o with SR:=a,SS:=b}:=by refine⟨h.ints,?_,h.epoch,h.of,h.past,h.path,h.body,h.refs,h.guards,h.boxes,h.hist⟩;intro n c;simp only[cS,pP,or_false]at c;rcases c with rfl|rfl|rfl;exact h.nums _ s_;exact e;exact d
def aEc(s:Nat)(b:V_):I9 s b<2^64:=QQ (zM _ d_) (by decide:lT<2^64)
def BM{o:OpM}(h:o.ok):(cM o).ok:=by unfold cM;exact aG1 h _ _ (Cr _) (aEc _ _)
def aEd(ow:V_)(f:ow.length<=1000)(h0:ow≠[])(d:∀m∈ow,m<=1000):cardsOk (BL ow):=by
 have a:∀c∈BL ow,∃i,∃h:i<ow.length,c=BK (i+1) ow[i]:=by intro c b;obtain⟨i,h,rfl⟩:=List.mem_mapIdx.1 b;grind
 refine⟨by rw[Hk];exact f,?_,?_,?_,?_⟩;intro e;have:=Hk ow;grind;intro c b;obtain⟨i,h,rfl⟩:=a c b;have:=d _ (eQ h);refine⟨⟨?_,?_⟩,⟨?_,?_⟩,?_,?_,?_⟩<;>simp only[BK];omega;omega;omega;omega;exact Cr _;exact Cr _;exact Cr _;grind[BK];grind[BK]
def aEe(ow:V_)(o:ow.length<=1000):aA PQ G xP [Sa ow] [] λr T=>r=.own 0/\T=[some (.arr 5 ((BL ow).map CardM.A))]:=by
 apply aC Na;simp only[go_sem];refine aQ ow.length (λi=>⟨0,[(0,Sa ow),(3,.own 0),(4,iv i)],[some (.arr 5 ((BL (ow.take i)).map CardM.A))]⟩) (λ_=>True) ?_ trivial ?_ ?_;rfl;intro i d _;have c:decide ((i:Int)<(ow.length:Int))=true:=decide_eq_true o_;have e:=fQ i o_;have a:(ow.map λn:Nat=>[iv (n:Int)])[i]?=some [iv (ow[i]:Int)]:=ax;have b:(BL (ow.take i)).length=i:=by grind[Hk]
 have m:=XY ow i d;have h:=AI (G:=G) (bs [108,101,97,100]) ZC (i+1) Y_ Y_ (Az d_) d_ o_;have g:=AI (G:=G) (bs [107,101,101,112]) ZD (i+1) Y_ Y_ (Az d_) d_ o_;have f:=AI (G:=G) (bs [115,105,103,110]) vW (i+1) Y_ Y_ (Az d_) d_ o_;have l:=GJ (G:=G) (AG ZC (i+1)) (lG _ _);have k:=GJ (G:=G) (AG ZD (i+1)) (lG _ _);have j:=GJ (G:=G) (AG vW (i+1)) (lG _ _);simp only[go_sem,aP,c,a,e];apply cX h;simp only[go_sem,a];apply cX l;simp only[go_sem,a];apply cX g;simp only[go_sem,a];apply cX k;simp only[go_sem,a];apply cX f;simp only[go_sem,a];apply cX j;simp only[go_sem,aP,b,m,bZ,fG,uP,(g_:i+1<=maxLen),(o_:(i+1)*40<=140737488355328)];simp_all[CardM.A_def,BK,fu];intro _;have c:decide ((ow.length:Int)<(ow.length:Int))=false:=decide_eq_false o_;simp only[go_sem,aP,c,dE]
section
variable{h h1:GH}{φ φ1:Nat->Value}{m n:Nat}
mutual
def aEf:∀{x:AV}{u u1:Value},Rp h φ m x u->Rp h1 φ1 n x u1->Rp h φ n x u
 |.v _,_,_,e,_=>by simpa[Rp]using e|.ls _ _,_,_,e,_=>by simp only[Rp]at *;exact e|.ag g,_,_,e,f=>by simp only[Rp]at *;obtain⟨d,a,b⟩:=e;obtain⟨_,_,c⟩:=f;exact⟨d,a,B4 b c⟩
 |.own _,_,_,e,f=>by simp only[Rp]at *;exact⟨f.1,e.2⟩|.ptr _ _,_,_,e,f=>by simp only[Rp]at *;exact⟨f.1,e.2⟩|.elt _ _ _ _,_,_,e,f=>by simp only[Rp]at *;exact⟨f.1,e.2⟩|.vw _ _ _ _,_,_,e,f=>by simp only[Rp]at *;exact⟨f.1,e.2⟩|.mp _,_,_,e,f=>by simp only[Rp]at *;exact⟨f.1,e.2⟩|.yl _,_,_,e,f=>by simp only[Rp]at *;exact⟨f.1,e.2⟩|.rp _,_,_,e,_=>by simp only[Rp]at *;exact e|.cl _ g,_,_,e,f=>by simp only[Rp]at *;obtain⟨d,a,b⟩:=e;obtain⟨_,_,c⟩:=f;exact⟨d,a,B4 b c⟩
 |.bm _ _ g,_,_,e,f=>by simp only[Rp]at *;obtain⟨d,a,b⟩:=e;obtain⟨_,_,c⟩:=f;exact⟨d,a,B4 b c⟩
 |.tup g,_,_,e,f=>by simp only[Rp]at *;obtain⟨d,a,b⟩:=e;obtain⟨_,_,c⟩:=f;exact⟨d,a,B4 b c⟩
 |.any,_,_,_,_=>A_
def B4:∀{cs:O_}{us vs:C_},cC h φ m cs us->cC h1 φ1 n cs vs->cC h φ n cs us
 |[],us,vs,e,_=>by simpa[cC]using e
 |c::cs,us,vs,e,f=>by
  simp only[cC]at *
  obtain⟨u,d,a,b,c⟩:=e;obtain⟨_,_,_,i,g⟩:=f;exact⟨u,d,a,aEf b i,B4 c g⟩
end
def GP{w w1:World}{i D:Nat}:∀{o:AObj},uF h φ m w i o->uF h1 φ1 n w1 D o->uF h φ n w i o
 |.box O,e,f=>by
  obtain⟨g,B,E,a,b,c,d⟩:=e;obtain⟨_,_,_,_,_,_,F⟩:=f;exact⟨g,B,E,a,b,c,B4 d F⟩
 |.arr _ _,e,_=>e
 |.arf k N,e,f=>by
  refine⟨e.1,e.2.imp id ?_⟩;rintro⟨g,c,y,E,t,q,j,u,v,z,J⟩;refine⟨g,c,y,E,t,q,j,u,v,z,?_⟩;rcases f.2 with⟨_,_,M⟩|⟨_,_,_,_,_,_,_,_,_,_,G⟩
  grind[cC];exact B4 J G
 |.lp r s,e,f=>by
  obtain⟨l,t,q,j,u,v⟩:=e;obtain⟨_,_,_,_,_,I⟩:=f;exact⟨l,t,q,j,u,λp A=>aEf (v p A) (I p A)⟩
 |.mit k a b c,e,f=>by
  obtain⟨g,C,t,q,j,u⟩:=e;obtain⟨_,_,_,_,_,Q⟩:=f;refine⟨g,C,t,q,j,?_⟩;grind
 |.map R L K bs P,e,f=>by obtain⟨g,x,t,q,j,u,v,z⟩:=e;obtain⟨_,_,_,_,_,_,_,H⟩:=f;exact⟨g,x,t,q,j,u,v,B4 z H⟩
end
def aA.keep{P:Program}{G:L_}{f:FuncId}{args:O_}{T:aK}{q:Value->Prop}(B:aA P G f args T λr d=>(∃J,d=T++J)/\∃v,r=.v v/\q v):
 aA P G f args T λr d=>(∃v,r=.v v/\q v)/\d=T:=by
 have n:∀{h:GH}{φ:Nat->Value}{w w':World}{v:Value},Inv h φ w T->CS h φ T w (λr d=>(∃J,d=T++J)/\∃v,r=.v v/\q v) v w'->CS h φ T w (λr d=>(∃v,r=.v v/\q v)/\d=T) v w':=by
  rintro h φ w w' v hI ⟨r,d,F,m,⟨⟨J,rfl⟩,x,rfl,z⟩,c,g,y⟩;have l:∀i o,T[i]?=some (some o)->(T++J)[i]?=some (some o):=λi o e=>by rw[mY];exact e;grind
  refine⟨.v x,T,F,m,⟨⟨x,rfl,z⟩,rfl⟩,?_,?_,by simpa[Rp]using y⟩;exact⟨c.os,c.tape,c.output,c.size,c.frame,c.le,c.gfr,c.phi,λi o b A C=>c.org i o b (l i o A) C,cN _,c.drawn⟩;exact⟨g.gh,λi o e=>GP (g.obj i o (l i o e)) (hI.obj i o e),λi j u t b s p=>g.dis i j u t b (l i u s) (l j t p)⟩
 intro h φ w k D hI E;rcases B h φ w k D hI E with⟨a,b⟩|⟨v,w',a,b⟩
 exact .inl ⟨a,b.mono λe w' ⟨v,s,p⟩=>⟨v,s,n hI p⟩⟩;grind
def eH{P:Program}{G:L_}{f:FuncId}{b:HFun}{H:List (Nat×Option Nat×Nat)}(e:tF P f H=some b){args:O_}{T:aK}{x:Value}
 (c:aF8 P G b args T λr a=>r=.v x/\a.take T.length=T):aA P G f args T λr a=>r=.v x/\a=T:=by
 refine(aA.keep (q:=λv=>v=x) ((fT e c).mono ?_)).mono ?_;rintro r a ⟨rfl,d⟩;exact⟨⟨a.drop T.length,by have:=(LC T.length a).symm;rwa[d]at this⟩,x,rfl,rfl⟩;simp
structure VM where
 Of:Id
 By:Int
 Device:Int
 At:Int
 deriving DecidableEq,Inhabited
structure MM where
 N:Int
 Role:Int
 Is:Bool
 ID:Id
 Guards:List Int
 Need:Int
 Wait:Int
 Obj:Bool
 Last:Int
 deriving DecidableEq,Inhabited
structure RM where
 Cards:List CardM
 In:List Int
 Gone:List Int
 L:List MM
 Back:Int
 V:List VM
 deriving DecidableEq,Inhabited
def VM.A(v:VM):O_:=[iv v.Of.a,iv v.Of.b,.v (.int .u64 v.Of.c),iv v.By,iv v.Device,iv v.At]
def MM.A(m:MM):O_:=[iv m.N,iv m.Role,.v (.bool m.Is),iv m.ID.a,iv m.ID.b,.v (.int .u64 m.ID.c),rG m.Guards,iv m.Need,iv m.Wait,.v (.bool m.Obj),iv m.Last]
def RM.A(r:RM):O_:=[.ls 5 (r.Cards.map CardM.A),rG r.In,rG r.Gone,.ls 11 (r.L.map MM.A),iv r.Back,.ls 6 (r.V.map VM.A)]
def eI(r:RM)(d:Int):Int:=match r.Cards.find? (λc=>c.Device==d) with|some c=>c.Member|none=>0
def jL(r:RM)(n:Int):Int:=qX (λm=>m.N==n) r.L
def sD(r:RM)(n:Int):Int:=if jL r n<0 then 0 else(r.L.getD (jL r n).toNat default).Role
def aB6(r:RM)(d:Int):Bool:=decide (d∈r.In)||decide (d∈r.Gone)
def lZ(r:RM)(d:Int):Bool:=decide (0<eI r d)&&!aB6 r d
def pZ(r:RM)(x:Id):Int:=qX (λm=>m.Is&&decide (m.ID=x)) r.L
def kR(out:B_)(x:Int):Nat:=(out.takeWhile λy=>decide (y<=x)).length
def Sz(out:B_)(x:Int):B_:=out.take (kR out x)++([x]++out.drop (kR out x))
def C0(l:B_):B_:=l.foldl Sz []
def aRq(out:B_)(x:Int):kR out x<=out.length:=(List.takeWhile_sublist _).length_le
def aOp{f:Int->Bool}:∀{out:B_}{k:Nat},k<=out.length->(∀j,j<k->f (out.getD j 0)=true)->(k=out.length\/f (out.getD k 0)=false)->(out.takeWhile f).length=k
 |[],k,a,_,_=>by simp at a;simp[a]|x::out,0,_,_,h2=>by
  simp_all
 |x::out,k+1,a,h1,h2=>by
  have h0:f x=true:=by simpa using h1 0 o_
  rw[List.takeWhile_cons_of_pos h0,sE,aOp (out:=out) (k:=k) M_ (λj b=>by simpa using h1 (j+1) o_) oo]
def RF(out:B_)(x:Int):(Sz out x).Perm (x::out):=by show(out.take (kR out x)++x::out.drop (kR out x)).Perm (x::out);grind[List.take_append_drop]
def Ow:∀(l out:B_),(l.foldl Sz out).Perm (l++out)|[],out=>.refl _|x::l,out=>by refine(Ow l _).trans (((RF out x).append_left l).trans ?_);simp
def Hl(l:B_):(C0 l).Perm l:=by have:=Ow l [];rwa[jO]at this
def aO0(l:B_):(C0 l).length=l.length:=(Hl l).length_eq
def XZ(r:RM)(x:Id)(d:Int):B_:=C0 ((r.V.filter λv=>decide (v.Of=x)&&(v.Device==d)).map (·.At))
def Ll(r:RM)(n d:Int):Int×Int :=
 if jL r n<0 then(0,4) else
 let m:=r.L.getD (jL r n).toNat default
 if !m.Is then(0,4) else
 let a:=XZ r m.ID d
 if(a.length:Int)<m.Need then(0,26) else
 if m.Obj&&decide (a.getD 0 0<=m.Last) then(0,28) else(IntKind.i64.wrap (a.getD (m.Need-1).toNat 0+m.Wait),0)
def kD(r:RM)(o:OpM):Int×Int :=
 let a:=pZ r o.Of
 if a<0 then(-1,25) else
 if !decide (o.By∈(r.L.getD a.toNat default).Guards) then(-1,14) else(a,0)
def JI(r:RM)(o:OpM)(m:Int)(rules:Bool):Int :=
 if o.Device≠0 then(if !decide (o.Device∈r.In) then 17 else if !rules&&eI r o.Device !=m then 14 else 0) else
 if jL r o.Member<0 then 16 else if !rules&&o.Member !=m then 14 else 0
def C1(r:RM)(o:OpM):Int :=
 let g:=kD r o
 if g.2≠0 then g.2 else
 let n:=(r.L.getD g.1.toNat default).N
 if o.Kind==11&&eI r o.Device !=n then 16 else
 if o.Kind==13&&(!decide (o.Old∈r.In)||eI r o.Old !=n||eI r o.Device !=n) then 17 else
 if !lZ r o.Device then 17 else
 if o.Kind==11 then 0 else
 let d:=Ll r n o.Device
 if d.2==0&&decide (o.At<d.1) then 27 else d.2
def mT(r:RM)(o:OpM):Int :=
 let m:=eI r o.By
 if o.Kind==1 then(if m==0 then 17 else if 0<r.In.length\/0<r.Gone.length then 5 else 0) else
 if !decide (o.By∈r.In) then 15 else
 let rules:=sD r m==3
 if o.Kind==2 then(if !lZ r o.Device then 17 else if !rules&&eI r o.Device !=m then 14 else 0) else
 if o.Kind==3 then JI r o m rules else
 if o.Kind==5 then(if !rules then 14 else if jL r o.Member<0 then 16 else 0) else
 if o.Kind==6 then(if sD r m<2 then 14 else 0) else
 if o.Kind==8 then(if !rules&&eI r o.Of.a !=m then 14 else 0) else
 if o.Kind==9 then(if o.Guards.all λd=>decide (d∈r.In) then 0 else 17) else
 if o.Kind==10||o.Kind==12 then(if jL r m<0 then 25 else if !(r.L.getD (jL r m).toNat default).Is||!decide ((r.L.getD (jL r m).toNat default).ID=o.Of) then 25 else 0) else
 if o.Kind==11||o.Kind==13 then C1 r o else 0
def mU(r:RM)(d role:Int):RM :=
 if !lZ r d then r else
 {r with In:=r.In++[d],L:=if jL r (eI r d)<0 then r.L++[⟨eI r d,role,false,⟨0,0,0⟩,[],0,0,false,0⟩] else r.L}
def Fh(r:RM):List VM:=r.V.filter λv=>decide (0<=pZ r v.Of)
def lN(r:RM)(d:Int):RM :=
 if !decide (d∈r.In) then r else
 let n:=eI r d
 let i:=r.In.filter λx=>x !=d
 let b:={r with In:=i,Gone:=r.Gone++[d]}
 if i.any λx=>eI r x==n then b else
 let a:={b with L:=r.L.filter λm=>m.N !=n}
 {a with V:=Fh a}
def BN(r:RM)(o:OpM)(x:Id):RM :=
 let k:=jL r (eI r o.By)
 if k<0 then r else
 let m:=r.L.getD k.toNat default
 let a:={r with L:=r.L.set k.toNat ⟨m.N,m.Role,true,x,o.Guards,o.Need,o.Wait,false,0⟩}
 {a with V:=Fh a}
def iQ(r:RM)(o:OpM):RM :=
 if(kD r o).2≠0 then r else
 let same:=λv:VM=>decide (v.Of=o.Of)&&(v.By==o.By&&v.Device==o.Device)
 {r with V:=r.V.filter (λv=>!same v)++[⟨o.Of,o.By,o.Device,(r.V.filter same).foldl (λa v=>min a v.At) o.At⟩]}
def BS(r:RM)(o:OpM)(x:Id):RM :=
 if o.Kind==1 then(if 0<r.In.length\/0<r.Gone.length\/eI r o.By=0 then r else {mU r o.By 3 with Back:=o.Need}) else
 if o.Kind==2 then mU r o.Device o.Role else
 if o.Kind==3 then(if o.Device=0 then r.In.filter (λd=>eI r d==o.Member) else [o.Device]).foldl lN r else
 if o.Kind==5 then(if jL r o.Member<0 then r else {r with L:=r.L.set (jL r o.Member).toNat { (r.L.getD (jL r o.Member).toNat default) with Role:=o.Role} }) else
 if o.Kind==9 then BN r o x else
 if o.Kind==11 then iQ r o else
 if o.Kind==12 then
  let k:=jL r (eI r o.By)
  if k<0 then r else
  let m:=r.L.getD k.toNat default
  if m.Is&&decide (m.ID=o.Of) then {r with L:=r.L.set k.toNat {m with Obj:=true,Last:=max m.Last o.At} } else r
 else
 if o.Kind==13 then
  let k:=pZ r o.Of
  if k<0 then r else
  let n:=(r.L.getD k.toNat default).N
  if decide (o.Old∈r.In)&&(eI r o.Old==n&&eI r o.Device==n) then lN (mU r o.Device (sD r (eI r o.Device))) o.Old else r
 else r
def RM.new(cs:List CardM):RM:=⟨cs,[],[],[],0,[]⟩
@[go_sem] def OpM.g16(o:OpM):o.A[16]?=some (iv o.Of.a):=fI rfl rfl
structure RM.ok(r:RM):Prop where
 c:r.Cards.length<=1000
 i:r.In.length<=100000
 g:r.Gone.length<=100000
 l:r.L.length<=100000
 v:r.V.length<=100000
 mg:∀m∈r.L,m.Guards.length<=1000
theorem RM.A_def(r:RM):r.A=[.ls 5 (r.Cards.map CardM.A),rG r.In,rG r.Gone,.ls 11 (r.L.map MM.A),iv r.Back,.ls 6 (r.V.map VM.A)]:=fI rfl rfl
def MM.A_def(m:MM):m.A=[iv m.N,iv m.Role,.v (.bool m.Is),iv m.ID.a,iv m.ID.b,.v (.int .u64 m.ID.c),rG m.Guards,iv m.Need,iv m.Wait,.v (.bool m.Obj),iv m.Last]:=fI rfl rfl
def aMv{α:Type}(p:α->Bool)(l:List α):qX p l<(l.length:Int):=by
 unfold qX
 cases h:l.findIdx? p with
 |none=>simp only;omega|some i=>
  have:=(Ad.1 h).1;simp only;omega
def ZP{α:Type}{p:α->Bool}{l:List α}(h:0<=qX p l):∃i:Nat,qX p l=(i:Int)/\∃a:i<l.length,p l[i]=true:=by
 unfold qX at h⊢
 cases e:l.findIdx? p with
 |none=>rw[e]at h;simp at h|some i=>
  obtain⟨h1,h2,_⟩:=Ad.1 e;grind
def nH{α:Type}[Inhabited α]{l:List α}{i:Nat}(h:i<l.length):l.getD i default=l[i]:=u_
def aFc(r:RM)(d:Int)(l:r.ok):aA PQ G aBD [.ag r.A,iv d] [] λx T=>x=iv (eI r d)/\T=[]:=by
 apply aC aOy;have m:=l.c;simp only[go_sem,RM.A_def];refine aQ r.Cards.length (λi=>⟨0,[(1,iv d),(2,.ptr 0 0),(5,iv i)],[some (.box r.A)]⟩) (λi=>∀j(a:j<r.Cards.length),j<i->(r.Cards[j].Device==d)=false) ?_ U_ ?_ ?_;rfl;intro i b f;have g:(r.Cards.map CardM.A)[i]?=some [iv r.Cards[i].Device,iv r.Cards[i].Member,uv r.Cards[i].Lead,uv r.Cards[i].Keep,uv r.Cards[i].Sign]:=aO _ r.Cards i b;simp only[go_sem,RM.A_def,aP,aT b,g];refine aL (λh=>?_) (λh=>?_)<;>simp only[go_sem,g,fQ i o_];have e:r.Cards.find? (λc=>c.Device==d)=some r.Cards[i]:=aBG.2 ⟨h,i,b,rfl,λj a=>by simp[f j o_ a]⟩;simp only[eI,e];grind[RM.A_def];intro f;have e:r.Cards.find? (λc=>c.Device==d)=none:=Eb.2 λx k=>by obtain⟨j,a,rfl⟩:=CU k;simp[f j a a]
 simp only[go_sem,RM.A_def,aP,aS (bP _),eI,e]
def aDy(r:RM)(n:Int)(d:r.ok):aA PQ G aBE [.ag r.A,iv n] [] λx T=>x=iv (jL r n)/\T=[]:=by refine aC aMp ?_;have f:=d.l;simp only[go_sem,RM.A_def];refine aQ r.L.length (λi=>⟨0,[(1,iv n),(2,.ptr 0 0),(5,iv i)],[some (.box r.A)]⟩) (λi=>∀j(a:j<r.L.length),j<i->(r.L[j].N==n)=false) ?_ U_ ?_ ?_;rfl;intro i b c;have e:(r.L.map MM.A)[i]?=some r.L[i].A:=aO _ r.L i b;simp only[go_sem,RM.A_def,aP,aT b,e,MM.A_def];refine aL (λh=>?_) (λh=>?_)<;>simp only[go_sem,fQ i o_];unfold jL;rw[mC b c h];grind[RM.A_def];intro c;simp only[go_sem,RM.A_def,aP,aS (bP _)];unfold jL;rw[lD λj a=>c j a a]
def Ox{r:RM}{n:Int}(h:0<=jL r n):∃i:Nat,jL r n=(i:Int)/\∃a:i<r.L.length,(r.L[i].N==n)=true:=ZP h
def aOB(r:RM)(n:Int)(c:r.ok):aA PQ G aJ5 [.ag r.A,iv n] [] λx T=>x=iv (sD r n)/\T=[]:=by refine aC aNP ?_;have a:=aDy (G:=G) r n c;simp only[go_sem,RM.A_def]at a⊢;apply cX a;simp only[go_sem];refine aL (λh=>?_) (λh=>?_);simp only[go_sem];grind[sD];have h0:¬jL r n<0:=of_decide_eq_false h;obtain⟨i,e,b,_⟩:=Ox (o_:0<=jL r n);have d:(r.L.map MM.A)[i]?=some r.L[i].A:=aO _ r.L i b;rw[sD,if_neg h0,e];simp only[go_sem,d,MM.A_def];rw[nH b]
def aQi(r:RM)(d:Int)(a:r.ok):aA PQ G aM4 [.ag r.A,iv d] [] λx T=>x=.v (.bool (aB6 r d))/\T=[]:=by refine aC aOi ?_;unfold aB6;have h1:=a.i;have h2:=a.g;simp only[go_sem,RM.A_def];apply cX (aKc r.In d o_);cases b:decide (d∈r.In);simp only[go_sem];apply cX (aKc r.Gone d o_);simp only[go_sem,EH];simp only[go_sem,undef,EI]
def aMb(r:RM)(d:Int)(b:r.ok):aA PQ G aGT [.ag r.A,iv d] [] λx T=>x=.v (.bool (lZ r d))/\T=[]:=by refine aC aME ?_;unfold lZ;have a:=aQi (G:=G) r d b;have c:=aFc (G:=G) r d b;simp only[go_sem,RM.A_def]at a c⊢;apply cX a;simp only[go_sem];apply cX c;simp only[go_sem];cases h1:decide (0<eI r d)<;>cases h2:aB6 r d<;>simp only[go_sem,undef,lI,sF,lR,mF]
def aKU(r:RM)(x:Id)(g:r.ok):aA PQ G aET [.ag r.A,.ag x.A] [] λy T=>y=iv (pZ r x)/\T=[]:=by
 apply aC aMG;have m:=g.l;simp only[go_sem,RM.A_def];refine aQ r.L.length (λi=>⟨0,[(2,.ptr 0 0),(3,.ptr 1 0),(5,iv i)],[some (.box r.A),some (.box x.A)]⟩) (λi=>∀j(a:j<r.L.length),j<i->(r.L[j].Is&&decide (r.L[j].ID=x))=false) ?_ U_ ?_ ?_;rfl;intro i b c;have d:(r.L.map MM.A)[i]?=some r.L[i].A:=aO _ r.L i b;have f:=Id.beq r.L[i].ID x;have e:=fQ i o_;have k:(r.L[i].Is&&decide (r.L[i].ID=x))=false->∀j(a:j<r.L.length),j<i+1->(r.L[j].Is&&decide (r.L[j].ID=x))=false:=m_;cases h1:r.L[i].Is;simp only[go_sem,RM.A_def,aP,aT b,d,MM.A_def,Id.A_def,h1,undef,e];simp_all;cases h2:decide (r.L[i].ID=x);simp only[go_sem,RM.A_def,aP,aT b,d,MM.A_def,Id.A_def,h1,f,h2,e];simp_all;simp only[go_sem,RM.A_def,aP,aT b,d,MM.A_def,Id.A_def,h1,f,h2];unfold pZ;rw[mC b c (by rw[h1,h2];rfl)];intro c;simp only[go_sem,RM.A_def,aP,aS (bP _)];unfold pZ;rw[lD λj a=>c j a a]
def Hm{r:RM}{x:Id}(h:0<=pZ r x):∃i:Nat,pZ r x=(i:Int)/\∃a:i<r.L.length,(r.L[i].Is&&decide (r.L[i].ID=x))=true:=ZP h
def aMM(r:RM)(o:OpM)(b:r.ok):aA PQ G aID [.ag r.A,.ag o.A] [] λy T=>y=.tup [iv (kD r o).1,iv (kD r o).2]/\T=[]:=by
 apply aC aMt;have a:=aKU (G:=G) r o.Of b;simp only[go_sem,RM.A_def]at a⊢;apply cX a;simp only[go_sem];refine aL (λh=>?_) (λh=>?_);simp only[go_sem];grind[kD];have h0:¬pZ r o.Of<0:=of_decide_eq_false h;obtain⟨i,e,c,_⟩:=Hm (o_:0<=pZ r o.Of);have f:(r.L.map MM.A)[i]?=some r.L[i].A:=aO _ r.L i c;have j:=b.mg _ (eQ c);have d:=aKc (G:=G) r.L[i].Guards o.By o_;have g:kD r o=if(!decide (o.By∈r.L[i].Guards))=true then(-1,14) else((i:Int),0):=by grind[kD,Int.toNat_natCast]
 rw[g];simp only[go_sem,e,f,MM.A_def];apply cX d;cases k:decide (o.By∈r.L[i].Guards)<;>simp only[go_sem]
def aOC(r:RM)(o:OpM)(m:Int)(a:Bool)(c:r.ok):aA PQ G aJu [.ag r.A,.ag o.A,iv m,.v (.bool a)] [] λy T=>y=iv (JI r o m a)/\T=[]:=by
 apply aC aM8;have h1:=aKc (G:=G) r.In o.Device (by have:=c.i;omega);have h2:=aFc (G:=G) r o.Device c;have h3:=aDy (G:=G) r o.Member c;simp only[go_sem,RM.A_def]at h1 h2 h3⊢;unfold JI;by_cases b:o.Device=0;rw[if_neg R_];simp only[go_sem,b];apply cX h3;simp only[go_sem];refine aL (λh=>?_) (λh=>?_);simp only[go_sem];simp_all;rw[if_neg (of_decide_eq_false h)];cases a;cases d:(o.Member !=m)<;>simp only[go_sem,d];simp only[go_sem,undef];have e:(o.Device !=0)=true:=R_;rw[if_pos b];simp only[go_sem,e];apply cX h1;cases f:decide (o.Device∈r.In);simp only[go_sem];simp only[go_sem];cases a;simp only[go_sem];apply cX h2;cases d:(eI r o.Device !=m)<;>simp only[go_sem,d];simp only[go_sem,undef]
def aOD (l:B_) (w:l.length<=100000):aA PQ G aK3 [rG l] [] λr T=>r=.own 0/\T=[some (.arr 1 ((C0 l).map λn=>[iv n]))]:=by
 apply aC aMr;have c:∀i,i<=l.length->(C0 (l.take i)).length=i:=λi f=>by rw[aO0,eC];omega
 simp only[go_sem];refine aQ l.length (λi=>⟨0,[(0,rG l),(3,.own 0),(4,iv i)],[some (.arr 1 ((C0 (l.take i)).map λn=>[iv n]))]⟩) (λ_=>True) ?_ trivial ?_ ?_;simp only[go_sem,uQ];rfl;intro i f _;have o:=fQ i o_;have m:(l.map λn=>[iv n])[i]?=some [iv l[i]]:=aO _ l i f;have b:C0 (l.take (i+1))=Sz (C0 (l.take i)) l[i]:=by unfold C0;rw[GO _ _ l i f]
 have c:=c i o_;rw[b];generalize C0 (l.take i)=out at *
 generalize l[i]=x at *
 have d:=aRq out x;simp only[go_sem,aP,aT f];refine jG (λs=>s=⟨0,[(0,rG l),(3,.own 0),(4,iv i),(5,iv (kR out x))],[some (.arr 1 (out.map λn=>[iv n]))]⟩) ?_ ?_;refine cO (λn s=>∃k:Nat,n=out.length-k/\k<=out.length/\(∀j,j<k->decide (out.getD j 0<=x)=true)/\s=⟨0,[(0,rG l),(3,.own 0),(4,iv i),(5,iv k)],[some (.arr 1 (out.map λn=>[iv n]))]⟩) out.length
  ⟨0,rfl,pR _,λj e=>o_,f_⟩ ?_
 rintro n s ⟨k,t,g,e,rfl⟩;by_cases a:k<out.length;have v:(out.map λn=>[iv n])[k]?=some [iv (out.getD k 0)]:=by rw[gE,rH,jN a];rfl
 have p:=fQ k o_;simp only[go_sem,aP,aT a,a,v,m];refine aL (λh=>?_) (λh=>?_);simp only[go_sem,p]
 exact⟨out.length-(k+1),o_,k+1,rfl,o_,λj u=>by
  rcases eD j k with h1|h1;exact e j h1;obtain rfl:j=k:=o_
  exact h,rfl⟩
 simp only[go_sem];rw[show kR out x=k from aOp g e (.inr h)];simp only[go_sem,aP,aS a,undef];rw[show kR out x=k from aOp g e (.inl o_)];rintro s rfl;unfold Sz;generalize kR out x=q at *
 simp only[go_sem,aP,eC,vY,dZ,Kj d,d,QO,pQ,pR,m,(o_:q*8<=140737488355328),(g_:q<=maxLen),(g_:q+1<=maxLen),(o_:(q+1)*8<=140737488355328),
  (o_:q+(out.length-q)=out.length),o,(o_:(q+1+(out.length-q))*8<=140737488355328),(g_:q+1+(out.length-q)<=maxLen),cN,eB,bZ,QN,aC0,fG,uP]
 intro _;rw[sG o_];simp only[go_sem,aP,aS (bP _)]
def VM.A_def(v:VM):v.A=[iv v.Of.a,iv v.Of.b,.v (.int .u64 v.Of.c),iv v.By,iv v.Device,iv v.At]:=fI rfl rfl
def aOE{α:Type}(p:α->Bool)(l:List α)(i:Nat)(h:i<l.length):(l.take (i+1)).filter p=(l.take i).filter p++(if p l[i] then [l[i]] else []):=by rw[lB h,Mf];grind
def aQj (r:RM) (n d:Int) (B:r.ok) (g:∀m∈r.L,m.Is=true->1<=m.Need/\m.Need<=1000):aA PQ G aM5 [.ag r.A,iv n,iv d] [] λy T=>y=.tup [iv (Ll r n d).1,iv (Ll r n d).2]/\T=[]:=by
 apply aC aOj;have C:=aDy (G:=G) r n B;have I:=B.v;simp only[go_sem,RM.A_def]at C⊢;apply cX C;simp only[go_sem];refine aL (λh=>?_) (λh=>?_);simp only[go_sem];grind[Ll];have h0:¬jL r n<0:=of_decide_eq_false h;obtain⟨i,e,E,_⟩:=Ox (o_:0<=jL r n);have O:(r.L.map MM.A)[i]?=some r.L[i].A:=aO _ r.L i E;have F:Ll r n d=if(!r.L[i].Is)=true then(0,4) else if((XZ r r.L[i].ID d).length:Int)<r.L[i].Need then(0,26) else
   if(r.L[i].Obj&&decide ((XZ r r.L[i].ID d).getD 0 0<=r.L[i].Last))=true then(0,28) else(IntKind.i64.wrap ((XZ r r.L[i].ID d).getD (r.L[i].Need-1).toNat 0+r.L[i].Wait),0):=by
  grind[Ll,Int.toNat_natCast]
 rw[F];have s:=g _ (eQ E);clear F g;simp only[go_sem,e,O,MM.A_def];cases b:r.L[i].Is;simp only[go_sem];obtain⟨S,R⟩:=s b;generalize r.L[i]=m at *
 simp only[go_sem];refine aQ r.V.length (λk=>⟨0,[(2,iv d),(3,.ptr 0 0),(9,.ptr 1 0),(10,.own 2),(11,iv k)],[some (.box [.ls 5 (r.Cards.map CardM.A),rG r.In,rG r.Gone,.ls 11 (r.L.map MM.A),iv r.Back,.ls 6 (r.V.map VM.A)]),some (.box m.A),some (.arr 1 ((((r.V.take k).filter λv=>decide (v.Of=m.ID)&&(v.Device==d)).map (·.At)).map λn=>[iv n]))]⟩) (λ_=>True) ?_ trivial ?_ ?_;simp only[go_sem,MM.A_def,b,uQ];intro k j _;have p:=fQ k o_;have u:(r.V.map VM.A)[k]?=some r.V[k].A:=aO _ r.V k j;rw[aOE _ r.V k j];have D:((r.V.take k).filter λv=>decide (v.Of=m.ID)&&(v.Device==d)).length<=k:=uR (List.length_filter_le _ _) ox;generalize((r.V.take k).filter λv=>decide (v.Of=m.ID)&&(v.Device==d))=out at *
 generalize r.V[k]=v at *
 have t:=Id.beq v.Of m.ID;have Q:out.length+1<=maxLen:=g_;have P:(out.length+1)*8<=140737488355328:=o_;cases h1:decide (v.Of=m.ID);simp only[go_sem,aP,aT j,u,MM.A_def,VM.A_def,b,t,h1,undef,p];cases h2:(v.Device==d);simp only[go_sem,aP,aT j,u,MM.A_def,VM.A_def,b,t,h1,h2,p];simp only[go_sem,aP,aT j,u,MM.A_def,VM.A_def,b,t,h1,h2,p,Q,P];intro _;rw[dE];have N:(r.V.filter λv=>decide (v.Of=m.ID)&&(v.Device==d)).length<=100000:=uR (List.length_filter_le _ _) I;have K:=aOD (G:=G) ((r.V.filter λv=>decide (v.Of=m.ID)&&(v.Device==d)).map (·.At)) (by rw[aP];exact N);have o:XZ r m.ID d=C0 ((r.V.filter λv=>decide (v.Of=m.ID)&&(v.Device==d)).map (·.At)):=rfl;rw[o];generalize(r.V.filter λv=>decide (v.Of=m.ID)&&(v.Device==d)).map (·.At)=l at *
 simp only[go_sem,aP,aS (bP _),MM.A_def,b];apply cH (aB _) rfl rfl K;rintro y W ⟨rfl,rfl⟩;refine⟨z_,by simp only[cA,forall_eq,xH,dF];rintro e ⟨a,_,rfl⟩ c M;exact⟨_,cA.1 M⟩,?_⟩;have J:=aO0 l;generalize C0 l=f at *
 simp only[go_sem,aP];refine aL (λh1=>?_) (λh1=>?_);simp only[go_sem,of_decide_eq_true h1];have h1:=of_decide_eq_false h1;have w1:IntKind.i64.wrap (m.Need-1)=m.Need-1:=aJ o_ o_;have q:(m.Need-1).toNat<f.length:=o_;have z:0<=m.Need-1:=o_;have x:0<f.length:=o_;have H:(f.map λn=>[iv n])[0]?=some [iv (f.getD 0 0)]:=by rw[gE,rH,jN x];rfl
 have w:(f.map λn=>[iv n])[(m.Need-1).toNat]?=some [iv (f.getD (m.Need-1).toNat 0)]:=by rw[gE,rH,jN q];rfl
 cases U:m.Obj;simp only[go_sem,aP,undef,w1,q,z,w,h1];simp only[go_sem,aP,x,H,ge_iff_le];refine aL (λh2=>?_) (λh2=>?_);simp only[go_sem,h1,h2];simp only[go_sem,aP,w1,q,z,w,h1,h2]
def RM.need(r:RM):Prop:=∀m∈r.L,m.Is=true->1<=m.Need/\m.Need<=1000
def aLV (r:RM) (o:OpM) (c:r.ok) (a:o.Kind=11\/o.Kind=13) (b:r.need):aA PQ G aJ6 [.ag r.A,.ag o.A] [] λy T=>y=iv (C1 r o)/\T=[]:=by
 apply aC aLS;have m:=aMM (G:=G) r o c;have h1:=aFc (G:=G) r o.Device c;have h2:=aFc (G:=G) r o.Old c;have h3:=aKc (G:=G) r.In o.Old (by have:=c.i;omega);have g:=aMb (G:=G) r o.Device c;have f:=λn=>aQj (G:=G) r n o.Device c b;simp only[go_sem,RM.A_def]at m h1 h2 g f⊢;apply cX m;simp only[go_sem];refine aL (λp=>?_) (λp=>?_);simp only[go_sem];grind[C1];have t:(kD r o).2=0:=by simpa using p
 obtain⟨i,e,l⟩:∃i:Nat,(kD r o).1=(i:Int)/\i<r.L.length:=by rw[kD]at t⊢;by_cases h0:pZ r o.Of<0;simp_all;obtain⟨i,e,l,_⟩:=Hm (o_:0<=pZ r o.Of);grind
 have u:(r.L.map MM.A)[i]?=some r.L[i].A:=aO _ r.L i l;have q:C1 r o=if(o.Kind==11&&eI r o.Device !=r.L[i].N)=true then 16 else
   if(o.Kind==13&&(!decide (o.Old∈r.In)||eI r o.Old !=r.L[i].N||eI r o.Device !=r.L[i].N))=true then 17 else
   if(!lZ r o.Device)=true then 17 else if(o.Kind==11)=true then 0 else
   if((Ll r r.L[i].N o.Device).2==0&&decide (o.At<(Ll r r.L[i].N o.Device).1))=true then 27 else(Ll r r.L[i].N o.Device).2:=by
  grind[C1,Int.toNat_natCast]
 rw[q];have f:=f r.L[i].N;clear q;simp only[go_sem,e,u,MM.A_def];generalize r.L[i].N=n at *
 generalize Ll r n o.Device=h at *
 rcases a with a|a;simp only[go_sem,a];apply cX h1;cases d:(eI r o.Device !=n);simp only[go_sem,a,d,undef];apply cX g;cases k:lZ r o.Device;simp only[go_sem,a];simp only[go_sem,a];simp only[go_sem,a,d];simp only[go_sem,a,undef];apply cX h3;cases w:decide (o.Old∈r.In);simp only[go_sem,a,undef];simp only[go_sem];apply cX h2;cases d:(eI r o.Old !=n);simp only[go_sem,d];apply cX h1;cases k:(eI r o.Device !=n);simp only[go_sem,k];apply cX g;cases v:lZ r o.Device;simp only[go_sem,a];simp only[go_sem,a];apply cX f;cases s:(h.2==0);simp only[go_sem,a,s,undef];simp only[go_sem,s];refine aL (λj=>?_) (λj=>?_);simp only[go_sem,a,j];simp only[go_sem,a,j];simp only[go_sem,a,k];simp only[go_sem,a,d,undef]
def aPq(p:Int->Bool)(l:B_)(i:Nat)(h:i<l.length):(l.take (i+1)).all p=((l.take i).all p&&p l[i]):=by rw[lB h,YK];simp
def aPi (r:RM) (o:OpM) (x:Id) (g:r.ok) (ho:o.ok) (k:r.need):aA PQ G aKJ [.ag r.A,.ag o.A,.ag x.A] [] λy T=>y=iv (mT r o)/\T=[]:=by
 apply aC aOg;have z:=aFc (G:=G) r o.By g;have Q:=aKc (G:=G) r.In o.By (by have:=g.i;omega);have u:=aOB (G:=G) r (eI r o.By) g;have F:=aMb (G:=G) r o.Device g;have B:=aFc (G:=G) r o.Device g;have w:=λb=>aOC (G:=G) r o (eI r o.By) b g;have D:=aDy (G:=G) r o.Member g;have C:=aFc (G:=G) r o.Of.a g;have v:=aDy (G:=G) r (eI r o.By) g;have E:=g.i;have ac:=ho.guards.1;unfold mT;generalize hm:eI r o.By=m at *
 simp only[go_sem,RM.A_def]at z u F B w D C v⊢;apply cX z;cases W:(o.Kind==1);rotate_left;simp only[go_sem,W];cases m0:(m==0);by_cases c1:0<r.In.length;have K:decide ((r.In.length:Int)>0)=true:=decide_eq_true o_;simp only[go_sem,aP,K,undef];rw[if_pos (.inl c1)];have K:decide ((r.In.length:Int)>0)=false:=decide_eq_false o_;by_cases c2:0<r.Gone.length;have R:decide ((r.Gone.length:Int)>0)=true:=decide_eq_true o_;simp only[go_sem,aP,K,R];rw[if_pos (.inr c2)];have R:decide ((r.Gone.length:Int)>0)=false:=decide_eq_false o_;simp only[go_sem,aP,K,R];rw[if_neg (λh=>h.elim c1 c2)];simp only[go_sem];simp only[go_sem,W];apply cX Q;cases hb:decide (o.By∈r.In);simp only[go_sem];simp only[go_sem];apply cX u;generalize ab:sD r m=M at *
 cases U:(o.Kind==2);rotate_left;simp only[go_sem,U];apply cX F;cases S:lZ r o.Device;simp only[go_sem];simp only[go_sem];cases X:(M==3);simp only[go_sem];apply cX B;cases I:(eI r o.Device !=m);simp only[go_sem,I];simp only[go_sem,I];simp only[go_sem,undef];simp only[go_sem,U];cases k3:(o.Kind==3);rotate_left;simp only[go_sem];apply cX (w _);simp only[go_sem];simp only[go_sem];cases k5:(o.Kind==5);rotate_left;simp only[go_sem];cases X:(M==3);simp only[go_sem];simp only[go_sem];apply cX D;simp only[go_sem];refine aL (λh=>?_) (λh=>?_);simp only[go_sem];rw[if_pos (of_decide_eq_true h)];simp only[go_sem];rw[if_neg (of_decide_eq_false h)];simp only[go_sem];cases k6:(o.Kind==6);rotate_left;simp only[go_sem];apply cX u;simp only[go_sem];refine aL (λh=>?_) (λh=>?_);simp only[go_sem];rw[if_pos (of_decide_eq_true h)];simp only[go_sem];rw[if_neg (of_decide_eq_false h)];simp only[go_sem];cases k8:(o.Kind==8);rotate_left;simp only[go_sem];cases X:(M==3);simp only[go_sem];apply cX C;cases I:(eI r o.Of.a !=m);simp only[go_sem,I];simp only[go_sem,I];simp only[go_sem,undef];simp only[go_sem];cases k9:(o.Kind==9);rotate_left;simp only[go_sem];refine aQ o.Guards.length (λi=>⟨0,[(3,.ptr 0 0),(4,.ptr 1 0),(10,iv i)],[some (.box [.ls 5 (r.Cards.map CardM.A),rG r.In,rG r.Gone,.ls 11 (r.L.map MM.A),iv r.Back,.ls 6 (r.V.map VM.A)]),some (.box o.A)]⟩) (λi=>(o.Guards.take i).all (λd=>decide (d∈r.In))=true) ?_ s_ ?_ ?_;simp only[go_sem];intro i E J;have Y:=fQ i o_;have q:(o.Guards.map λn=>[iv n])[i]?=some [iv o.Guards[i]]:=aO _ o.Guards i E;have hh:=aKc (G:=G) r.In o.Guards[i] o_;have hd:=aPq (λd=>decide (d∈r.In)) o.Guards i E;simp only[go_sem,aP,aT E,q];apply cX hh;cases S:decide (o.Guards[i]∈r.In);simp only[go_sem];rw[if_neg];intro s;rw[oD]at s;have:=s _ (eQ E);rw[S]at this;exact absurd this d_;simp only[go_sem,Y];rw[hd,J,S];rfl;intro J;rw[dE]at J;simp only[go_sem,aP,aS (bP _),J];simp only[go_sem];have O:(o.Kind==10||o.Kind==12)=true\/((o.Kind==10)=false/\(o.Kind==12)=false):=by cases(o.Kind==10)<;>cases(o.Kind==12)<;>simp
 rcases O with P|⟨f,c⟩
 have H:∀b:Bool,(o.Kind==10)=b->b=false->(o.Kind==12)=true:=by intro b h1 h2;rw[h1,h2]at P;simpa using P
 have aa:∀Z:St,True:=λ_=>trivial;rw[if_pos P];cases f:(o.Kind==10);have c:=H _ f rfl;simp only[go_sem,c];apply cX v;simp only[go_sem];refine aL (λh=>?_) (λh=>?_);simp only[go_sem];rw[if_pos (of_decide_eq_true h)];have h0:¬jL r m<0:=of_decide_eq_false h;obtain⟨i,e,l,_⟩:=Ox (o_:0<=jL r m);have q:(r.L.map MM.A)[i]?=some r.L[i].A:=aO _ r.L i l;have p:=Id.beq r.L[i].ID o.Of;rw[if_neg h0,e,nI,nH l];cases c1:r.L[i].Is;simp only[go_sem,q,MM.A_def,c1,undef,Id.A_def];cases c2:decide (r.L[i].ID=o.Of);simp only[go_sem,q,MM.A_def,c1,p,c2,Id.A_def];simp only[go_sem,q,MM.A_def,c1,p,c2,Id.A_def];simp only[go_sem];apply cX v;simp only[go_sem];refine aL (λh=>?_) (λh=>?_);simp only[go_sem];rw[if_pos (of_decide_eq_true h)];have h0:¬jL r m<0:=of_decide_eq_false h;obtain⟨i,e,l,_⟩:=Ox (o_:0<=jL r m);have q:(r.L.map MM.A)[i]?=some r.L[i].A:=aO _ r.L i l;have p:=Id.beq r.L[i].ID o.Of;rw[if_neg h0,e,nI,nH l];cases c1:r.L[i].Is;simp only[go_sem,q,MM.A_def,c1,undef,Id.A_def];cases c2:decide (r.L[i].ID=o.Of);simp only[go_sem,q,MM.A_def,c1,p,c2,Id.A_def];simp only[go_sem,q,MM.A_def,c1,p,c2,Id.A_def];simp only[go_sem,f,c];cases N:(o.Kind==11);cases t:(o.Kind==13);simp only[go_sem,t,f,c];have j:=aLV (G:=G) r o g (.inr J_) k;simp only[go_sem,RM.A_def]at j;simp only[go_sem,t];apply cX j;simp only[go_sem,f,c];have j:=aLV (G:=G) r o g (.inl (by simpa using N)) k;simp only[go_sem,RM.A_def]at j;simp only[go_sem];apply cX j;simp only[go_sem,f,c]
end Hud
namespace Hud
set_option maxRecDepth 99999
open Go
open W
def P8:=eVf (cF HL [])
def Hn:=eVf (cF tM [])
def JJ:cF Am [(0,none,1002)]=some ⟨259,[],S [R 4 0 [1,2] [b t1,b t2],D 17 9 [] [l (f 3 (y v0)),K [zl 20 19,zf 19 18 3,zo 18 (.nilc (zt 17)),zm 17 0] (c2 bR v0 (l (f 0 t4))),A 6 (x (.lku false [.int .i64] (.pointer none) (zt 20) (zt 24) false))],R0 26 1 [l (f 2 t4)],bw 0 (S [R0 29 1 [eq (t 27) w1,J 28 v29],Ie 28 [27,6,5] (S [R0 30 11 [l (f 2 (y v0)),N (eq (x (.lenM (zt 33))) w0) (c2 iL v0 (l (f 0 t4)))],Iz 41 [] (S [R0 42 4 [c3 mK v0 (l (f 0 t4)) w3],R 46 5 [0,4] [v0,l (f 20 t4),s 1 (f 4 (y (t 46))) (t 48)]]) [0,4]]) [] (S [R0 52 1 [eq (t 27) w2,J 51 (v 52)],Ie 51 [27,6,5] (R 53 6 [0,4] [c3 mK v0 (l (f 5 t4)) (l (f 8 t4))]) [] (S [R0 60 1 [eq (t 27) w3,J 59 (v 60)],Ie 59 [27,6,5] (S [S [R0 61 2 [ne (l (f 5 t4)) w0],If 63 [] (S [R 64 4 [0,4] [c2 nK v0 (l (f 5 t4))],.ret])],R0 68 1 [n (c1 sH v0),M w0],ra 1 71 (t 70) 72 [69,71,70,4,0] 84 (S [R0 73 2 [A 8 (l (i 1 (t 69) (t 71)))],D 75 5 [] [v0,v8,J 78 (l (f 7 t4)),J 77 (K [zl 79 78,zf 78 4 7] (c2 bR (t 75) (t 76))),J 80 (eq (t 77) (t 79))],Iz 80 [] (R 81 3 [8] [c2 nK v0 v8]) [8]])]) [] (S [R0 86 1 [eq (t 27) (w 5),J 85 (v 86)],Ie 85 [27,6,5] (S [D 87 7 [0] [l (f 3 (y v0)),l (f 7 t4),A 9 (x (.lku false [.int .i64] (.pointer none) (zt 90) (zt 92) false))],R0 94 1 [v9,x (.nilS true 0 (zt 94))],Iz 95 [] (R 96 5 [9,4] [v9,l (f 8 t4),s 1 (f 0 (y (t 96))) (t 98)]) [9,4]]) [] (S [R0 102 1 [eq (t 27) (w 9),J 101 (v 102)],Ie 101 [27,0] (S [R0 103 1 [v6,x (.nilS true 0 (zt 103))],Iz 104 [] (S [.regd (zq (zm 105 6) (zq (zv 106 3 5) (zq (zf 107 4 19) (zq (zl 108 107) (zq (zf 110 4 20) (zq (zl 111 110) (zq (zf 112 4 21) (zq (zl 113 112) (zA (zo 109 (.call (.func eU) [zt 108])) [zl 113 112,zf 112 4 21,zl 111 110,zf 110 4 20,zv 106 3 5,zm 105 6] (zA (zo 114 (.mkm true)) [zl 113 112,zf 112 4 21,zl 111 110,zf 110 4 20,zv 106 3 5,zm 105 6] (zq (zo 115 (.bld [z0,z0,zU,zS,z0,z0,.map none,.bool false,z0] [(0,(3,zt 106)),(3,(1,zt 109)),(4,(1,zt 111)),(5,(1,zt 113)),(6,(1,zt 114))])) (zA (zo 116 (.box (zt 115))) [zm 105 6] (zq (zo 117 (.nilc (zt 105))) (zq (zf 118 117 1) (zA (⟨none,.st 1 (zt 118) (zt 116),none⟩) [] (.done false) .no))) .no)) .no) (zA (zo 114 (.mkm true)) [zl 113 112,zf 112 4 21,zl 111 110,zf 110 4 20,zl 108 107,zf 107 4 19,zv 106 3 5,zm 105 6] (zA (zo 109 (.call (.func eU) [zt 108])) [zl 113 112,zf 112 4 21,zl 111 110,zf 110 4 20,zv 106 3 5,zm 105 6] (zq (zo 115 (.bld [z0,z0,zU,zS,z0,z0,.map none,.bool false,z0] [(0,(3,zt 106)),(3,(1,zt 109)),(4,(1,zt 111)),(5,(1,zt 113)),(6,(1,zt 114))])) (zA (zo 116 (.box (zt 115))) [zm 105 6] (zq (zo 117 (.nilc (zt 105))) (zq (zf 118 117 1) (zA (⟨none,.st 1 (zt 118) (zt 116),none⟩) [] (.done false) .no))) .no)) .no) .no)))))))))),.kill [6,5,4,118,117,116,115,114,113,112,111,110,109,108,107,106,105]]) [6,5,4]]) [5] (S [R0 120 1 [eq (t 27) (w 11),J 119 (v 120)],Ie 119 [27,6] (S [R 122 3 [126,125,121] [c2 lM v0 (L 27 t4),J 121 (v 124),J 125 (e 0 (t 121)),e 1 (t 121),A 10 (t 125),A 11 (t 126)],R 127 1 [11] [eq v11 w0],Iz 128 [] (S [R 129 9 [0,10] [l (f 3 (y v0)),v10,A 12 (l (f 1 (y (x (.lku false [.int .i64] (.pointer none) (zt 132) (zt 133) false)))))],R0 138 5 [q2 [z0,z0] (l (f 0 t4)) (l (f 5 t4)),J 13 (s 2 (al [z0,z0]) (t 142))],D 144 6 [151,150,143] [l (f 6 (y v12)),L 2 (t 13),x (.lku true [.int .i64,.int .i64] z0 (zt 147) (zt 148) true),J 143 (v 149),J 150 (e 0 (t 143)),e 1 (t 143),A 14 (t 150),A 15 (t 151)],R 152 7 [15,14] [O (o v15) (ls (l (f 3 t4)) v14)],Iz 159 [] (D 160 7 [12,13,4] [l (f 6 (y v12)),L 2 (t 13),l (f 3 t4),Yh (.mup true [.int .i64,.int .i64] (zt 163) (zt 164) (zt 166))]) [12,13,4]]) [0,10,4]]) [] (S [R0 168 1 [eq (t 27) (w 12),J 167 (v 168)],Ie 167 [27,0] (S [D 169 20 [] [v6,M (x (.nilS true 0 (zt 169))),G 171 true (l (f 1 (y v6))),G 171 true (x (.nilS true 0 (zt 175))),N (x (.pick (zt 171) (zt 176) (.const (.bool false)))) (ea false [.int .i64,.int .i64,.int .u64] (L 3 (f 0 (y (l (f 1 (y v6)))))) (L 3 (f 16 t4)))],Iz 189 [] (D 190 22 [6,4] [l (f 1 (y v6)),l (f 1 (y v6)),mm true (l (f 8 (y (l (f 1 (y v6)))))) (l (f 3 t4)),K [zo 207 (.mm true (zt 204) (zt 206)),zl 206 205,zf 205 4 3] (s 1 (f 7 (y (t 193))) T),s 1 (f 8 (y (t 197))) (t 207)]) [6,4]]) [6] (S [R 213 1 [27] [eq (t 27) (w 13),J 212 (v 213)],Iz 212 [] (S [R0 214 4 [A 16 (c2 qE v0 (L 3 (f 16 t4)))],D 218 26 [16] [M (gt v16 w0),G 220 true (l (f 1 (y v0))),G 220 true (l (f 6 t4)),G 220 true (x (.lku false [.int .i64] (.bool false) (zt 224) (zt 226) false)),M (x (.pick (zt 220) (zt 227) (.const (.bool false)))),G 229 true v0,G 229 true (l (f 6 t4)),J 234 (G 229 true v16),J 233 (G 229 true (K [⟨some 234,.mov (zt 16),some (229,true)⟩] (c2 bR (t 230) (t 232)))),J 235 (G 229 true (eq (t 233) (t 234))),M (x (.pick (zt 229) (zt 235) (.const (.bool false)))),G 237 true v0,G 237 true (l (f 5 t4)),J 242 (G 237 true v16),J 241 (G 237 true (K [⟨some 242,.mov (zt 16),some (237,true)⟩] (c2 bR (t 238) (t 240)))),J 243 (G 237 true (eq (t 241) (t 242))),x (.pick (zt 237) (zt 243) (.const (.bool false)))],Iz 244 [] (S [D 245 10 [] [v0,l (f 5 t4),v0,K [zm 248 0,zl 247 246,zf 246 4 5,zm 245 0] (c2 bR v0 (l (f 5 t4))),c3 mK (t 245) (t 247) (K [zl 247 246,zf 246 4 5,zm 245 0] (c2 nL (t 248) (t 252)))],R 255 4 [0,4] [c2 nK v0 (l (f 6 t4))]]) [0,4]]) [0,4]])])])])])])])])]⟩:=a_
def D3:=eVf (cF sH [])
def JK:=eVf (cF bR [])
def Fi:=eVf (cF iL [])
def Fj:=eVf (cF mK [])
def Gh:=eVf (cF nK [])
def EU:=eVf (cF lM [])
def Fk:=eVf (cF qE [])
def Gi:=eVf (cF nL [])
def sS:=eVf (cF lU [])
def jV:=eVf (cF bT [])
def KG:=eVf (cF wS [])
def Fl:=eVf (cF kA [])
def KH:=eVf (cF wT [])
def KI:=eVf (cF wU [])
def KJ:=eVf (cF wV [])
def KK:=eVf (cF wW [])
def KL:=eVf (cF wX [])
def Ho:=eVf (cF tQ [])
def Hp:=eVf (cF mB [])
def KM:=eVf (cF wY [])
def KN:=eVf (cF wZ [])
def Hq:=eVf (cF yR [(10,none,1)])
end Hud
