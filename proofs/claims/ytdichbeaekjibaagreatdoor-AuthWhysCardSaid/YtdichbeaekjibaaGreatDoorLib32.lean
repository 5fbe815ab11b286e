import Derived.Test.YtdichbeaekjibaaGreatDoorLib31
set_option linter.all false
set_option maxHeartbeats 40000000
namespace Hud
open Go
variable{G:L_}
def aKP:eO (lQ 6) BP.I=BP.I:=by unfold eO;exact List.mergeSort_of_pairwise d7
def aKQ(g:PGM)(l:D_):D_:=mW g (uL g l (Xu 0 (l.foldl (kV g) []) (KZ g.cards)) l.length (zH l) (l.filter λx=>jM (g.nd x).o)) l
def aGr{g:PGM}{l:D_}(h:eO g l=l):kW g l=aKQ g l:=by unfold kW sU aBt BQ aKQ;simp only[h]
def aHh:kW (lQ 6) BP.I=Za.I:=(aGr aKP).trans a_
def aKR:Gk (lQ 6) BP.I (zH BP.I) lI6=15:=by unfold Gk;have h:mW (lQ 6) (sU (lQ 6) (eO (lQ 6) BP.I) (zH BP.I)) (eO (lQ 6) BP.I)=Za.I:=aHh;rw[h];decide +kernel
def aIS(e:AK G):LivesP G:=by
 have c:=lR6.ggood rY JP;have hI:(AM bQ BP.L).I=BP.I:=by rw[Zb];rfl
 have a:∀x∈BP.I,x∈(AM bQ BP.L).I:=λx f=>by rw[hI];exact f
 have b:BP.I.Nodup:=d7;have d:GAt (TG 0 (AM bQ BP.L)) (0,1,2) (AM bQ BP.L):=⟨rfl,rfl,rfl,d_,d_,d_⟩
 have h1:=Vj e d c a b;have h2:=aHg e d c a b lI6;have h:kW (AM bQ BP.L) BP.I=Za.I:=by rw[Zb];exact aHh
 have g:Gk (AM bQ BP.L) BP.I (zH BP.I) lI6=15:=by rw[Zb];exact aKR
 rw[h]at h1;rw[g]at h2;exact⟨h1,h2,by rw[Zb];kernel_rfl⟩
def Reach.nd{cs:List CardM}(j:cardsOk cs){g:GM}(h:Reach cs g):g.I.Nodup:=by
 induction h with
 |new=>exact Mm| @add g o f i d ih=>
  by_cases h:(dV g o).1=0;rotate_left;grind[addM];have a:=Ff h;rw[yE a h,vQ];refine⟨ih,s_,?_⟩;intro x c y b e;rw[cA.1 b]at e;exact a.twice ((Cz g.I _).2 (e ▸ c))
def aOT{l:D_}(k:l.Nodup)(a b:Int):1<aH5 l a b↔∃y∈l,∃z∈l,y≠z/\(y.a=a/\y.b=b)/\z.a=a/\z.b=b:=by
 have f:∀y,y∈l.filter (λx=>x.a==a&&x.b==b)↔y∈l/\y.a=a/\y.b=b:=λy=>s_;have i:(l.filter (λx=>x.a==a&&x.b==b)).Nodup:=k.filter _;rw[aH5,List.countP_eq_length_filter];generalize l.filter (λx=>x.a==a&&x.b==b)=m at *
 match m with
 |[]=>exact⟨λh=>by simp at h,λ⟨y,g,z,j,ne,h1,h2⟩=>by have:=(f y).2 ⟨g,h1⟩;simp at this⟩| [c]=>exact⟨λh=>by simp at h,λ⟨y,g,z,j,ne,h1,h2⟩=>by
   have o:=cA.1 ((f y).2 ⟨g,h1⟩);have n:=cA.1 ((f z).2 ⟨j,h2⟩)
   exact absurd (o.trans n.symm) ne⟩
 |c::d::m=>
  refine⟨λ_=>?_,λ_=>s_⟩;have h1:=(f c).1 s_;have h2:=(f d).1 s_;exact⟨c,h1.1,d,h2.1,λe=>by simp[e]at i,h1.2,h2.2⟩
def aLv{l:D_}{a n:Int}:∀(r:D_)(out:Int),0<=out->(∀y∈r,0<y.b)->0<=r.foldl (aKs l a) out/\((0<r.foldl (aKs l a) out/\r.foldl (aKs l a) out<=n)↔(0<out/\out<=n)\/∃y∈r,(y.a=a/\1<aH5 l a y.b)/\y.b<=n)|[],out,h,_=>by simpa using h| y::r,out,h,e=>by have g:=e y (.head _);have d:∀z∈r,0<z.b:=λz f=>e z (.tail _ f);rw[CW,aKs];by_cases c:y.a=a/\1<aH5 l a y.b;by_cases c2:out=0\/y.b<out;rw[if_pos (by simp[c.1,c.2];exact c2)];obtain⟨h1,h2⟩:=aLv (l:=l) (a:=a) (n:=n) r y.b o_ d;refine⟨h1,h2.trans ?_⟩;simp only[cS,exists_eq_or_imp,c,true_and,and_true];grind;rw[if_neg (by simp[c.1,c.2];omega)];obtain⟨h1,h2⟩:=aLv (l:=l) (a:=a) (n:=n) r out h d;refine⟨h1,h2.trans ?_⟩;simp only[cS,exists_eq_or_imp,c,true_and,and_true];grind;rw[if_neg (by simp;intro h1 h2;exact absurd ⟨h1,h2⟩ c)];obtain⟨h1,h2⟩:=aLv (l:=l) (a:=a) (n:=n) r out h d;refine⟨h1,h2.trans ?_⟩;simp only[cS,exists_eq_or_imp,c,false_and,false_or]
def aQq{l:D_}(g:l.Nodup)(k:∀y∈l,0<y.b)(x:Id):aE5 l x=B8 l x:=by have h:=(aLv (l:=l) (a:=x.a) (n:=x.b) l 0 o_ k).2;rw[CT,aE5,zJ,decide_eq_true_iff,decide_eq_true_iff,aLO,h,B8];simp only[CX,zJ,EX,decide_eq_false_iff_not,decide_eq_true_eq,beq_iff_eq];constructor;rintro(h|⟨y,f,⟨h1,h2⟩,h3⟩);omega;obtain⟨c,o,d,m,ne,e,i⟩:=(aOT g _ _).1 h2;exact⟨c,o,d,m,ne,e.1,i.1,e.2.trans i.2.symm,o_⟩;rintro⟨y,f,z,j,ne,h1,h2,h3,e⟩;exact .inr ⟨y,f,⟨h1,(aOT g _ _).2 ⟨y,f,z,j,ne,⟨h1,rfl⟩,h2,h3.symm⟩⟩,e⟩
def aLR(s:B_)(d:Int):aBB s d=s.findIdx (λx=>x==d):=by rw[aBB,List.findIdx?_eq_guard_findIdx_lt];have:=List.findIdx_le_length (xs:=s) (p:=λx=>x==d);rcases eD (s.findIdx λx=>x==d) s.length with h|h;simp[Option.guard,h];simp[Option.guard,(o_:¬s.findIdx (λx=>x==d)<s.length)];omega
def aOU(e:Int):∀(cs:List CardM)(S:List (Int×Int)),aBo (cs.foldl (λS c=>nZ S c.Device 12) S) e=if e∈cs.map (·.Device) then 12 else aBo S e|[],S=>by simp|c::cs,S=>by rw[CW,aOU e cs,aNs];by_cases h1:e∈cs.map (·.Device)<;>by_cases h2:e=c.Device<;>simp_all
def aOV(e:Int):∀(q:B_)(i:Nat)(S:List (Int×Int)),q.Nodup->aBo (Xu i q S) e=if e∈q then((i+q.findIdx (λx=>x==e):Nat):Int) else aBo S e|[],i,S,_=>by simp[Xu]| d::q,i,S,b=>by obtain⟨h1,h2⟩:=BU.1 b;rw[Xu,aOV e q (i+1) _ h2,aNs,List.findIdx_cons];by_cases h3:e=d;subst h3;simp[h1];have:¬d=e:=λx=>h3 x.symm;by_cases a:e∈q;simp[h3,a,show(d==e)=false by simpa using this,Int.add_assoc,Int.add_comm 1];simp[h3,a]
def aPm{o:OpM}{d:Int}(h:jB o=0)(a:byO o=some d):1<=d/\d<=12:=by grind (splits:=30) [jB,fP,oI,byO]
def aMf{o:OpM}(h:jB o=0):0<o.Seq:=by grind[jB,fP,oI]
def aQr{cs:List CardM}{d:Int}(h:(gM cs d).2=true):d∈cs.map (·.Device):=by refine dF.2 ⟨(gM cs d).1,?_,aB5 h⟩;unfold gM at h⊢;split at h;rename_i c e;exact Mg e;simp at h
def Reach.dev{cs:List CardM}(e:cardsOk cs){g:GM}(h:Reach cs g):∀o∈g.L,o.By∈cs.map (·.Device):=by
 induction h with
 |new=>simp| @add g o c f d ih=>
  by_cases h:(dV g o).1=0;have a:=Ff h;rw[yE a h];intro x b;rcases cG.1 b with b|b;exact ih x b;rw[cA.1 b,<-(c.good e).cards];exact aQr a.card;grind[addM]
def aQ6 {p:PGM}:∀(l:D_)(out:B_),out.Nodup->(∀d∈out,1<=d/\d<=12)->(∀x∈l,∀d,byO (p.nd x).o=some d->1<=d/\d<=12)->(l.foldl (kV p) out).Nodup/\∀d∈l.foldl (kV p) out,1<=d/\d<=12|[],_,h,h2,_=>⟨h,h2⟩| x::l,out,h,h2,h3=>by rw[CW];have i:=h3 x (.head _);refine aQ6 l _ ?_ ?_ λy g=>h3 y (.tail _ g);unfold kV;split;split;exact h;rename_i j;exact vQ.2 ⟨h,s_,λa m b k=>by rw[cA.1 k];exact λe=>j (e ▸ m)⟩;exact h;unfold kV;split;rename_i d e;split;exact h2;intro c f;rcases cG.1 f with f|f;exact h2 c f;rw[cA.1 f];exact i d e;exact h2
def aSR{l:B_}(h:l.Nodup)(h2:∀d∈l,1<=d/\d<=12):l.length<=12:=by
 have:=List.Nodup.length_le_of_subset (l₂:=[1,2,3,4,5,6,7,8,9,10,11,12]) h λd a=>by have:=h2 d a;simp only[cS,pP,or_false];omega
 simpa using this
section
variable{cs:List CardM}{g:GM}
def Reach.tie(c:cardsOk cs)(r:CardsG cs)(q:uE cs=cs)(h:Reach cs g):Tie (AM cs g.L) g:=by
 have b:=h.good c;have m:∀x∈g.I,((AM cs g.L).nd x).o.By=x.a:=by
  intro x e;have d:=e;rw[<-b.sim.i]at e;obtain⟨j,l,p,_⟩:=dG e;have k:j<g.L.length:=by rw[<-b.wf.i,<-b.sim.i];exact p
  rw[(aMI b.sim l k).1];have f:=aJd d;unfold aW qX at f;rw[<-b.sim.i,l]at f
  conv=>rhs;rw[<-f]
  rw[b.sim.i,(h.row c).ids,rH,rH];simp only[nI,gE];rw[jN k];rfl
 exact⟨b.sim,b.n,b.wf.i,h.nd c,h.rem,by rw[RL cs _ _ rfl,q,b.cards],h.ggood c r,b.wf.inn,m⟩
def aH8(g:GM)(ol ss:D_):LD:=⟨ol.map (pl g),aMe g (jI (ss.filter (aE5 ss))),aMe g (jI (ss.filter (aE5 ss))),List.replicate g.L.length false⟩
def aLJ:∀(ss:D_)(b:List Bool),ss.foldl (aOs g) b=aJb b (ss.map (pl g))|[],_=>rfl|x::ss,b=>by rw[CW,aLJ ss];rfl
def aPn{ol ss:D_}(e:g.I.length=g.L.length)(b:∀x∈ol,x∈g.I)(c:ol.length<=1000):(aH8 g ol ss).ok g:=by refine⟨?_,by rw[aH8,aP];exact c,?_,QE⟩;intro k d;obtain⟨x,a,rfl⟩:=dF.1 d;exact aJc e (b x a);rw[aH8,aMe,aLJ,aJL,QE]
def aPc{ol ss:D_}(i:g.I.length=g.L.length)(h:∀x∈ss,x∈g.I)(f:ss.Nodup)(j:∀x∈ss,0<x.b):VB g (aH8 g ol ss).v (zH ss):=by
 intro x c;have a:=aJc i c;rw[aH8,aMe,aLJ,aMc _ _ _ (by rw[QE];exact a)];have e:(List.replicate g.L.length false).getD (pl g x) false=false:=by rw[rH,List.getElem?_replicate];split<;>rfl
 rw[e,EH];apply decide_eq_decide.2;rw[aOt c λy d=>h y (gR.1 ((dQ _).mem_iff.1 d)).1,(dQ _).mem_iff,zH,gR,gR,aQq f j]
variable(hc:cardsOk cs)(hG:CardsG cs)(hs:uE cs=cs)(h:Reach cs g)
include hc hG hs h
def aQs {ss:D_} (m:∀x∈ss,x∈g.I) (r:ss.Nodup):VB g (aJG g (BQ (AM cs g.L) ss) (aH8 g (eO (AM cs g.L) ss) ss).left (aH8 g (eO (AM cs g.L) ss) ss)).v (sU (AM cs g.L) (eO (AM cs g.L) ss) (zH ss)):=by
 have t:=h.tie hc hG hs;generalize G:AM cs g.L=p at *
 have f:∀x∈eO p ss,x∈g.I:=λx c=>m x ((mE p ss).mem_iff.1 c);have k:(eO p ss).Nodup:=(mE p ss).nodup_iff.2 r;have cE:∀x∈g.I,(p.nd x).o∈g.L:=λx c=>by rw[<-t.op c,rH,jN (aJc t.gi c)];exact eQ _
 have z:∀x∈ss,0<x.b:=λx c=>by have c:=m x c;rw[(h.row hc).ids]at c;obtain⟨o,C,rfl⟩:=dF.1 c;exact aMf (h.checked o C)
 have i:=aQ6 (p:=p) (eO p ss) [] Mm s_ λx c d e=>aPm (h.checked _ (cE x (f x c))) e;have u:=aSR i.1 i.2;have D:BQ p (eO p ss)=BQ p ss:=by rw[BQ,BQ,aQ5 (mE p ss)]
 refine t.run f k (S:=aBt p (eO p ss)) ?_ _ _ _ _ (aPn t.gi f (by have:=k.length_le_of_subset f;have:=t.gi;have:=t.n;omega)) rfl (aPc t.gi m r z) ?_ ?_;intro x c y B;have j:∀x∈eO p ss,aBo (aBt p (eO p ss)) x.a=if x.a∈BQ p ss then((aBB (BQ p ss) x.a:Nat):Int) else 12:=by
  intro x c;have s:x.a∈p.cards.map (·.Device):=by rw[t.cd,(h.good hc).cards,<-t.by' x (f x c)];exact h.dev hc _ (cE x (f x c))
  rw[aBt,D,aOV _ _ _ _ (show(BQ p ss).Nodup from i.1),aLR,pQ,KZ,aOU,if_pos s]
 rw[j x c,j y B,aLR,aLR];have w:∀d:Int,d∈BQ p ss↔(BQ p ss).findIdx (λx=>x==d)<(BQ p ss).length:=λd=>by rw[List.findIdx_lt_length];simp
 have l:∀d:Int,(BQ p ss).findIdx (λx=>x==d)<=(BQ p ss).length:=λd=>List.findIdx_le_length;have A:(BQ p ss).length<=12:=u;have F:=w x.a;have E:=w y.a;have J:=l x.a;have H:=l y.a;simp only[F,E];split<;>split<;>omega;rw[List.filter_filter];refine List.filter_congr λx c=>?_;have q:=f x c;rw[t.opn (aPc t.gi m r z) q];have e:(aH8 g (eO p ss) ss).d.getD (pl g x) false=false:=by rw[aH8,rH,List.getElem?_replicate];split<;>rfl
 rw[e];rfl;exact List.length_filter_le _ _
def aPd{ss:D_}(e:∀x∈ss,x∈g.I)(n:ss.Nodup):aM1 g (aJG g (BQ (AM cs g.L) ss) (aH8 g (eO (AM cs g.L) ss) ss).left (aH8 g (eO (AM cs g.L) ss) ss))=kW (AM cs g.L) ss/\∀x,aQ1 g (aJG g (BQ (AM cs g.L) ss) (aH8 g (eO (AM cs g.L) ss) ss).left (aH8 g (eO (AM cs g.L) ss) ss)) ss x=Gk (AM cs g.L) ss (zH ss) x:=by
 have t:=h.tie hc hG hs;have B:=aQs hc hG hs h e n
 have A:=aPc (ol:=eO (AM cs g.L) ss) t.gi e n (λx b=>by
  have b:=e x b;rw[(h.row hc).ids]at b;obtain⟨o,w,rfl⟩:=dF.1 b
  exact aMf (h.checked o w))
 generalize D:AM cs g.L=p at *
 have d:∀x∈eO p ss,x∈g.I:=λx b=>e x ((mE p ss).mem_iff.1 b);obtain⟨u,C⟩:=aNl (g:=g) (s:=BQ p ss) (aH8 g (eO p ss) ss).left (aH8 g (eO p ss) ss);generalize aJG g (BQ p ss) (aH8 g (eO p ss) ss).left (aH8 g (eO p ss) ss)=l at *
 have j:aCW g l=(kW p ss).map (pl g):=by rw[aCW,u];exact t.good B (eO p ss) [] d s_
 have c:∀y∈kW p ss,y∈g.I:=λy k=>d y (Ac k).1;constructor;rw[aM1,j,rI];refine(aM2 λy k=>?_).trans (List.map_id _);exact aJd (c y k);intro x;unfold aQ1 Gk;rw[show mW p (sU p (eO p ss) (zH ss)) (eO p ss)=kW p ss from rfl];by_cases b:x∈ss;have a:=e x b;have m:¬(x∉p.I\/x∉ss):=by rw[t.s.i];simp[b,a]
 rw[if_pos b,if_neg m,j,C,show(aH8 g (eO p ss) ss).f=(aH8 g (eO p ss) ss).v from rfl];have h1:=A x a;rw[h1];simp only[decide_eq_true_eq];rw[aOu (q:=λy=>lA p y x) _ λz r=>t.kill (c z r) a,t.did a _ c,t.op a];simp only[aOt a c];rw[if_neg b,if_pos (.inr b)]
end
section
variable{cs:List CardM}{g:GM}
def aOW{p:PGM}(t:Tie p g)(b:∀x∈g.I,∀d,byO (p.nd x).o=some d->1<=d/\d<=12):∀(l:D_)(out:B_),(∀x∈l,x∈g.I)->l.foldl (aLZ g) out=l.foldl (kV p) out
 |[],_,_=>rfl
 | x::l,out,h=>by
  have a:=h x (.head _);rw[CW,CW,aOW t b l _ λy f=>h y (.tail _ f)];congr 1;unfold aLZ kV;rw[t.op a];have:=b x a
  cases e:byO (p.nd x).o with
  |none=>simp
  |some d=>
   have:=(this d e).1;by_cases c:d∈out<;>simp[c,show 0<d by omega]
variable(hc:cardsOk cs)(hG:CardsG cs)(hs:uE cs=cs)(h:Reach cs g)
include hc hG hs h
def aNt{ss:D_}(j:∀x∈ss,x∈g.I)(u:ss.Nodup):∃l:LD,l.ok g/\l.row.length<=900/\l.f.length=g.L.length/\(∀i b,(aE2 g ((l.row.take i).foldl (aE3 g l.v) []) b).need)/\aM1 g l=kW (AM cs g.L) ss/\(∀x,aQ1 g l ss x=Gk (AM cs g.L) ss (zH ss) x)/\aA PQ G aBF [.ag g.A,ids ss] [] λr T=>r=.ag l.A/\T=[]:=by
 have m:=h.good hc;have t:=h.tie hc hG hs;obtain⟨K,E⟩:=aPd hc hG hs h j u;have hI:g.I.length<=200:=by have:=t.gi;have:=t.n;omega
 have D:ss.length<=200:=uR (u.length_le_of_subset j) hI;have q:=aP4 (G:=G) g ss m.ok m.wf.up o_ λx c=>(Cz g.I x).2 (j x c);rw[<-aQS hc h j]at q
 have w:∀x∈g.I,∀d,byO ((AM cs g.L).nd x).o=some d->1<=d/\d<=12:=λx c d e=>aPm (h.checked _ (by
  rw[<-t.op c,rH,jN (aJc t.gi c)]
  exact eQ _)) e
 generalize AM cs g.L=p at *
 have a:∀x∈eO p ss,x∈g.I:=λx c=>j x ((mE p ss).mem_iff.1 c);have k:(eO p ss).Nodup:=(mE p ss).nodup_iff.2 u;have C:(eO p ss).length<=200:=by rw[aDM];exact D
 have B:=aOK (G:=G) g m.ok ss (eO p ss) q o_ a;rw[aOW t w _ _ a,show(eO p ss).foldl (kV p) []=BQ p ss from rfl]at B;have F:=aQ0 (G:=G) g m.ok t.gi ss (eO p ss) q o_ a o_ j;have h0:=aPn (ss:=ss) t.gi a o_;have y:(aH8 g (eO p ss) ss).row.length<=900:=by rw[aH8,aP];omega
 have J:=aOR (G:=G) g m.ok ss (aH8 g (eO p ss) ss) h0 y (λv i b=>t.need v _ a k i b) (BQ p ss) (by have:=TD (g:=p) (eO p ss) [];unfold BQ;simp only[gQ]at this;omega) F B;obtain⟨z,H⟩:=aNl (g:=g) (s:=BQ p ss) (aH8 g (eO p ss) ss).left (aH8 g (eO p ss) ss);refine⟨_,aQ4 _ h0,by rw[z];exact y,?_,λi b=>by rw[z];exact t.need _ _ a k i b,K,E,aQ2 J⟩;rw[H,aH8,aMe,aLJ,aJL,QE]
def aPw{ss:D_}(b:∀x∈ss,x∈g.I)(a:ss.Nodup):aA PQ G aEV [.ag g.A,ids ss] [] λr T=>r=ids (kW (AM cs g.L) ss)/\T=[]:=by obtain⟨l,h1,h2,h3,e,d,f,c⟩:=aNt (G:=G) hc hG hs h b a;have:=aPb g (h.good hc).ok ss l h1 h2 e c;rwa[d]at this
def aQV{ss:D_}(a:∀x∈ss,x∈g.I)(b:ss.Nodup)(x:Id):aA PQ G aKI [.ag g.A,ids ss,.ag x.A] [] λr T=>r=iv (Gk (AM cs g.L) ss (zH ss) x)/\T=[]:=by
 obtain⟨l,h1,h2,h3,e,f,d,c⟩:=aNt (G:=G) hc hG hs h a b;have hI:g.I.length<=200:=by have:=(h.good hc).wf.i;have:=(h.good hc).n;omega
 have:=aQp g (h.good hc).ok ss (by have:=b.length_le_of_subset a;omega) a l h1 h3 h2 e c x;rwa[d]at this
end
def aNu{p:PGM}{S:D_}(h:S.length<=1000):(kW p S).length<=maxLen:=by have h1:=(Aa (g:=p) (V:=sU p (eO p S) (zH S)) (eO p S) []).length_le;rw[dM,aDM]at h1;have h2:(kW p S).length<=S.length:=h1;unfold maxLen;omega
def aOv(K:uE bQ=bQ)(F:GK G)(H:AK G)(l m:B_)(O:l.length<=2^63-1)(P:∀n∈l,mZ n)(M:m.length<=2^63-1)(s:∀n∈m,mZ n):
 aA PQ G aJH [rG l,rG m] [] λr T=>r=.v (.bool true)/\T=[]:=by
 apply aC aLK;simp only[go_sem];apply Jo (aBj l O P 16 d_);rintro r J ⟨⟨g,b,Q,rfl⟩,rfl⟩;have a:=b.hyp6.1;have U:=b.good rY;have t:=b.ggood rY JP;simp only[go_sem];apply cX (VZ g a);simp only[go_sem];apply kM (RS F b);have q:(AM bQ g.L).I=g.I:=U.sim.i;have e:=b.nd rY;have c:=XW a.i m;have d:=Sy a.i e m;have N:=XX a m;have z:=λ(S:D_)(h1:∀x∈S,x∈g.I)(h2:S.Nodup)=>aPw (G:=G) rY JP K b h1 h2;generalize AM bQ g.L=p at *
 have R:GAt (TG 0 p) (0,1,2) p:=⟨rfl,rfl,rfl,d_,d_,d_⟩
 have D:=λ(S:D_)(h1:∀x∈S,x∈g.I)(h2:S.Nodup)=>Vj H R t (l:=S) (λx o=>by rw[q];exact h1 x o) h2;simp only[go_sem,TG,MG];apply cX (JG g a);simp only[go_sem];apply cX (aE7 g a m M s);have k:∀x∈jI g.I,x∈g.I:=λx o=>(dQ _).mem_iff.1 o;have j:(jI g.I).Nodup:=(dQ _).nodup_iff.2 e;have E:(jI g.I).length<=1000:=by rw[Qn];have:=a.i;have:=a.n;omega
 have h:=Pr (G:=G) (kW p (jI g.I)) (kW p (jI g.I)) (aNu E);have f:=Pr (G:=G) (kW p (qI g m)) (kW p (qI g m)) (aNu o_);have C:=D _ k j;have B:=D _ c d;have y:=z _ k j;have w:=z _ c d;clear D z;rw[decide_eq_true rfl]at h f;generalize kW p (jI g.I)=c1 at *
 generalize kW p (qI g m)=c2 at *
 generalize qI g m=S at *
 generalize jI g.I=A at *
 have u:=aBl F (aIS H);simp only[go_sem];apply aG (T2:=TG 0 p) [1,2,3] (aB _) d_ s_ rfl v_ C;rintro r J ⟨rfl,rfl⟩;simp only[go_sem,TG,MG];apply cX y;simp only[go_sem];apply cX h;simp only[go_sem];apply aG (T2:=TG 0 p) [1,2,3] (aB _) d_ s_ rfl v_ B;rintro r J ⟨rfl,rfl⟩;simp only[go_sem,TG,MG];apply cX w;simp only[go_sem];apply cX f;simp only[go_sem];apply cX u;simp only[go_sem]
section
variable{g:GM}{x:Nat}
end
def opD(b k d m:Int):OpM:=⟨b,0,k,0,[],d,0,m,0,[],⟨0,0,0⟩,0,[],[],⟨0,0,0⟩,[],0,0,[],0,[],0,0⟩
end Hud
