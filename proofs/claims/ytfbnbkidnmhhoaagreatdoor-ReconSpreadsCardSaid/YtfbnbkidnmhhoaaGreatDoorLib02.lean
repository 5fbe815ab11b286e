import Derived.Test.YtfbnbkidnmhhoaaGreatDoorLib01
set_option linter.all false
namespace Hud
open Go
section
def kF.drop{h:GH}{b k:Nat}:∀{es:N_}{o:Nat},kF h b k es o->∀l,kF h b k (es.drop l) (o+l*k)|[],_,_,l=>by simp[kF]|e::es,o,a,0=>by simpa using a|e::es,o,a,l+1=>by simp only[kF]at a;have:=kF.drop a.2.2 l;rw[aBO,Gp,Nat.add_comm (l*k) k,<-sY];exact this
def kF.take{h:GH}{b k:Nat}:∀{es:N_}{o:Nat},kF h b k es o->∀l,kF h b k (es.take l) o|[],_,_,l=>by simp[kF]|e::es,o,a,0=>by simp[kF]|e::es,o,a,l+1=>by simp only[kF]at a;rw[QI];simp only[kF];exact⟨a.1,a.2.1,kF.take a.2.2 l⟩
mutual
def M2{h h':GH}{φ:Nat->Value}{n:Nat}:∀{x:AV}{u:Value},fX x->Rp h φ n x u->Rp h' φ n x u
 |.v _,_,_,e=>by simpa[Rp]using e|.ls k m,u,a,e=>by
  simp only[fX]at a;subst a;simp only[Rp,oB]at e⊢;obtain⟨A,c,d,h2,j,_⟩:=e;exact⟨A,c,d,h2,j,.inl trivial⟩
 |.ag i,_,a,e=>by simp only[Rp,fX]at *;obtain⟨g,d,h2⟩:=e;exact⟨g,d,xK a h2⟩
 |.own _,_,_,e=>by simpa[Rp]using e|.ptr _ _,_,_,e=>by simpa[Rp]using e|.elt _ _ _ _,_,_,e=>by simpa[Rp]using e|.vw _ _ _ _,_,_,e=>by simpa[Rp]using e|.mp _,_,_,e=>by simpa[Rp]using e|.yl _,_,_,e=>by simpa[Rp]using e|.rp i,u,a,e=>by
  simp only[fX]at a;subst a;simp only[Rp]at e⊢;obtain⟨b,o,d,_⟩:=e;exact⟨b,o,d,by simp[mR]⟩
 |.cl f i,_,a,e=>by simp only[Rp,fX]at *;obtain⟨g,d,h2⟩:=e;exact⟨g,d,xK a h2⟩
 |.bm f l i,_,a,e=>by simp only[Rp,fX]at *;obtain⟨g,d,h2⟩:=e;exact⟨g,d,xK a h2⟩
 |.tup i,_,a,e=>by simp only[Rp,fX]at *;obtain⟨g,d,h2⟩:=e;exact⟨g,d,xK a h2⟩
 |.any,_,_,_=>x_
def xK{h h':GH}{φ:Nat->Value}{n:Nat}:∀{cs:O0}{us:O5},tC cs->kR h φ n cs us->kR h' φ n cs us
 |[],_,_,e=>by simpa[kR]using e
 |c::cs,us,b,e=>by
  simp only[kR,tC]at *
  obtain⟨u,a,f,h2,d⟩:=e;exact⟨u,a,f,M2 b.1 h2,xK b.2 d⟩
end
def Tp{h h':GH}:∀{cs:O0}{us:O5},(∀c∈cs,∃x,c=.v x)->cK h cs us->cK h' cs us
 |[],_,_,e=>by simpa[cK]using e
 |c::cs,us,b,e=>by
  simp only[cK]at *
  obtain⟨u,a,i,h2,g⟩:=e;obtain⟨x,rfl⟩:=b c k_;refine⟨u,a,i,?_,Tp (λd f=>b d (by simp[f])) g⟩;simpa only[oB]using h2
def aCe {h h':GH} {φ:Nat->Value} {n:Nat} {w:World} {i:Nat} {o:AObj} (x:xH (some o)) (u:∀g,kI (φ i)=some g->h' g=none) (e:uF h φ n w i o):uF h' φ n w i o:=by
 cases o with
 |box U=>
  obtain⟨g,M,E,f,h2,_,j⟩:=e;exact⟨g,M,E,f,h2,u g (by rw[f];rfl),xK x j⟩
 |arr k L=>
  obtain⟨y,f|⟨g,c,t,E,f,h2,v,j,q,_,F⟩⟩:=e;exact⟨y,.inl f⟩;refine⟨y,.inr ⟨g,c,t,E,f,h2,v,j,q,u g (by rw[f];rfl),Tp (λc O=>?_) F⟩⟩;obtain⟨d,B,C⟩:=Kh.1 O;exact x d B c C
 | arf k L=>
  obtain⟨y,f|⟨g,c,t,E,f,h2,v,j,q,_,F⟩⟩:=e;exact⟨y,.inl f⟩;refine⟨y,.inr ⟨g,c,t,E,f,h2,v,j,q,u g (by rw[f];rfl),xK ?_ F⟩⟩;have H:∀{a b:O0},tC a->tC b->tC (a++b):=by
   intro a b D P
   induction a with
   |nil=>exact P|cons c a ih=>simp only[tC,jC]at D⊢;exact⟨D.1,ih D.2⟩
  have A:∀l:N_,(∀e∈l,tC e)->tC l.flatten:=by
   intro l
   induction l with
   |nil=>intro _;simp[tC]|cons e l ih=>intro K;rw[zK];exact H (K e k_) (ih λd B=>K d (by simp[B]))
  exact A L x
 |lp r s=>
  obtain⟨g,f,h2,v,j,q⟩:=e;exact⟨g,f,h2,u g (by rw[f];rfl),j,λp J=>M2 (x p J) (q p J)⟩
 |mit m z I S=>
  obtain⟨g,N,f,h2,v,j⟩:=e;exact⟨g,N,f,h2,u g (by rw[f];rfl),j⟩
 |map W T R bs V=>
  obtain⟨g,G,f,h2,v,j,q,Q⟩:=e;exact⟨g,G,f,h2,u g (by rw[f];rfl),j,q,xK x Q⟩
def mR.of_list{h:GH}{b:Nat}:∀{cs:O0}{us:O5}{o:Nat},cK h cs us->(∀c∈cs,aX c=true)->(∀j u,us[j]?=some u->oY h b (o+j)=some u)->mR h b cs o|cs,us,o,e,f,d=>mR.mk λi c a=>by obtain⟨u,g,h2⟩:=e.get a;exact⟨u,f c (Kd a),d i u g,h2⟩
def kF.of_list{h:GH}{b k:Nat}:∀{es:N_}{us:O5}{o:Nat},cK h es.flatten us->(∀e∈es,e.length=k/\∀c∈e,aX c=true)->(∀j u,us[j]?=some u->oY h b (o+j)=some u)->kF h b k es o|es,us,o,e,m,n=>kF.mk λj d g=>by have l:=m d (Kd g);refine⟨l.1,?_⟩;have f:=e.sub (j*k) k;rw[Mt (λe p=>(m e p).1) g]at f;refine mR.of_list f l.2 λi u a=>?_;rw[BT]at a;split at a;rw[Hw]at a;rw[<-n _ _ a];congr 1;omega;simp at a
open Classical in
noncomputable def lentG(h:GH)(φ:Nat->Value)(T:aK)(w:World):GH:=λb=>
 if ∃i o,T[i]?=some (some o)/\kI (φ i)=some b then(match w.heap[b]? with|some (.cells a _ _)=>some a|_=>none) else h b
open Classical in
noncomputable def unlentG(h:GH)(φ:Nat->Value)(T:aK):GH:=λb=>if ∃i o,T[i]?=some (some o)/\kI (φ i)=some b then none else h b
section
variable{h:GH}{φ:Nat->Value}{T:aK}{w:World}
def Qa(hI:Inv h φ w T){i:Nat}{k:Nat}{es:N_}(l:T[i]?=some (some (.arr k es))){b:Nat}(a:kI (φ i)=some b):∃d E,w.heap[b]?=some (.cells d E (0,0))/\lentG h φ T w b=some d:=by
 have:∃d E,w.heap[b]?=some (.cells d E (0,0)):=by obtain⟨_,⟨A,e⟩|⟨g,c,f,E,e,h2,_⟩⟩:=hI.obj i _ l;rw[e.1]at a;simp[kI]at a;rw[e]at a;simp only[kI,O7]at a;subst a;exact⟨f,E,h2⟩
 obtain⟨d,E,j⟩:=this;refine⟨d,E,j,?_⟩;unfold lentG;rw[if_pos ⟨i,_,l,a⟩,j]
def xL(hI:Inv h φ w T):CA h (lentG h φ T w):=by intro b d e;unfold lentG;rw[if_neg];exact e;rintro⟨i,o,a,c⟩;have:=(iT (hI.obj i o a) c).2;rw[e]at this;simp at this
def aCf(hI:Inv h φ w T)(a:Nat->Value):Inv (lentG h φ T w) a w []:=by refine⟨λb g e=>?_,λi o e=>oO,λi j l k b e=>oO⟩;by_cases c:∃i o,T[i]?=some (some o)/\kI (φ i)=some b;unfold lentG at e;rw[if_pos c]at e;split at e;rename_i f E m d;cases e;exact⟨E,_,d⟩;simp at e;unfold lentG at e;rw[if_neg c]at e;exact hI.gh b g e
mutual
def aCg (hI:Inv h φ w T) {F:Nat->Value}:∀{x:AV}{u:Value},MM (tB T x)=[]->Rp h φ T.length x u->Rp (lentG h φ T w) F 0 (tB T x) u
 |.v _,_,_,e=>by simpa[Rp,tB]using e
 |.ls _ _,_,_,e=>by simp only[Rp,tB]at *;exact e.mono (xL hI)
 |.ag D,_,p,e=>by simp only[Rp,tB,MM]at *;obtain⟨t,d,h2⟩:=e;exact⟨t,d,M3 hI p h2⟩
 | .own i,u,_,e=>by
  simp only[Rp,tB]at *
  split;rename_i k M B;simp only[Rp,oB];obtain⟨J,⟨R,d⟩|⟨g,c,N,E,q,H,h2,Q,X,W,L⟩⟩:=AS hI B;exact⟨R,0,by rw[e.2.1,d.1,d.2];rfl,by rw[d.2];simp,k_,.inl d.2⟩;refine⟨_,c+1,by rw[e.2.1,q],h2,Q,.inr ⟨g,0,rfl,?_⟩⟩;obtain⟨O,E',a,n⟩:=Qa hI (bH B) (b:=g) (by rw[q];rfl);rw[H]at a;cases a;refine kF.of_list (L.mono (xL hI)) J λj v r=>?_;unfold oY;rw[n];rw[BT]at r;split at r;simpa using r;simp at r;simp[Rp]
 |.ptr _ _,_,p,_=>by simp[MM,tB]at p
 |.elt _ _ _ _,_,p,_=>by simp[MM,tB]at p
 |.mp _,_,p,_=>by simp[MM,tB]at p
 |.yl _,_,p,_=>by simp[MM,tB]at p
 | .vw i k G m,u,_,e=>by
  simp only[Rp,tB]at *
  split;rename_i k' M B;split;rename_i V;obtain⟨rfl,P⟩:=V;obtain⟨_,A,c,S,I,K,Y⟩:=e;have z:((M.drop G).take m).length=m:=by rw[eC,vY];omega
  simp only[Rp,oB];refine⟨A,c,by rw[z];exact S,by rw[z];exact I,K,?_⟩;rcases Y with rfl|⟨g,l,c',q,rfl,U⟩
  exact .inl k_;obtain⟨J,d|⟨g',c2,N,E,s,H,h2,Q,X,W,L⟩⟩:=AS hI B;obtain⟨R,_,rfl⟩:=d;exact .inl k_;rw[q]at s;injection s with C e2 Z;cases C;subst Z;refine .inr ⟨g,G*k,rfl,?_⟩;obtain⟨O,E',a,n⟩:=Qa hI (bH B) (b:=g) (by rw[q];rfl);rw[H]at a;cases a;have y:kF (lentG h φ T w) g k M 0:=kF.of_list (L.mono (xL hI)) J λj v r=>by unfold oY;rw[n];rw[BT]at r;split at r;simpa using r;simp at r
  simpa using(y.drop G).take m;simp[Rp];simp[Rp]
 |.rp D,u,_,e=>by
  simp only[Rp,tB]at *
  obtain⟨b,o,d,h2⟩:=e;exact⟨b,o,d,h2.mono (xL hI)⟩
 |.cl f D,_,p,e=>by
  simp only[Rp,tB,MM]at *
  obtain⟨t,d,h2⟩:=e;exact⟨t,d,xM hI p h2⟩
 |.bm f kk D,_,p,e=>by
  simp only[Rp,tB,MM]at *
  obtain⟨t,d,h2⟩:=e;exact⟨t,d,xM hI p h2⟩
 |.tup D,_,p,e=>by
  simp only[Rp,tB,MM]at *
  obtain⟨t,d,h2⟩:=e;exact⟨t,d,xM hI p h2⟩
 |.any,_,_,_=>by simp[Rp,tB]
def M3(hI:Inv h φ w T){a:Nat->Value}:∀{cs:O0}{us:O5},iZ (xG T cs)=[]->kR h φ T.length cs us->kR (lentG h φ T w) a 0 (xG T cs) us
 |[],_,_,e=>by simpa[kR,xG]using e
 |c::cs,us,d,e=>by
  simp only[kR,xG,iZ,X8]at *
  obtain⟨u,b,g,h2,f⟩:=e;exact⟨u,b,g,aCg hI d.1 h2,M3 hI d.2 f⟩
def aEY(hI:Inv h φ w T){i:Nat->Value}:∀{x:AV}{u:Value},MM x=[]->Rp h φ T.length x u->Rp (lentG h φ T w) i 0 x u
 |.v _,_,_,e=>by simpa[Rp]using e
 |.ls _ _,_,_,e=>by simp only[Rp]at *;exact e.mono (xL hI)
 |.ag g,_,a,e=>by simp only[Rp,MM]at *;obtain⟨d,c,h2⟩:=e;exact⟨d,c,xM hI a h2⟩
 |.own _,_,a,_=>by simp[MM]at a
 |.ptr _ _,_,a,_=>by simp[MM]at a
 |.elt _ _ _ _,_,a,_=>by simp[MM]at a
 |.vw _ _ _ _,_,a,_=>by simp[MM]at a
 |.mp _,_,a,_=>by simp[MM]at a
 |.yl _,_,a,_=>by simp[MM]at a
 |.rp g,u,_,e=>by
  simp only[Rp]at *
  obtain⟨b,o,c,h2⟩:=e;exact⟨b,o,c,h2.mono (xL hI)⟩
 |.cl f g,_,a,e=>by simp only[Rp,MM]at *;obtain⟨d,c,h2⟩:=e;exact⟨d,c,xM hI a h2⟩
 |.bm f j g,_,a,e=>by simp only[Rp,MM]at *;obtain⟨d,c,h2⟩:=e;exact⟨d,c,xM hI a h2⟩
 |.tup g,_,a,e=>by simp only[Rp,MM]at *;obtain⟨d,c,h2⟩:=e;exact⟨d,c,xM hI a h2⟩
 |.any,_,_,_=>x_
def xM(hI:Inv h φ w T){a:Nat->Value}:∀{cs:O0}{us:O5},iZ cs=[]->kR h φ T.length cs us->kR (lentG h φ T w) a 0 cs us
 |[],_,_,e=>by simpa[kR]using e
 |c::cs,us,d,e=>by
  simp only[kR,iZ,X8]at *
  obtain⟨u,b,g,h2,f⟩:=e;exact⟨u,b,g,aEY hI d.1 h2,xM hI d.2 f⟩
end
def aCh(hI:Inv h φ w T){φc:Nat->Value}{d:aK}{n:GH}{a:Nat->Value}{w':World}(f:Evo (lentG h φ T w) φc [] w n a d w')(m:Inv n a w' d){r:AV}{v:Value}(G:Rp n a d.length r v)
 (y:fX r) (z:∀o∈d,xH o):
 ∃h' k,Evo h φ T w h' k (T++d.map (DC [] T.length)) w'/\Inv h' k w' (T++d.map (DC [] T.length))/\Rp h' k (T++d.map (DC [] T.length)).length (AR [] T.length r) v:=by
 have s:∀b,b<w.heap.size->w'.heap[b]?=w.heap[b]?:=λb B=>f.frame b B λi o e=>oO;let h':GH:=unlentG n φ T;have u:CA h h':=by intro b c e;have h2:=f.le b c (xL hI b c e);show unlentG n φ T b=some c;unfold unlentG;rw[if_neg];exact h2;rintro⟨i,o,q,B⟩;have:=(iT (hI.obj i o q) B).2;rw[e]at this;simp at this
 have l:∀b c,h' b=some c->n b=some c/\¬∃i o,T[i]?=some (some o)/\kI (φ i)=some b:=by intro b c e;change unlentG n φ T b=some c at e;unfold unlentG at e;split at e;simp at e;rename_i t;exact⟨e,t⟩
 have C:Inv h' a w' d:=by
  refine⟨λb c e=>m.gh b c (l b c e).1,λi o e=>?_,m.dis⟩;have E:=m.obj i o e;refine aCe (z _ (Kd e)) (λg I=>?_) E;have F:=(iT E I).2
  cases H:h' g with
  |none=>rfl
  |some c=>rw[(l g c H).1]at F;simp at F
 have D:Evo h φc [] w h' a d w':=by
  refine⟨f.os,f.tape,f.output,f.size,f.frame,u,λb c e=>?_,λi q=>by simp at q,f.org,k_,f.drawn⟩;obtain⟨K,t⟩:=l b c e;rcases f.gfr b c K with h2|h2|⟨i,o,J,_⟩
  unfold lentG at h2;rw[if_neg t]at h2;exact .inl h2;exact .inr (.inl h2);simp at J
 have p:GX ([]:O3) T=[]:=rfl;have:=aCd (L:=[]) (φc:=φc) k_ (λi q=>by simp at q) hI (λj i e=>oO) (by rw[p];exact D) C (M2 (h':=h') y G);have A:IF [] T.length T [] d=T++d.map (DC [] T.length):=by
  cases d with
  |nil=>simp[IF]
  |cons x d=>rfl
 rw[A]at this;exact⟨h',this⟩
end
section
variable{P:Program}{G:L_}{h:GH}{φ:Nat->Value}{T:aK}{w:World}
mutual
def aEZ {h:GH} {φ:Nat->Value} {n:Nat}:∀{x y:AV}{u:Value},tV x y->Rp h φ n x u->Rp h φ n y u
 |.ag f,y,u,a,e=>by
  simp only[tV]at a;rcases a with rfl|⟨ds,rfl,a⟩
  exact e;simp only[Rp]at e⊢;obtain⟨b,d,h2⟩:=e;exact⟨b,d,Rs a h2⟩
 | .v x,y,u,a,e=>by
  simp only[tV]at a;rcases a with rfl|⟨rfl,k,rfl⟩|⟨b,rfl,rfl⟩
  exact e;simp only[Rp]at e;subst e;simp only[Rp,oB];exact⟨none,0,rfl,cN _,pR _,k_⟩;simp only[Rp]at e;subst e;simp only[Rp];refine⟨b,rfl,?_⟩;have:∀l:O5,kR h φ n (l.map .v) l:=by
   intro l
   induction l with
   |nil=>simp[kR]|cons c l ih=>simp only[fG,kR];exact⟨c,l,rfl,x_,ih⟩
  exact this _
 |.ls _ _,y,u,a,e=>by simp only[tV]at a;subst a;exact e|.own _,y,u,a,e=>by simp only[tV]at a;subst a;exact e|.ptr _ _,y,u,a,e=>by simp only[tV]at a;subst a;exact e|.elt _ _ _ _,y,u,a,e=>by simp only[tV]at a;subst a;exact e|.vw _ _ _ _,y,u,a,e=>by simp only[tV]at a;subst a;exact e|.mp _,y,u,a,e=>by simp only[tV]at a;subst a;exact e|.yl _,y,u,a,e=>by simp only[tV]at a;subst a;exact e|.rp _,y,u,a,e=>by simp only[tV]at a;subst a;exact e|.cl _ _,y,u,a,e=>by simp only[tV]at a;subst a;exact e|.bm _ _ _,y,u,a,e=>by simp only[tV]at a;subst a;exact e|.tup _,y,u,a,e=>by simp only[tV]at a;subst a;exact e|.any,y,u,a,e=>by simp only[tV]at a;subst a;exact e
def Rs{h:GH}{φ:Nat->Value}{n:Nat}:∀{cs ds:O0}{us:O5},EK cs ds->kR h φ n cs us->kR h φ n ds us|[],ds,us,a,e=>by simp only[EK]at a;subst a;exact e|c::cs,ds,us,a,e=>by simp only[EK]at a;obtain⟨d,k,rfl,j,h2⟩:=a;simp only[kR]at e⊢;obtain⟨u,b,i,g,f⟩:=e;exact⟨u,b,i,aEZ j g,Rs h2 f⟩
end
def Zw{f:FuncId}{args:O0}{K:AV->aK->Prop}(hc:aC4 P G f args T K)(hG:tU G h)(hI:Inv h φ w T){vals:Array Value}(ha:kR h φ T.length args vals.toList):
 ((callFunc f vals).run P w=.ok (.enter f vals) w/\Calls P f vals w (λe w'=>∃v,e=.returned v/\CS h φ T w K v w')) \/
 (∃v w',(callFunc f vals).run P w=.ok (.value v) w'/\CS h φ T w K v w'):=by
 rcases hc with⟨L,hL,hlt,hc⟩|⟨hids,hc⟩|hc;have hφ:Kr L φ (λj=>φ (L.getD j 0)):=by intro j i e;simp[rH,e]
 have hlen:(GX L T).length=L.length:=by simp[GX]
 have back:∀v w',CS h (λj=>φ (L.getD j 0)) (GX L T) w (λr T'=>K (AR L T.length r) (IF L T.length T L T')) v w'->CS h φ T w K v w':=by rintro v w' ⟨r,T',h',φ',e1,e2,e3,e4⟩;obtain⟨φ2,e5,e6,e7⟩:=aCd hL hlt hI hφ e2 e3 e4;exact⟨_,_,h',φ2,e1,e5,e6,e7⟩
 exact(hc h _ w vals hG (aCb hL hI hφ) (by rw[hlen];exact DG hφ ha)).imp
  (λ⟨e,c⟩=>⟨e,c.mono λ_ w' ⟨v,e1,e2⟩=>⟨v,e1,back v w' e2⟩⟩) (λ⟨v,w',e,c⟩=>⟨v,w',e,back v w' c⟩)
 have back:∀v w',CS (lentG h φ T w) φ [] w (λr T'=>fX r/\(∀o∈T',xH o)/\K (AR [] T.length r) (T++T'.map (DC [] T.length))) v w'->CS h φ T w K v w':=by rintro v w' ⟨r,T',h',φ',⟨f1,f2,e1⟩,e2,e3,e4⟩;obtain⟨h2,φ2,e5,e6,e7⟩:=aCh hI e2 e3 e4 f1 f2;exact⟨_,_,h2,φ2,e1,e5,e6,e7⟩
 exact(hc (lentG h φ T w) φ w vals (hG.mono (xL hI)) (aCf hI φ) (M3 hI hids ha)).imp
  (λ⟨e,c⟩=>⟨e,c.mono λ_ w' ⟨v,e1,e2⟩=>⟨v,e1,back v w' e2⟩⟩) (λ⟨v,w',e,c⟩=>⟨v,w',e,back v w' c⟩)
 exact hc h φ w vals hG hI ha
def Ei{f:FuncId}{args:O0}{K:AV->aK->Prop}(c:IG P G f args T K)(j:tU G h)(hI:Inv h φ w T){a:Array Value}(i:kR h φ T.length args a.toList):
 ((callFunc f a).run P w=.ok (.enter f a) w/\Calls P f a w (λe b=>∃v,e=.returned v/\CS h φ T w K v b)) \/
 (∃v b,(callFunc f a).run P w=.ok (.value v) b/\CS h φ T w K v b):=by
 obtain⟨d,g,c⟩:=c;exact Zw c j hI (Rs g i)
end
end
end Hud
