import Derived.Test.YtdichbeaekjibaaGreatDoorLib01
set_option linter.all false
namespace Hud
open Go
section
def kF.drop{h:GH}{b k:Nat}:∀{es:N_}{o:Nat},kF h b k es o->∀l,kF h b k (es.drop l) (o+l*k)|[],_,_,l=>by simp[kF]|e::es,o,a,0=>by simpa using a|e::es,o,a,l+1=>by simp only[kF]at a;have:=kF.drop a.2.2 l;rw[aBO,Gp,Nat.add_comm (l*k) k,<-sY];exact this
def kF.take{h:GH}{b k:Nat}:∀{es:N_}{o:Nat},kF h b k es o->∀l,kF h b k (es.take l) o|[],_,_,l=>by simp[kF]|e::es,o,a,0=>by simp[kF]|e::es,o,a,l+1=>by simp only[kF]at a;rw[QI];simp only[kF];exact⟨a.1,a.2.1,kF.take a.2.2 l⟩
mutual
def M2{h h':GH}{φ:Nat->Value}{n:Nat}:∀{x:AV}{u:Value},fX x->Rp h φ n x u->Rp h' φ n x u
 |.v _,_,_,e=>by simpa[Rp]using e|.ls k j,u,a,e=>by
  simp only[fX]at a;subst a;simp only[Rp,oB]at e⊢;obtain⟨A,c,h1,h2,h3,_⟩:=e;exact⟨A,c,h1,h2,h3,.inl trivial⟩
 |.ag g,_,a,e=>by simp only[Rp,fX]at *;obtain⟨d,h1,h2⟩:=e;exact⟨d,h1,xK a h2⟩
 |.own _,_,_,e=>by simpa[Rp]using e|.ptr _ _,_,_,e=>by simpa[Rp]using e|.elt _ _ _ _,_,_,e=>by simpa[Rp]using e|.vw _ _ _ _,_,_,e=>by simpa[Rp]using e|.mp _,_,_,e=>by simpa[Rp]using e|.yl _,_,_,e=>by simpa[Rp]using e|.rp g,u,a,e=>by
  simp only[fX]at a;subst a;simp only[Rp]at e⊢;obtain⟨b,o,h1,_⟩:=e;exact⟨b,o,h1,by simp[mR]⟩
 |.cl f g,_,a,e=>by simp only[Rp,fX]at *;obtain⟨d,h1,h2⟩:=e;exact⟨d,h1,xK a h2⟩
 |.bm f i g,_,a,e=>by simp only[Rp,fX]at *;obtain⟨d,h1,h2⟩:=e;exact⟨d,h1,xK a h2⟩
 |.tup g,_,a,e=>by simp only[Rp,fX]at *;obtain⟨d,h1,h2⟩:=e;exact⟨d,h1,xK a h2⟩
 |.any,_,_,_=>A_
def xK{h h':GH}{φ:Nat->Value}{n:Nat}:∀{cs:O_}{us:C_},tC cs->cC h φ n cs us->cC h' φ n cs us
 |[],_,_,e=>by simpa[cC]using e
 |c::cs,us,b,e=>by
  simp only[cC,tC]at *
  obtain⟨u,a,h1,h2,h3⟩:=e;exact⟨u,a,h1,M2 b.1 h2,xK b.2 h3⟩
end
def Tp{h h':GH}:∀{cs:O_}{us:C_},(∀c∈cs,∃x,c=.v x)->cK h cs us->cK h' cs us
 |[],_,_,e=>by simpa[cK]using e
 |c::cs,us,b,e=>by
  simp only[cK]at *
  obtain⟨u,a,h1,h2,h3⟩:=e;obtain⟨x,rfl⟩:=b c s_;refine⟨u,a,h1,?_,Tp (λd f=>b d (by simp[f])) h3⟩;simpa only[oB]using h2
def aCe {h h':GH} {φ:Nat->Value} {n:Nat} {w:World} {i:Nat} {o:AObj} (u:xH (some o)) (t:∀g,kI (φ i)=some g->h' g=none) (e:uF h φ n w i o):uF h' φ n w i o:=by
 cases o with
 |box R=>
  obtain⟨g,J,E,h1,h2,_,f⟩:=e;exact⟨g,J,E,h1,h2,t g dp,xK u f⟩
 |arr k I=>
  obtain⟨h0,h1|⟨g,c,q,E,h1,h2,h3,f,j,_,B⟩⟩:=e;exact⟨h0,.inl h1⟩;refine⟨h0,.inr ⟨g,c,q,E,h1,h2,h3,f,j,t g dp,Tp (λc L=>?_) B⟩⟩;obtain⟨d,y,z⟩:=Kh.1 L;exact u d y c z
 | arf k I=>
  obtain⟨h0,h1|⟨g,c,q,E,h1,h2,h3,f,j,_,B⟩⟩:=e;exact⟨h0,.inl h1⟩;refine⟨h0,.inr ⟨g,c,q,E,h1,h2,h3,f,j,t g dp,xK ?_ B⟩⟩;have D:∀{a b:O_},tC a->tC b->tC (a++b):=by
   intro a b A M
   induction a with
   |nil=>exact M|cons c a ih=>simp only[tC,jC]at A⊢;exact⟨A.1,ih A.2⟩
  have x:∀l:N_,(∀e∈l,tC e)->tC l.flatten:=by
   intro l
   induction l with
   |nil=>intro _;simp[tC]|cons e l ih=>intro H;rw[zK];exact D (H e s_) (ih λd y=>H d (by simp[y]))
  exact x I u
 |lp r s=>
  obtain⟨g,h1,h2,h3,f,j⟩:=e;exact⟨g,h1,h2,t g dp,f,λp G=>M2 (u p G) (j p G)⟩
 |mit m v F P=>
  obtain⟨g,K,h1,h2,h3,f⟩:=e;exact⟨g,K,h1,h2,t g dp,f⟩
 |map T Q O bs S=>
  obtain⟨g,C,h1,h2,h3,f,j,N⟩:=e;exact⟨g,C,h1,h2,t g dp,f,j,xK u N⟩
def mR.of_list{h:GH}{b:Nat}:∀{cs:O_}{us:C_}{o:Nat},cK h cs us->(∀c∈cs,aX c=true)->(∀j u,us[j]?=some u->oY h b (o+j)=some u)->mR h b cs o|cs,us,o,e,f,d=>mR.mk λi c a=>by obtain⟨u,h1,h2⟩:=e.get a;exact⟨u,f c (Kd a),d i u h1,h2⟩
def kF.of_list{h:GH}{b k:Nat}:∀{es:N_}{us:C_}{o:Nat},cK h es.flatten us->(∀e∈es,e.length=k/\∀c∈e,aX c=true)->(∀j u,us[j]?=some u->oY h b (o+j)=some u)->kF h b k es o|es,us,o,e,m,n=>kF.mk λj d g=>by have l:=m d (Kd g);refine⟨l.1,?_⟩;have f:=e.sub (j*k) k;rw[Mt (λe p=>(m e p).1) g]at f;refine mR.of_list f l.2 λi u a=>?_;rw[BT]at a;split at a;rw[Hw]at a;rw[<-n _ _ a];congr 1;omega;simp at a
open Classical in
noncomputable def lentG(h:GH)(φ:Nat->Value)(T:aK)(w:World):GH:=λb=>
 if ∃i o,T[i]?=some (some o)/\kI (φ i)=some b then(match w.heap[b]? with|some (.cells a _ _)=>some a|_=>none) else h b
open Classical in
noncomputable def unlentG(h:GH)(φ:Nat->Value)(T:aK):GH:=λb=>if ∃i o,T[i]?=some (some o)/\kI (φ i)=some b then none else h b
section
variable{h:GH}{φ:Nat->Value}{T:aK}{w:World}
def Qa(hI:Inv h φ w T){i:Nat}{k:Nat}{es:N_}(j:T[i]?=some (some (.arr k es))){b:Nat}(a:kI (φ i)=some b):∃d E,w.heap[b]?=some (.cells d E (0,0))/\lentG h φ T w b=some d:=by
 have:∃d E,w.heap[b]?=some (.cells d E (0,0)):=by obtain⟨_,⟨A,h1⟩|⟨g,c,e,E,h1,h2,_⟩⟩:=hI.obj i _ j;rw[h1.1]at a;simp[kI]at a;rw[h1]at a;simp only[kI,E_]at a;subst a;exact⟨e,E,h2⟩
 obtain⟨d,E,f⟩:=this;refine⟨d,E,f,?_⟩;unfold lentG;rw[if_pos ⟨i,_,j,a⟩,f]
def xL(hI:Inv h φ w T):CA h (lentG h φ T w):=by intro b d e;unfold lentG;rw[if_neg];exact e;rintro⟨i,o,a,c⟩;have:=(iT (hI.obj i o a) c).2;rw[e]at this;simp at this
def aCf(hI:Inv h φ w T)(a:Nat->Value):Inv (lentG h φ T w) a w []:=by refine⟨λb g e=>?_,λi o e=>kf,λi j l k b e=>kf⟩;by_cases c:∃i o,T[i]?=some (some o)/\kI (φ i)=some b;unfold lentG at e;rw[if_pos c]at e;split at e;rename_i f E m d;cases e;exact⟨E,_,d⟩;simp at e;unfold lentG at e;rw[if_neg c]at e;exact hI.gh b g e
mutual
def aCg (hI:Inv h φ w T) {D:Nat->Value}:∀{x:AV}{u:Value},gF (tB T x)=[]->Rp h φ T.length x u->Rp (lentG h φ T w) D 0 (tB T x) u
 |.v _,_,_,e=>by simpa[Rp,tB]using e
 |.ls _ _,_,_,e=>by simp only[Rp,tB]at *;exact e.mono (xL hI)
 |.ag C,_,n,e=>by simp only[Rp,tB,gF]at *;obtain⟨s,h1,h2⟩:=e;exact⟨s,h1,M3 hI n h2⟩
 | .own i,u,_,e=>by
  simp only[Rp,tB]at *
  split;rename_i k K z;simp only[Rp,oB];obtain⟨H,⟨O,h1⟩|⟨g,c,L,E,p,F,h2,h3,U,S,J⟩⟩:=AS hI z;exact⟨O,0,by rw[e.2.1,h1.1,h1.2];rfl,by rw[h1.2];simp,s_,.inl h1.2⟩;refine⟨_,c+1,by rw[e.2.1,p],h2,h3,.inr ⟨g,0,rfl,?_⟩⟩;obtain⟨M,W,a,d⟩:=Qa hI (bH z) (b:=g) (by rw[p];rfl);rw[F]at a;cases a;refine kF.of_list (J.mono (xL hI)) H λj v q=>?_;unfold oY;rw[d];rw[BT]at q;split at q;simpa using q;simp at q;simp[Rp]
 |.ptr _ _,_,n,_=>by simp[gF,tB]at n
 |.elt _ _ _ _,_,n,_=>by simp[gF,tB]at n
 |.mp _,_,n,_=>by simp[gF,tB]at n
 |.yl _,_,n,_=>by simp[gF,tB]at n
 | .vw i k lo m,u,_,e=>by
  simp only[Rp,tB]at *
  split;rename_i Y K z;split;rename_i R;obtain⟨rfl,N⟩:=R;obtain⟨_,A,c,P,G,I,h0⟩:=e;have y:((K.drop lo).take m).length=m:=by rw[eC,vY];omega
  simp only[Rp,oB];refine⟨A,c,by rw[y];exact P,by rw[y];exact G,I,?_⟩;rcases h0 with rfl|⟨g,l,c',p,rfl,Q⟩
  exact .inl s_;obtain⟨H,h1|⟨Z,c2,L,E,r,F,h2,h3,U,S,J⟩⟩:=AS hI z;obtain⟨O,_,rfl⟩:=h1;exact .inl s_;rw[p]at r;injection r with B e2 V;cases B;subst V;refine .inr ⟨g,lo*k,rfl,?_⟩;obtain⟨M,W,a,d⟩:=Qa hI (bH z) (b:=g) (by rw[p];rfl);rw[F]at a;cases a;have t:kF (lentG h φ T w) g k K 0:=kF.of_list (J.mono (xL hI)) H λj v q=>by unfold oY;rw[d];rw[BT]at q;split at q;simpa using q;simp at q
  simpa using(t.drop lo).take m;simp[Rp];simp[Rp]
 |.rp C,u,_,e=>by
  simp only[Rp,tB]at *
  obtain⟨b,o,h1,h2⟩:=e;exact⟨b,o,h1,h2.mono (xL hI)⟩
 |.cl f C,_,n,e=>by
  simp only[Rp,tB,gF]at *
  obtain⟨s,h1,h2⟩:=e;exact⟨s,h1,xM hI n h2⟩
 |.bm f X C,_,n,e=>by
  simp only[Rp,tB,gF]at *
  obtain⟨s,h1,h2⟩:=e;exact⟨s,h1,xM hI n h2⟩
 |.tup C,_,n,e=>by
  simp only[Rp,tB,gF]at *
  obtain⟨s,h1,h2⟩:=e;exact⟨s,h1,xM hI n h2⟩
 |.any,_,_,_=>by simp[Rp,tB]
def M3(hI:Inv h φ w T){a:Nat->Value}:∀{cs:O_}{us:C_},iZ (xG T cs)=[]->cC h φ T.length cs us->cC (lentG h φ T w) a 0 (xG T cs) us
 |[],_,_,e=>by simpa[cC,xG]using e
 |c::cs,us,d,e=>by
  simp only[cC,xG,iZ,X8]at *
  obtain⟨u,b,h1,h2,h3⟩:=e;exact⟨u,b,h1,aCg hI d.1 h2,M3 hI d.2 h3⟩
def aEY(hI:Inv h φ w T){g:Nat->Value}:∀{x:AV}{u:Value},gF x=[]->Rp h φ T.length x u->Rp (lentG h φ T w) g 0 x u
 |.v _,_,_,e=>by simpa[Rp]using e
 |.ls _ _,_,_,e=>by simp only[Rp]at *;exact e.mono (xL hI)
 |.ag d,_,a,e=>by simp only[Rp,gF]at *;obtain⟨c,h1,h2⟩:=e;exact⟨c,h1,xM hI a h2⟩
 |.own _,_,a,_=>by simp[gF]at a
 |.ptr _ _,_,a,_=>by simp[gF]at a
 |.elt _ _ _ _,_,a,_=>by simp[gF]at a
 |.vw _ _ _ _,_,a,_=>by simp[gF]at a
 |.mp _,_,a,_=>by simp[gF]at a
 |.yl _,_,a,_=>by simp[gF]at a
 |.rp d,u,_,e=>by
  simp only[Rp]at *
  obtain⟨b,o,h1,h2⟩:=e;exact⟨b,o,h1,h2.mono (xL hI)⟩
 |.cl f d,_,a,e=>by simp only[Rp,gF]at *;obtain⟨c,h1,h2⟩:=e;exact⟨c,h1,xM hI a h2⟩
 |.bm f i d,_,a,e=>by simp only[Rp,gF]at *;obtain⟨c,h1,h2⟩:=e;exact⟨c,h1,xM hI a h2⟩
 |.tup d,_,a,e=>by simp only[Rp,gF]at *;obtain⟨c,h1,h2⟩:=e;exact⟨c,h1,xM hI a h2⟩
 |.any,_,_,_=>A_
def xM(hI:Inv h φ w T){a:Nat->Value}:∀{cs:O_}{us:C_},iZ cs=[]->cC h φ T.length cs us->cC (lentG h φ T w) a 0 cs us
 |[],_,_,e=>by simpa[cC]using e
 |c::cs,us,d,e=>by
  simp only[cC,iZ,X8]at *
  obtain⟨u,b,h1,h2,h3⟩:=e;exact⟨u,b,h1,aEY hI d.1 h2,xM hI d.2 h3⟩
end
def aCh(hI:Inv h φ w T){φc:Nat->Value}{T':aK}{h1:GH}{a:Nat->Value}{w':World}(d:Evo (lentG h φ T w) φc [] w h1 a T' w')(l:Inv h1 a w' T'){r:AV}{v:Value}(E:Rp h1 a T'.length r v)
 (t:fX r) (u:∀o∈T',xH o):
 ∃h' f,Evo h φ T w h' f (T++T'.map (DC [] T.length)) w'/\Inv h' f w' (T++T'.map (DC [] T.length))/\Rp h' f (T++T'.map (DC [] T.length)).length (AR [] T.length r) v:=by
 have p:∀b,b<w.heap.size->w'.heap[b]?=w.heap[b]?:=λb z=>d.frame b z λi o e=>kf;let h':GH:=unlentG h1 φ T;have s:CA h h':=by intro b c e;have h2:=d.le b c (xL hI b c e);show unlentG h1 φ T b=some c;unfold unlentG;rw[if_neg];exact h2;rintro⟨i,o,n,z⟩;have:=(iT (hI.obj i o n) z).2;rw[e]at this;simp at this
 have k:∀b c,h' b=some c->h1 b=some c/\¬∃i o,T[i]?=some (some o)/\kI (φ i)=some b:=by intro b c e;change unlentG h1 φ T b=some c at e;unfold unlentG at e;split at e;simp at e;rename_i q;exact⟨e,q⟩
 have A:Inv h' a w' T':=by
  refine⟨λb c e=>l.gh b c (k b c e).1,λi o e=>?_,l.dis⟩;have C:=l.obj i o e;refine aCe (u _ (Kd e)) (λg G=>?_) C;have D:=(iT C G).2
  cases F:h' g with
  |none=>rfl
  |some c=>rw[(k g c F).1]at D;simp at D
 have B:Evo h φc [] w h' a T' w':=by
  refine⟨d.os,d.tape,d.output,d.size,d.frame,s,λb c e=>?_,λi n=>by simp at n,d.org,s_,d.drawn⟩;obtain⟨H,q⟩:=k b c e;rcases d.gfr b c H with h2|h2|⟨i,o,h3,_⟩
  unfold lentG at h2;rw[if_neg q]at h2;exact .inl h2;exact .inr (.inl h2);simp at h3
 have m:GX ([]:V_) T=[]:=rfl;have:=aCd (L:=[]) (φc:=φc) s_ (λi n=>by simp at n) hI (λj i e=>kf) (by rw[m];exact B) A (M2 (h':=h') t E);have y:IF [] T.length T [] T'=T++T'.map (DC [] T.length):=by
  cases T' with
  |nil=>simp[IF]
  |cons x T'=>rfl
 rw[y]at this;exact⟨h',this⟩
end
section
variable{P:Program}{G:L_}{h:GH}{φ:Nat->Value}{T:aK}{w:World}
mutual
def aEZ {h:GH} {φ:Nat->Value} {n:Nat}:∀{x y:AV}{u:Value},tV x y->Rp h φ n x u->Rp h φ n y u
 |.ag d,y,u,a,e=>by
  simp only[tV]at a;rcases a with rfl|⟨ds,rfl,a⟩
  exact e;simp only[Rp]at e⊢;obtain⟨b,h1,h2⟩:=e;exact⟨b,h1,Rs a h2⟩
 | .v x,y,u,a,e=>by
  simp only[tV]at a;rcases a with rfl|⟨rfl,k,rfl⟩|⟨b,rfl,rfl⟩
  exact e;simp only[Rp]at e;subst e;simp only[Rp,oB];exact⟨none,0,rfl,cN _,pR _,s_⟩;simp only[Rp]at e;subst e;simp only[Rp];refine⟨b,rfl,?_⟩;have:∀l:C_,cC h φ n (l.map .v) l:=by
   intro l
   induction l with
   |nil=>simp[cC]|cons c l ih=>simp only[fG,cC];exact⟨c,l,rfl,A_,ih⟩
  exact this _
 |.ls _ _,y,u,a,e=>by simp only[tV]at a;subst a;exact e|.own _,y,u,a,e=>by simp only[tV]at a;subst a;exact e|.ptr _ _,y,u,a,e=>by simp only[tV]at a;subst a;exact e|.elt _ _ _ _,y,u,a,e=>by simp only[tV]at a;subst a;exact e|.vw _ _ _ _,y,u,a,e=>by simp only[tV]at a;subst a;exact e|.mp _,y,u,a,e=>by simp only[tV]at a;subst a;exact e|.yl _,y,u,a,e=>by simp only[tV]at a;subst a;exact e|.rp _,y,u,a,e=>by simp only[tV]at a;subst a;exact e|.cl _ _,y,u,a,e=>by simp only[tV]at a;subst a;exact e|.bm _ _ _,y,u,a,e=>by simp only[tV]at a;subst a;exact e|.tup _,y,u,a,e=>by simp only[tV]at a;subst a;exact e|.any,y,u,a,e=>by simp only[tV]at a;subst a;exact e
def Rs{h:GH}{φ:Nat->Value}{n:Nat}:∀{cs ds:O_}{us:C_},EK cs ds->cC h φ n cs us->cC h φ n ds us|[],ds,us,a,e=>by simp only[EK]at a;subst a;exact e|c::cs,ds,us,a,e=>by simp only[EK]at a;obtain⟨d,i,rfl,h1,h2⟩:=a;simp only[cC]at e⊢;obtain⟨u,b,h3,g,f⟩:=e;exact⟨u,b,h3,aEZ h1 g,Rs h2 f⟩
end
def Zw{f:FuncId}{args:O_}{K:AV->aK->Prop}(hc:aC4 P G f args T K)(hG:tU G h)(hI:Inv h φ w T){vals:Array Value}(ha:cC h φ T.length args vals.toList):
 ((callFunc f vals).run P w=.ok (.enter f vals) w/\Calls P f vals w (λe w'=>∃v,e=.returned v/\CS h φ T w K v w')) \/
 (∃v w',(callFunc f vals).run P w=.ok (.value v) w'/\CS h φ T w K v w'):=by
 rcases hc with⟨L,hL,hlt,hc⟩|⟨hids,hc⟩|hc;have hφ:Kr L φ (λj=>φ (L.getD j 0)):=by intro j i e;simp[rH,e]
 have hlen:(GX L T).length=L.length:=by simp[GX]
 have back:∀v w',CS h (λj=>φ (L.getD j 0)) (GX L T) w (λr T'=>K (AR L T.length r) (IF L T.length T L T')) v w'->CS h φ T w K v w':=by rintro v w' ⟨r,T',h',φ',e1,e2,e3,e4⟩;obtain⟨φ2,e5,e6,e7⟩:=aCd hL hlt hI hφ e2 e3 e4;exact⟨_,_,h',φ2,e1,e5,e6,e7⟩
 exact(hc h _ w vals hG (aCb hL hI hφ) (by rw[hlen];exact DG hφ ha)).imp
  (λ⟨e,c⟩=>⟨e,c.mono λ_ w' ⟨v,e1,e2⟩=>⟨v,e1,back v w' e2⟩⟩) (λ⟨v,w',e,c⟩=>⟨v,w',e,back v w' c⟩)
 have back:∀v w',CS (lentG h φ T w) φ [] w (λr T'=>fX r/\(∀o∈T',xH o)/\K (AR [] T.length r) (T++T'.map (DC [] T.length))) v w'->CS h φ T w K v w':=by rintro v w' ⟨r,T',h',φ',⟨f1,f2,e1⟩,e2,e3,e4⟩;obtain⟨h2,φ2,e5,e6,e7⟩:=aCh hI e2 e3 e4 f1 f2;exact⟨_,_,h2,φ2,e1,e5,e6,e7⟩
 exact(hc (lentG h φ T w) φ w vals (hG.mono (xL hI)) (aCf hI φ) (M3 hI hids ha)).imp
  (λ⟨e,c⟩=>⟨e,c.mono λ_ w' ⟨v,e1,e2⟩=>⟨v,e1,back v w' e2⟩⟩) (λ⟨v,w',e,c⟩=>⟨v,w',e,back v w' c⟩)
 exact hc h φ w vals hG hI ha
def Ei{f:FuncId}{args:O_}{K:AV->aK->Prop}(c:IG P G f args T K)(j:tU G h)(hI:Inv h φ w T){a:Array Value}(i:cC h φ T.length args a.toList):
 ((callFunc f a).run P w=.ok (.enter f a) w/\Calls P f a w (λe b=>∃v,e=.returned v/\CS h φ T w K v b)) \/
 (∃v b,(callFunc f a).run P w=.ok (.value v) b/\CS h φ T w K v b):=by
 obtain⟨d,g,c⟩:=c;exact Zw c j hI (Rs g i)
end
end
end Hud
