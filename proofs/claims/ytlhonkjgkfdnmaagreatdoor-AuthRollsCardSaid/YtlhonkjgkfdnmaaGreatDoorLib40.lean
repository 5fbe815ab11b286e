import Derived.Test.YtlhonkjgkfdnmaaGreatDoorLib33
import Derived.Test.YtlhonkjgkfdnmaaGreatDoorLib35
import Derived.Test.YtlhonkjgkfdnmaaGreatDoorLib37
import Derived.Test.YtlhonkjgkfdnmaaGreatDoorLib38
import Derived.Test.YtlhonkjgkfdnmaaGreatDoorLib39
set_option linter.all false
set_option maxHeartbeats 40000000
namespace Hud
open Go
variable{G:L_}
def ZO(g:PGM)(r:RM)(y:Id):RM:=BS r (g.nd y).o y
def Lo(g:PGM)(some:D_)(x:Id):RM:=(some.filter λy=>oH g y x).foldl (ZO g) (RM.new g.cards)
structure GGood(g:PGM):Prop where
 ok:g.ok
 chk:∀n∈g.nodes,vF n.o=0
 cards:CardsG g.cards
 idb:∀n∈g.nodes,n.id.b<=2^62
def aEo{g:PGM}{x:Id}(a:x∈g.I):g.nd x∈g.nodes:=by
 obtain⟨j,e,l,_⟩:=dG a;have b:j<g.nodes.length:=by simpa[PGM.I]using l
 rw[RA e,rH,jN b];simp
def GGood.op{g:PGM}(h:GGood g){x:Id}(a:x∈g.I):OpGood (g.nd x).o/\(g.nd x).o.ok:=⟨aIr (h.chk _ (aEo a)),h.ok.ops _ (aEo a)⟩
def B6{g:PGM}(h:GGood g):∀(l:D_){D:D_}{r:RM},RGood D g.cards r->(∀x∈l,x∈g.I)->(l++D).Nodup->RGood (l.reverse++D) g.cards (l.foldl (ZO g) r)
 |[],_,_,d,_,_=>d
 | x::l,D,r,d,j,c=>by
  rw[jC,BU]at c;have h1:=d.do' h.cards (h.op (j x EV)).1 (x:=x) (λf=>c.1 (List.mem_append_right _ f))
  have h2:=B6 h l h1 (λy m=>j y (GU _ m)) (by
   rw[vQ]at c⊢;refine⟨c.2.1,BU.2 ⟨λf=>c.1 (List.mem_append_right _ f),c.2.2.1⟩,λa k b i e=>?_⟩;rcases cS.1 i with rfl|i;subst e;exact c.1 (List.mem_append_left _ k)
   exact c.2.2.2 a k b i e)
  rw[CW,List.reverse_cons,eB];exact h2
structure Above(T T':aK)(s:RP)(r:RM):Prop where
 at':RollAt T' s r
 ext:∃X,T'=T++X
 fp:∀i,aB7 s r i->T.length<=i
def aIB{T T':aK}(a:T.length<=T'.length)(h:∀i,i<T.length->T'[i]?=T[i]?):∃X,T'=T++X:=by
 refine⟨T'.drop T.length,?_⟩;have:T=T'.take T.length:=by refine EW λi=>?_;grind
 conv=>lhs;rw[<-LC T.length T']
 rw[<-this]
def Above.wr{T d T2 X:aK}{s b:RP}{r c:RM}(h:Above T d s r)(w:Wr (d++X) s r T2 b c):Above T T2 b c:=by obtain⟨Y,rfl⟩:=h.ext;refine⟨w.at',aIB ?_ λi a=>?_,λi a=>?_⟩;have:=w.len;simp only[dZ]at this;omega;rw[w.same i si λe=>absurd (h.fp i e) o_,eB,mY a];rcases w.fp i a with h1|h1;exact h.fp i h1;simp_all;omega
def Above.app{T a X:aK}{s:RP}{r:RM}(h:Above T a s r):Above T (a++X) s r:=h.wr (Wr.refl h.at'.app)
section
variable{T:aK}{p:Nat×Nat×Nat}{g:PGM}{l:Nat}{row v f:AV}
def aKu(h:GAt T p g)(d:GGood g)(hl:T[l]?=some (some (.box [.ptr p.1 0,row,v,f])))(ss:D_)(H:∀x∈ss,x∈g.I)(L:ss.Nodup)(x:Id):
 aA PQ G pD [.ptr l 0,ids ss,.ag x.A] T λy T'=>∃s,y=.ptr s.root 0/\Above T T' s (Lo g ss x):=by
 apply fT BG;have S:=λX:aK=>aF (X:=X) hl;simp only[go_sem,S,jC,dM,ids];apply cI (S4 (h.app) d.ok);simp only[go_sem];apply jA (O1 g.cards (by have:=d.cards.len;omega) d.cards.nd);rintro y T' ⟨E,rfl,J,⟨X0,rfl⟩,P⟩;simp only[go_sem,aP];have B:Above (T++[some (.box x.A)]) (T++[some (.box x.A)]++X0) E (RM.new g.cards):=⟨J,⟨X0,rfl⟩,P⟩
 have O:∀i,RGood (((ss.take i).filter λy=>oH g y x).reverse++[]) g.cards (((ss.take i).filter λy=>oH g y x).foldl (ZO g) (RM.new g.cards)):=λi=>by refine B6 d _ (RGood.new d.cards) (λy hy=>H y (C8 (gR.1 hy).1)) ?_;rw[jO];exact(L.sublist (List.take_sublist _ _)).sublist List.filter_sublist
 have aa:ss.length<=200:=by have:=List.Nodup.length_le_of_subset L H;have h2:=d.ok.n;simp only[PGM.I,aP]at this;omega
 refine kL (λn V=>∃i,i<=ss.length/\n=ss.length-i/\∃(U:aK)(t:RP),t.root=E.root/\Above (T++[some (.box x.A)]) U t (((ss.take i).filter λy=>oH g y x).foldl (ZO g) (RM.new g.cards)) /\
  V=⟨T.length,[(20,iv i),(19,iv ss.length),(18,ids ss),(7,.ptr E.root 0),(5,.ptr T.length 0),(0,.ptr l 0)],U⟩) ss.length ⟨0,pR _,rfl,_,E,rfl,B,rfl⟩ ?_
 rintro n V ⟨i,hi,ab,U,t,b,u,rfl⟩;rcases eD i ss.length with c|ac;rotate_left;obtain rfl:i=ss.length:=o_;rw[dE]at u;simp only[go_sem,aS (bP _)];refine⟨t,by rw[b],u.at',?_,λj N=>?_⟩;obtain⟨X,hX⟩:=u.ext;exact⟨_,by rw[hX,eB]⟩;have:=u.fp j N;rw[dZ]at this;omega;have F:=fQ i o_;have w:=H _ (eQ c);have g0:(ss.map Id.A)[i]?=some ss[i].A:=aO _ ss i c;have D:(ss.take (i+1)).filter (λy=>oH g y x)=(ss.take i).filter (λy=>oH g y x)++if oH g ss[i] x=true then [ss[i]] else []:=by rw[lB c,Mf,List.filter_cons,List.filter_nil]
 have a:=O i;have hz:ss[i]∉(ss.take i).filter λy=>oH g y x:=λM=>by obtain⟨j,N,e⟩:=List.mem_iff_getElem.1 (gR.1 M).1;rw[eC]at N;rw[List.getElem_take]at e;have:j=i:=(C9 (h₀:=o_) (h₁:=c) L).1 e;omega
 generalize((ss.take i).filter λy=>oH g y x)=done at *
 have q:=u;obtain⟨X,rfl⟩:=u.ext;simp only[go_sem,aT c,g0,ids,aZ,cP,fF,iR,oX,sW,yG,S,Id.A_def,eB,jC,dM,Nat.reduceAdd];apply cI (JO (h.app) d.ok ss[i] x);cases Y:oH g ss[i] x;rw[Y,if_neg d_,jO]at D;simp only[go_sem,F];refine⟨ss.length-(i+1),o_,i+1,o_,rfl,_,t,b,?_,rfl⟩;rw[D];have:=q.app (X:=[some (.box ss[i].A)]);simpa only[eB,jC,dM,Id.A_def]using this
 ·rw[Y,if_pos rfl]at D;simp only[go_sem,aZ,fF,oX,sW,S,eB,jC,dM,sY,Nat.reduceAdd];have cE:=λX=>S5 (G:=G) (h.app (X:=X)) d.ok ss[i] w;generalize ss[i]=z at *
  have hR:=λZ:aK=>(q.app (X:=Z)).at';have K:=d.op w;have C:=a.nodup12 d.cards
  have k:=λZ:aK=>RK (G:=G) (hR Z) a.wf a.inn (aEk (by rw[a.cards];exact d.cards)) C.1 C.2 (g.nd z).o z (by have:=K.1.gl;omega) (λv hv e=>by
   obtain⟨m,M,hI,R,_⟩:=a.vof v hv;have:=a.gid m M hI;rw[R,e,jO,List.mem_reverse]at this
   exact hz this) a.wv a.pos
  rw[b]at k;have Q:∀{Z T':aK}{r:RP},Wr (T++[some (.box x.A)]++X++Z) t (done.foldl (ZO g) (RM.new g.cards)) T' r (BS (done.foldl (ZO g) (RM.new g.cards)) (g.nd z).o z)->Above (T++[some (.box x.A)]) T' r ((done++[z]).foldl (ZO g) (RM.new g.cards)):=λW=>by rw[Hy];exact q.wr W
  simp only[eB,jC,dM,Id.A_def]at k Q;refine⟨?_,?_⟩;apply cI (cE _);simp only[go_sem,aZ,cP,fF,oX,sW,yG,eB,jC,dM,sY,Nat.reduceAdd];apply jA (k _);rintro y T' ⟨r,W⟩;simp only[go_sem,F];exact⟨ss.length-(i+1),o_,i+1,o_,rfl,_,r,W.root.trans b,by rw[D];exact Q W,rfl⟩;apply cI (cE _);simp only[go_sem,aZ,cP,fF,oX,sW,yG,jC,dM,Nat.reduceAdd];apply jA (k _);rintro y T' ⟨r,W⟩;simp only[go_sem,F];exact⟨ss.length-(i+1),o_,i+1,o_,rfl,_,r,W.root.trans b,by rw[D];exact Q W,rfl⟩
def aIC(h:GAt T p g)(d:GGood g)(hl:T[l]?=some (some (.box [.ptr p.1 0,row,v,f])))(k:Nat)(ss:D_)(hk:T[k]?=some (some (.arr 3 (ss.map Id.A))))(J:∀x∈ss,x∈g.I)(M:ss.Nodup)(x:Id):
 aA PQ G pD [.ptr l 0,.own k,.ag x.A] T λy T'=>∃s,y=.ptr s.root 0/\Above T T' s (Lo g ss x):=by
 apply fT BG;have U:=λX:aK=>aF (X:=X) hl;have ak:=λX:aK=>aF (X:=X) hk;simp only[go_sem,U,jC,dM];apply cI (S4 (h.app) d.ok);simp only[go_sem];apply jA (O1 g.cards (by have:=d.cards.len;omega) d.cards.nd);rintro y T' ⟨F,rfl,K,⟨X0,rfl⟩,Q⟩;simp only[go_sem,ak,aP,eB,jC,dM];have r:Above (T++[some (.box x.A)]) (T++[some (.box x.A)]++X0) F (RM.new g.cards):=⟨K,⟨X0,rfl⟩,Q⟩
 rw[eB]at r;have P:∀i,RGood (((ss.take i).filter λy=>oH g y x).reverse++[]) g.cards (((ss.take i).filter λy=>oH g y x).foldl (ZO g) (RM.new g.cards)):=λi=>by refine B6 d _ (RGood.new d.cards) (λy hy=>J y (C8 (gR.1 hy).1)) ?_;rw[jO];exact(M.sublist (List.take_sublist _ _)).sublist List.filter_sublist
 have aa:ss.length<=200:=by have:=List.Nodup.length_le_of_subset M J;have h2:=d.ok.n;simp only[PGM.I,aP]at this;omega
 refine kL (λn Y=>∃i,i<=ss.length/\n=ss.length-i/\∃(V:aK)(w:RP),w.root=F.root/\Above (T++[some (.box x.A)]) V w (((ss.take i).filter λy=>oH g y x).foldl (ZO g) (RM.new g.cards)) /\
  Y=⟨T.length,[(20,iv i),(19,iv ss.length),(18,.own k),(7,.ptr F.root 0),(5,.ptr T.length 0),(0,.ptr l 0)],V⟩) ss.length ⟨0,pR _,rfl,_,F,rfl,r,rfl⟩ ?_
 rintro n Y ⟨i,hi,ab,V,w,c,B,rfl⟩;rcases eD i ss.length with b|ac;rotate_left;obtain rfl:i=ss.length:=o_;rw[dE]at B;simp only[go_sem,aS (bP _)];refine⟨w,by rw[c],B.at',?_,λj O=>?_⟩;obtain⟨X,hX⟩:=B.ext;exact⟨_,by rw[hX,eB]⟩;have:=B.fp j O;rw[dZ]at this;omega;have H:=fQ i o_;have C:=J _ (eQ b);have g0:(ss.map Id.A)[i]?=some ss[i].A:=aO _ ss i b;have E:(ss.take (i+1)).filter (λy=>oH g y x)=(ss.take i).filter (λy=>oH g y x)++if oH g ss[i] x=true then [ss[i]] else []:=by rw[lB b,Mf,List.filter_cons,List.filter_nil]
 have a:=P i;have hz:ss[i]∉(ss.take i).filter λy=>oH g y x:=λN=>by obtain⟨j,O,e⟩:=List.mem_iff_getElem.1 (gR.1 N).1;rw[eC]at O;rw[List.getElem_take]at e;have:j=i:=(C9 (h₀:=o_) (h₁:=b) M).1 e;omega
 generalize((ss.take i).filter λy=>oH g y x)=done at *
 have t:=B;obtain⟨X,rfl⟩:=B.ext;simp only[go_sem,aP,aT b,b,g0,aZ,cP,fF,iR,oX,sW,yG,U,ak,Id.A_def,eB,jC,dM,Nat.reduceAdd];apply cI (JO (h.app) d.ok ss[i] x);cases hb:oH g ss[i] x;rw[hb,if_neg d_,jO]at E;simp only[go_sem,H];refine⟨ss.length-(i+1),o_,i+1,o_,rfl,_,w,c,?_,rfl⟩;rw[E];have:=t.app (X:=[some (.box ss[i].A)]);simpa only[eB,jC,dM,Id.A_def]using this
 ·rw[hb,if_pos rfl]at E;simp only[go_sem,aZ,fF,oX,sW,U,eB,jC,dM,sY,Nat.reduceAdd];have cE:=λX=>S5 (G:=G) (h.app (X:=X)) d.ok ss[i] C;generalize ss[i]=z at *
  have hR:=λZ:aK=>(t.app (X:=Z)).at';have L:=d.op C;have D:=a.nodup12 d.cards
  have q:=λZ:aK=>RK (G:=G) (hR Z) a.wf a.inn (aEk (by rw[a.cards];exact d.cards)) D.1 D.2 (g.nd z).o z (by have:=L.1.gl;omega) (λv hv e=>by
   obtain⟨m,N,hI,S,_⟩:=a.vof v hv;have:=a.gid m N hI;rw[S,e,jO,List.mem_reverse]at this
   exact hz this) a.wv a.pos
  rw[c]at q;have R:∀{Z T':aK}{u:RP},Wr (T++[some (.box x.A)]++X++Z) w (done.foldl (ZO g) (RM.new g.cards)) T' u (BS (done.foldl (ZO g) (RM.new g.cards)) (g.nd z).o z)->Above (T++[some (.box x.A)]) T' u ((done++[z]).foldl (ZO g) (RM.new g.cards)):=λW=>by rw[Hy];exact t.wr W
  simp only[eB,jC,dM,Id.A_def]at q R;refine⟨?_,?_⟩;apply cI (cE _);simp only[go_sem,aZ,cP,fF,oX,sW,yG,eB,jC,dM,sY,Nat.reduceAdd];apply jA (q _);rintro y T' ⟨u,W⟩;simp only[go_sem,H];exact⟨ss.length-(i+1),o_,i+1,o_,rfl,_,u,W.root.trans c,by rw[E];exact R W,rfl⟩;apply cI (cE _);simp only[go_sem,aZ,cP,fF,oX,sW,yG,jC,dM,Nat.reduceAdd];apply jA (q _);rintro y T' ⟨u,W⟩;simp only[go_sem,H];exact⟨ss.length-(i+1),o_,i+1,o_,rfl,_,u,W.root.trans c,by rw[E];exact R W,rfl⟩
end
def aPw{o:OpM}(h:jB o=0)(a:o.Kind=3)(b:o.Device=0):o.Member≠0:=by grind[jB,fP,oI]
def Reach.checked{cs:List CardM}{g:GM}(h:Reach cs g):∀o∈g.L,jB o=0:=by
 induction h with
 |new=>simp| @add g o d e c ih=>
  by_cases h:(dV g o).1=0;have a:=Ff h;rw[yE a h];intro x b;rcases cG.1 b with b|b;exact ih x b;rw[cA.1 b];exact a.check;grind[addM]
def Reach.rem{cs:List CardM}{g:GM}(h:Reach cs g):aQ9 g.L:=λ_ a b c=>aPw (h.checked _ a) b c
def ggood{p:PGM}{g:GM}{cs:List CardM}(s:Sim p g)(c:p.ok)(a:Reach cs g)(d:CardsG p.cards):GGood p where
 ok:=c
 chk:=λn b=>by rw[Aq];apply a.checked n.o;rw[<-s.l];grind
 cards:=d
 idb:=λn b=>by have:=a.seqb n.id (by rw[<-s.i];exact List.mem_map_of_mem (f:=(·.id)) b);omega
def CardsG.perm{cs a:List CardM}(h:CardsG cs)(p:a.Perm cs):CardsG a :=
 ⟨by rw[p.length_eq];exact h.len,(p.map _).nodup_iff.2 h.nd,λc b=>h.mem c (p.mem_iff.1 b),λc b=>h.dev c (p.mem_iff.1 b)⟩
def Xg(p:PGM)(o:OpM):(sR p o).1.cards=p.cards:=by grind[sR,Oa,Q8]
def RL(cs:List CardM):∀(n:Nat)(l:List OpM),l.length=n->(AM cs l).cards=uE cs
 |0,l,h=>by
  obtain rfl:=Ae h;rfl
 |n+1,l,h=>by
  obtain⟨a,x,rfl⟩:∃a x,l=a++[x]:=⟨l.dropLast,l.getLast (by rintro rfl;simp at h),(List.dropLast_concat_getLast _).symm⟩
  rw[MS,Xg];exact RL cs n a x_
def Reach.ggood{cs:List CardM}(c:cardsOk cs)(d:CardsG cs){g:GM}(h:Reach cs g):GGood (AM cs g.L):=by have a:=h.good c;apply Hud.ggood a.sim (XM c _ λo b=>⟨a.ok.ops o b,a.ids o b⟩) h;rw[RL cs _ _ rfl];exact d.perm (H4 _ _)
def Reach.kill{cs:List CardM}(a:cardsOk cs){g:GM}(h:Reach cs g)(x y:Id):lA (AM cs g.L) x y=aPJ g x y :=
 aP0 (h.good a).sim (h.good a).n h.rem x y
def bQ:List CardM:=BL [1,2,3,1,2,3]
def rY:cardsOk bQ:=aEd _ d_ d_ d_
def JP:CardsG bQ where
 len:=d_
 nd:=by have:bQ.map (·.Device)=[1,2,3,4,5,6]:=rfl;rw[this];decide
 mem:=λc a=>by have h1:c.Member∈bQ.map (·.Member):=List.mem_map_of_mem (f:=(·.Member)) a;have:bQ.map (·.Member)=[1,2,3,1,2,3]:=rfl;simp_all;omega
 dev:=λc a=>by have h1:c.Device∈bQ.map (·.Device):=List.mem_map_of_mem (f:=(·.Device)) a;have:bQ.map (·.Device)=[1,2,3,4,5,6]:=rfl;simp_all;omega
def lz(k:Nat)(b:Bool)(l:N_):AV:=match b with|true=>.v (.slice none 0 0)|false=>.ls k l
@[go_sem] def aNH(k:Nat)(b:Bool)(l:N_):gF (lz k b l)=[]:=s9
@[go_sem] def aOb(L:V_)(k:Nat)(b:Bool)(l:N_):Bd L (lz k b l)=lz k b l:=s9
@[go_sem] def aTs(L:V_)(n k:Nat)(b:Bool)(l:N_):AR L n (lz k b l)=lz k b l:=s9
@[go_sem] def aOd(i j:Nat)(es:N_)(k:Nat)(b:Bool)(l:N_):CB i j es (lz k b l)=lz k b l:=s9
@[go_sem] def aTc(k:Nat)(b:Bool)(l:N_):gS (lz k b l)=true:=s9
@[go_sem] def aRr(k:Nat)(b:Bool)(l:N_):aX (lz k b l)=true:=s9
abbrev dK:AV:=.v (.slice none 0 0)
def gD(o:OpM)(p b r g x:AV):O_:=[iv o.By,iv o.Seq,iv o.Kind,iv o.At,p,iv o.Device,iv o.Old,iv o.Member,iv o.Role,dK,
 iv o.Epoch.a,iv o.Epoch.b,.v (.int .u64 o.Epoch.c),iv o.N,b,r,iv o.Of.a,iv o.Of.b,.v (.int .u64 o.Of.c),g,
 iv o.Need,iv o.Wait,x,uv o.Pub,dK,uv o.SR,uv o.SS]
section
variable(o:OpM)(p b r g x:AV)
def aNJ:(gD o p b r g x)[0]?=some (iv o.By):=fI rfl rfl
def aNK:(gD o p b r g x)[2]?=some (iv o.Kind):=fI rfl rfl
def aMN:(gD o p b r g x)[19]?=some g:=fI rfl rfl
def aMO:(gD o p b r g x).length=27:=fI rfl rfl
def aMP:((gD o p b r g x).drop 16).take 3=o.Of.A:=fI rfl rfl
def aMQ:(gD o p b r g x).take 27=gD o p b r g x:=fI rfl rfl
def aMR:(gD o p b r g x).drop 27=[]:=fI rfl rfl
def aTd:(gD o p b r g x).drop 0=gD o p b r g x:=fI rfl rfl
attribute [go_sem] aNJ aNK aMN aMO aMP aMQ aMR aTd
@[go_sem] def aMS:iZ (gD o p b r g x)=gF p++(gF b++(gF r++(gF g++gF x))):=by simp[gD,iZ,gF]
def aNM(L:V_):xF L (gD o p b r g x)=gD o (Bd L p) (Bd L b) (Bd L r) (Bd L g) (Bd L x):=fI rfl rfl
def aNN(L:V_)(n:Nat):EJ L n (gD o p b r g x)=gD o (AR L n p) (AR L n b) (AR L n r) (AR L n g) (AR L n x):=fI rfl rfl
def aNO(i k:Nat)(es:N_):IB i k es (gD o p b r g x)=gD o (CB i k es p) (CB i k es b) (CB i k es r) (CB i k es g) (CB i k es x):=fI rfl rfl
attribute [go_sem] aNM aNN aNO
def aEt:(gD o p b r g x).all gS=(gS p&&(gS b&&(gS r&&(gS g&&gS x)))):=by simp[gD,gS]
@[go_sem] def aMT:(gD o p b r g x).all gS=(gS p&&(gS b&&(gS r&&(gS g&&gS x)))):=aEt o p b r g x
def aP5:(gD o p b r g x).all aX=(aX p&&(aX b&&(aX r&&(aX g&&aX x)))):=by simp[gD,aX]
def aRb:(gD o p b r g x).all aX=(aX p&&(aX b&&(aX r&&(aX g&&aX x)))):=aP5 o p b r g x
def aKx(n:Int):iv n::(gD o p b r g x).drop 1=gD {o with By:=n} p b r g x:=fI rfl rfl
def aSW(n:Int):(gD o p b r g x).take 0++[iv n]++(gD o p b r g x).drop 1=gD {o with By:=n} p b r g x:=fI rfl rfl
def aMV(n:Int):(gD o p b r g x).take 1++[iv n]++(gD o p b r g x).drop 2=gD {o with Seq:=n} p b r g x:=fI rfl rfl
def aMW(n:Int):(gD o p b r g x).take 2++[iv n]++(gD o p b r g x).drop 3=gD {o with Kind:=n} p b r g x:=fI rfl rfl
def aMX(n:Int):(gD o p b r g x).take 3++[iv n]++(gD o p b r g x).drop 4=gD {o with At:=n} p b r g x:=fI rfl rfl
def aMY(c:AV):(gD o p b r g x).take 4++[c]++(gD o p b r g x).drop 5=gD o c b r g x:=fI rfl rfl
def aMZ(n:Int):(gD o p b r g x).take 5++[iv n]++(gD o p b r g x).drop 6=gD {o with Device:=n} p b r g x:=fI rfl rfl
def aN0(n:Int):(gD o p b r g x).take 6++[iv n]++(gD o p b r g x).drop 7=gD {o with Old:=n} p b r g x:=fI rfl rfl
def aN1(n:Int):(gD o p b r g x).take 7++[iv n]++(gD o p b r g x).drop 8=gD {o with Member:=n} p b r g x:=fI rfl rfl
def aN2(n:Int):(gD o p b r g x).take 8++[iv n]++(gD o p b r g x).drop 9=gD {o with Role:=n} p b r g x:=fI rfl rfl
def aKy(n m:Int)(c:Int):(gD o p b r g x).take 10++[iv n,iv m,.v (.int .u64 c)]++(gD o p b r g x).drop 13=gD {o with Epoch:=⟨n,m,c⟩} p b r g x:=fI rfl rfl
def aRs(y:Id):(gD o p b r g x).take 10++y.A++(gD o p b r g x).drop 13=gD {o with Epoch:=y} p b r g x:=fI rfl rfl
def aKz(n:Int):(gD o p b r g x).take 13++[iv n]++(gD o p b r g x).drop 14=gD {o with N:=n} p b r g x:=fI rfl rfl
def aKA(c:AV):(gD o p b r g x).take 14++[c]++(gD o p b r g x).drop 15=gD o p c r g x:=fI rfl rfl
def aKB(c:AV):(gD o p b r g x).take 15++[c]++(gD o p b r g x).drop 16=gD o p b c g x:=fI rfl rfl
def aKC(n m:Int)(c:Int):(gD o p b r g x).take 16++[iv n,iv m,.v (.int .u64 c)]++(gD o p b r g x).drop 19=gD {o with Of:=⟨n,m,c⟩} p b r g x:=fI rfl rfl
def aJ8(y:Id):(gD o p b r g x).take 16++y.A++(gD o p b r g x).drop 19=gD {o with Of:=y} p b r g x:=fI rfl rfl
def aKD(c:AV):(gD o p b r g x).take 19++[c]++(gD o p b r g x).drop 20=gD o p b r c x:=fI rfl rfl
def aKE(n:Int):(gD o p b r g x).take 20++[iv n]++(gD o p b r g x).drop 21=gD {o with Need:=n} p b r g x:=fI rfl rfl
def aKF(n:Int):(gD o p b r g x).take 21++[iv n]++(gD o p b r g x).drop 22=gD {o with Wait:=n} p b r g x:=fI rfl rfl
def aKG(c:AV):(gD o p b r g x).take 22++[c]++(gD o p b r g x).drop 23=gD o p b r g c:=fI rfl rfl
def aJ9:(gD o p b r g x).take 23++[.v (.int .u64 5)]++(gD o p b r g x).drop 24=gD {o with Pub:=5} p b r g x:=fI rfl rfl
def aRW(n:Nat):(gD o p b r g x).take 23++[uv n]++(gD o p b r g x).drop 24=gD {o with Pub:=n} p b r g x:=fI rfl rfl
attribute [go_sem] aRb aKx aSW aMV aMW aMX aMY aMZ aN0 aN1 aN2 aKy aRs aKz aKA aKB aKC aJ8 aKD aKE aKF aKG aJ9 aRW
end
section
variable{o:OpM}(h:o.ok)
include h
def OpM.ok.by(n:Int)(a:mZ n):OpM.ok {o with By:=n}:=r_
def OpM.ok.seq(n:Int)(a:mZ n):OpM.ok {o with Seq:=n}:=r_
def OpM.ok.kind(n:Int)(a:mZ n):OpM.ok {o with Kind:=n}:=r_
def OpM.ok.at_(n:Int)(a:mZ n):OpM.ok {o with At:=n}:=r_
def OpM.ok.dev(n:Int)(a:mZ n):OpM.ok {o with Device:=n}:=r_
def OpM.ok.old(n:Int)(a:mZ n):OpM.ok {o with Old:=n}:=r_
def OpM.ok.mem(n:Int)(a:mZ n):OpM.ok {o with Member:=n}:=r_
def OpM.ok.role(n:Int)(a:mZ n):OpM.ok {o with Role:=n}:=r_
def OpM.ok.n_(n:Int)(a:mZ n):OpM.ok {o with N:=n}:=r_
def OpM.ok.need(n:Int)(a:mZ n):OpM.ok {o with Need:=n}:=r_
def OpM.ok.wait(n:Int)(a:mZ n):OpM.ok {o with Wait:=n}:=r_
def OpM.ok.pub(n:Nat)(a:n<2^64):OpM.ok {o with Pub:=n}:=by have b:=h.nums;refine⟨h.ints,?_,h.epoch,h.of,h.past,h.path,h.body,h.refs,h.guards,h.boxes,h.hist⟩;simp_all
def OpM.ok.of_(y:Id)(a:y.ok):OpM.ok {o with Of:=y}:=⟨h.ints,h.nums,h.epoch,a,h.past,h.path,h.body,h.refs,h.guards,h.boxes,h.hist⟩
def OpM.ok.ep(y:Id)(a:y.ok):OpM.ok {o with Epoch:=y}:=⟨h.ints,h.nums,a,h.of,h.past,h.path,h.body,h.refs,h.guards,h.boxes,h.hist⟩
end
def opR(o:OpM)(p:D_)(b r:V_)(g:B_)(x:List BoxM):OpM:={o with Past:=p,Path:=[],Body:=b,Refs:=r,Guards:=g,Boxes:=x,Hist:=[]}
def aEu{o:OpM}(h:o.ok){p:D_}{b r:V_}{g:B_}{x:List BoxM}(h1:p.length<=1000/\∀y∈p,y.ok)(h2:b.length<=1000/\xN b)(h3:r.length<=1000/\∀y∈r,y<2^64)(c:g.length<=1000/\∀y∈g,mZ y)(a:x.length<=1000/\∀y∈x,y.ok):(opR o p b r g x).ok :=
 ⟨h.ints,h.nums,h.epoch,h.of,h1,⟨by simp[opR],by simp[opR]⟩,h2,h3,c,a,⟨by simp[opR],by simp[opR]⟩⟩
def JS(n:Nat)(c:n<=1000):(BO n).length<=1000/\∀y∈BO n,y.ok:=by refine⟨by simp[BO];omega,λy a=>?_⟩;obtain⟨i,b,rfl⟩:=dF.1 a;rw[uM]at b;exact⟨(d_:(1:Nat)<_),(d_:(1:Nat)<_),(o_:i<_),(d_:(1:Nat)<_)⟩
def ZU(z:Int):mZ (z.tmod 3):=by have:(z.tmod 3).natAbs=z.natAbs%3:=Int.natAbs_tmod z 3;constructor<;>omega
def P9{o:OpM}(h:jB o=0):(∀d∈o.Guards,1<=d/\d<=12)/\(o.Kind=9->o.Guards≠[]):=by
 unfold jB at h;split at h;simp at h;split at h;simp at h;split at h;simp at h;rename_i g;have a:fP o=true/\uA o=true:=by cases e:fP o<;>cases i:uA o<;>simp_all
 constructor;intro d f;have h2:=a.2;unfold uA at h2;rw[zJ]at h2;have:=oD.1 h2.1 d f;simpa[yS,oI]using this;intro c b;have h1:=a.1;unfold fP oI at h1;simp[c,b]at h1;omega
def GdR(r:AV)(T:aK):Prop:=∃(a:OpM)(gs:B_)(bs:List BoxM),a.ok/\0<=a.By/\(gs.length<=1000/\∀x∈gs,mZ x)/\(bs.length<=1000/\∀y∈bs,y.ok) /\
 ((r=.ag (gD a dK dK dK (.own 0) (F5 bs))/\T=[some (.arr 1 (gs.map λn=>[iv n]))])\/(r=.ag (gD a dK dK dK dK (F5 bs))/\gs=[]/\T=[])\/(r=.ag (gD a dK dK dK dK dK)/\gs=[]/\bs=[]/\T=[]))
def Xh (g:GM) (M:g.ok) (D:∀o∈g.L,jB o=0) (F:∀x∈g.I,0<=x.a) (N:∀c∈g.Cards,0<=c.Member) (X:D_) (hX:X.length<=maxLen) (o:OpM) (P:o.ok) (Q:0<=o.By) (n:Nat) (hn:n<1000000):
 aA PQ G zW [.ag g.A,ids X,.ag (gD o dK dK dK dK dK),iv n] [] GdR:=by
 apply aC Lk;rw[L9,bC];refine cB (λs=>s=⟨0,[(8,.ptr 2 0),(6,.ptr 1 0),(4,.ptr 0 0),(1,ids X),(3,iv n)],[some (.box g.A),some (.box (gD o dK dK dK dK dK)),some (.box (C4 0))]⟩) ?_ ?_;rfl;rintro s rfl;rw[bC];refine cB (λs=>∃(x:Id)(H:O_),x.ok/\((x=⟨0,0,0⟩/\H=C4 0)\/∃(i:Nat)(h1:i<g.I.length)(h2:i<g.L.length),g.L[i].Kind=9/\x=g.I[i]/\H=g.L[i].A)/\s=⟨0,[(10,.ptr 4 0),(9,.ptr 3 0),(8,.ptr 2 0),(6,.ptr 1 0),(4,.ptr 0 0),(3,iv n)],[some (.box g.A),some (.box (gD o dK dK dK dK dK)),some (.box (C4 0)),some (.box x.A),some (.box H)]⟩) ?_ ?_;simp only[go_sem];apply Jo (PB g M X hX 9);rintro r T' ⟨hr,rfl⟩;rcases hr with⟨i,h1,h2,h,C,rfl⟩|rfl;simp only[go_sem,C4];exact⟨_,_,M.is _ (eQ h1),.inr ⟨i,h1,h2,h,rfl,rfl⟩,rfl⟩;simp only[go_sem,P1,C4];exact⟨⟨0,0,0⟩,_,id0,.inl ⟨rfl,rfl⟩,rfl⟩;rintro s ⟨x,H,hx,w,rfl⟩;rw[bC];refine cB (λs=>∃(f:OpM),f.ok/\0<=f.By/\(f.Kind=9\/∃(i:Nat)(h1:i<g.I.length)(h2:i<g.L.length),g.L[i].Kind=9/\x=g.I[i]/\H=g.L[i].A)/\s=⟨0,[(10,.ptr 4 0),(9,.ptr 3 0),(8,.ptr 2 0),(6,.ptr 1 0),(4,.ptr 0 0),(3,iv n)],[some (.box g.A),some (.box (gD f dK dK dK dK dK)),some (.box (C4 0)),some (.box x.A),some (.box H)]⟩) ?_ ?_;clear D M hX F N;cases h:o.Kind !=9;simp only[go_sem,h,undef];grind;cases T:(x.a==0&&(x.b==0&&x.c==0));simp only[go_sem,h,T,Id.A_def];grind;simp only[go_sem,h,T,Id.A_def];exact⟨_,P.kind 9 ⟨d_,d_⟩,Q,.inl rfl,rfl⟩;clear P Q w;rintro s ⟨f,P,Q,w,rfl⟩;clear o;rw[bC];refine cB (λs=>f.Kind≠9/\s=⟨0,[(10,.ptr 4 0),(9,.ptr 3 0),(8,.ptr 2 0),(6,.ptr 1 0),(4,.ptr 0 0),(3,iv n)],[some (.box g.A),some (.box (gD f dK dK dK dK dK)),some (.box (C4 0)),some (.box x.A),some (.box H)]⟩) ?_ ?_;cases h:f.Kind==9;simp only[go_sem,h];simp_all;clear D M hX w F N;simp only[go_sem,h];refine cO (λm s=>∃(d:Nat)(l:B_)(c:AV)(Y:aK),m=5-d/\1<=d/\d<=5/\l.length<d/\(∀x∈l,mZ x)/\((l=[]/\c=dK/\Y=[some (.box (C4 0))])\/(c=.own 2/\l≠[]/\Y=[some (.box (C4 0)),some (.arr 1 (l.map λn=>[iv n]))]))/\s=⟨0,[(3,iv n),(6,.ptr 0 0),(8,.ptr 1 0),(11,iv d)],some (.box (gD f dK dK dK c dK))::Y⟩) 4 ⟨1,[],_,_,rfl,d_,d_,d_,s_,.inl ⟨rfl,rfl,rfl⟩,m_⟩ ?_;rintro m s ⟨d,l,c,Y,rfl,ao,an,hl,K,hc,rfl⟩;have R:=fQ d o_;have S:¬(d:Int)=0:=o_;have V:IntKind.i64.wrap ((n:Int).tdiv (d:Int))=((n/d:Nat):Int):=by
  have e:(n:Int).tdiv (d:Int)=((n/d:Nat):Int):=rfl;have:n/d<=n:=Ml _ _;generalize n/d=q at *
  rw[e,aJ o_ o_]
 have C:((n/d:Nat):Int).tmod 2=((n/d%2:Nat):Int):=rfl;by_cases h4:d<=4;have c4:decide ((d:Int)<=4)=true:=decide_eq_true o_;have am:mZ (d:Int):=⟨o_,o_⟩
 have ac:1<=maxLen:=d_;cases E:((n/d%2:Nat):Int)==0;rcases hc with⟨rfl,rfl,rfl⟩|⟨rfl,B,rfl⟩
 simp only[go_sem,c4,S,V,C,E,R];exact⟨5-(d+1),o_,d+1,[],_,_,rfl,o_,o_,s_,K,.inl ⟨rfl,rfl,rfl⟩,rfl⟩;simp only[go_sem,c4,S,V,C,E,R];exact⟨5-(d+1),o_,d+1,l,_,_,rfl,o_,o_,o_,K,.inr ⟨rfl,B,rfl⟩,rfl⟩;rcases hc with⟨rfl,rfl,rfl⟩|⟨rfl,B,rfl⟩
 simp only[go_sem,c4,S,V,C,E,R,ac];exact⟨5-(d+1),o_,d+1,[(d:Int)],_,_,rfl,o_,o_,c_,by simpa using am,.inr ⟨rfl,s_,rfl⟩,rfl⟩;simp only[go_sem,c4,S,V,C,E,R,aP,(o_:(l.length+1)*8<=140737488355328),(a_:l.length+1<=maxLen)];rw[(s_:(List.map (λn=>[iv n]) l++[[AV.v (Value.int IntKind.i64 (d:Int))]])=List.map (λn=>[iv n]) (l++[(d:Int)]))];refine⟨5-(d+1),o_,d+1,l++[(d:Int)],_,_,rfl,o_,o_,c_,?_,.inr ⟨rfl,s_,rfl⟩,rfl⟩;grind;obtain rfl:d=5:=o_;have c4:decide (((5:Nat):Int)<=4)=false:=rfl;clear R S V C ao an h4;rcases hc with⟨rfl,rfl,rfl⟩|⟨rfl,B,rfl⟩
 simp only[go_sem];apply cX (JR 2 d_);simp only[go_sem,C4];exact⟨_,[1,2],BO 2,((P.need _ (lH _)).wait _ (ZU _)).pub 5 d_,Q,⟨s_,by simp[mZ]⟩,JS 2 d_,.inl ⟨rfl,rfl⟩⟩;have af:((l.length:Int)==0)=false:=t_;obtain⟨k,au,ar,ek⟩:∃k:Nat,1<=k/\k<=2/\(if(l.length:Int)<2 then(l.length:Int) else 2)=(k:Int):=⟨min 2 l.length,by have:=H3.2 B;omega,o_,sm⟩
 have ai:((k:Int)=0)=False:=c_;simp only[go_sem,aP,af,ek,ai];apply cX (JR l.length o_);simp only[go_sem,C4];exact⟨_,l,BO l.length,((P.need _ (lH _)).wait _ (ZU _)).pub 5 d_,Q,⟨o_,K⟩,JS _ o_,.inl ⟨rfl,rfl⟩⟩;rintro s ⟨ah,rfl⟩;obtain⟨i,h1,h2,Z,rfl,rfl⟩:=w.resolve_left ah;have O:=P9 (D _ (eQ h2));have aj:=O.2 Z;have al:=O.1;have ad:=F _ (eQ h1);have ae:=M.ops _ (eQ h2);generalize g.I[i]=x at *
 generalize g.L[i]=q at *
 clear D F w O Z h1 h2 i X hX;have J:mZ (aOZ g.Cards x.a)/\0<=aOZ g.Cards x.a:=by
  have ap:=M.cs;unfold aOZ gM
  cases e:g.Cards.find? (λc=>c.Device==x.a) with
  |none=>simp;exact⟨d_,d_⟩|some c=>
   have C:=Mg e;exact⟨(ap c C).2.1,N c C⟩
 have z:=XP (G:=G) g x.a M;generalize aOZ g.Cards x.a=mm at *
 have ak:0<q.Guards.length:=H3.2 aj;have ab:q.Guards.length<=1000:=ae.guards.1;have W:n%q.Guards.length<q.Guards.length:=zM _ ak;have em:(n:Int).tmod (q.Guards.length:Int)=((n%q.Guards.length:Nat):Int):=rfl;have aa:((q.Guards.length:Int)=0)=False:=c_;have gq:(q.Guards.map λn=>[iv n])[n%q.Guards.length]?=some [iv q.Guards[n%q.Guards.length]]:=aO _ _ _ W;have aq:=al _ (eQ W);generalize av:q.Guards[n%q.Guards.length]=gd at *
 have U:mZ gd:=⟨o_,o_⟩
 have y:=P.of_ x hx;rcases(o_:f.Kind=10\/f.Kind=11\/f.Kind=12\/f.Kind=13\/(f.Kind≠10/\f.Kind≠11/\f.Kind≠12/\f.Kind≠13)) with h|h|h|h|h;have u:(f.Kind==10)=true:=oy;have t:(f.Kind==11)=false:=oy;have p:(f.Kind==12)=false:=oy;have j:(f.Kind==13)=false:=oy;simp only[go_sem,Id.A_def];apply cX z;simp only[go_sem,u,undef,aP];apply cX (JR q.Guards.length ab);simp only[go_sem,t,p,j,undef,C4];exact⟨_,[],BO q.Guards.length,y.by _ hx.1,ad,⟨s_,s_⟩,JS _ ab,.inr (.inl ⟨rfl,rfl,rfl⟩)⟩;have u:(f.Kind==10)=false:=oy;have t:(f.Kind==11)=true:=oy;have p:(f.Kind==12)=false:=oy;have j:(f.Kind==13)=false:=oy;simp only[go_sem,Id.A_def];apply cX z;simp only[go_sem,u,t,undef,aP,em,aa,gq];apply cX (JR 1 d_);simp only[go_sem,p,j,undef,C4];exact⟨_,[],BO 1,(y.by _ U).dev _ (lH _),by show 0<=gd;omega,⟨s_,s_⟩,JS _ d_,.inr (.inl ⟨rfl,rfl,rfl⟩)⟩;have u:(f.Kind==10)=false:=oy;have t:(f.Kind==11)=false:=oy;have p:(f.Kind==12)=true:=oy;have j:(f.Kind==13)=false:=oy;simp only[go_sem,Id.A_def];apply cX z;simp only[go_sem,u,t,p,j,undef];exact⟨_,[],[],y.by _ J.1,J.2,⟨s_,s_⟩,⟨s_,s_⟩,.inr (.inr ⟨rfl,rfl,rfl,rfl⟩)⟩;have u:(f.Kind==10)=false:=oy;have t:(f.Kind==11)=false:=oy;have p:(f.Kind==12)=false:=oy;have j:(f.Kind==13)=true:=oy;simp only[go_sem,Id.A_def];apply cX z;simp only[go_sem,u,t,p,j,undef,aP,em,aa,gq];exact⟨_,[],[],((y.by _ U).dev _ (lH _)).old _ J.1,by show 0<=gd;omega,⟨s_,s_⟩,⟨s_,s_⟩,.inr (.inr ⟨rfl,rfl,rfl,rfl⟩)⟩;have u:(f.Kind==10)=false:=by simpa using h.1
 have t:(f.Kind==11)=false:=by simpa using h.2.1
 have p:(f.Kind==12)=false:=by simpa using h.2.2.1
 have j:(f.Kind==13)=false:=by simpa using h.2.2.2
 simp only[go_sem,Id.A_def];apply cX z;simp only[go_sem,u,t,p,j,undef];exact⟨_,[],[],y,Q,⟨s_,s_⟩,⟨s_,s_⟩,.inr (.inr ⟨rfl,rfl,rfl,rfl⟩)⟩
def Ma{k:Nat}(l:N_)(h:zF l l=true):fH (.ls k l) (.ls k l)=true:=by simp[fH,h]
def VS(l:B_):fH (rG l) (rG l)=true:=by
 apply Ma _
 induction l with
 |nil=>rfl|cons x l ih=>simp only[fG,zF,pL,fH,O9,beq_self_eq_true,yH,ih]
def PD(l:List BoxM):fH (F5 l) (F5 l)=true:=by
 apply Ma _
 induction l with
 |nil=>rfl|cons x l ih=>simp only[fG,zF,BoxM.A,pL,fH,O9,beq_self_eq_true,yH,ih]
def S6(k:Nat):fH dK (.ls k [])=true:=rfl
def S7:fH dK dK=true:=rfl
def aEv{o:OpM}{p b r g x p' e c d a:AV}(i:fH p p'=true)(k:fH b e=true)(h:fH r c=true)(j:fH g d=true)(f:fH x a=true):fH (.ag (gD o p b r g x)) (.ag (gD o p' e c d a))=true:=by simp_all[gD,fH,pL,O9]
def aBg(g:GM)(l:g.ok)(h:∀o∈g.L,jB o=0)(i:∀x∈g.I,0<=x.a)(f:∀c∈g.Cards,0<=c.Member)(X:D_)(q:X.length<=maxLen)(o:OpM)(j:o.ok)(m:0<=o.By)(n:Nat)(k:n<1000000):
 aA PQ G zW [.ag g.A,ids X,.ag (gD o dK dK dK dK dK),iv n] [] λr T=>(∃(b:OpM)(gs:B_)(bs:List BoxM),b.ok/\0<=b.By/\(gs.length<=1000/\∀x∈gs,mZ x)/\(bs.length<=1000/\∀y∈bs,y.ok)/\r=.ag (gD b dK dK dK (rG gs) (F5 bs)))/\T=[]:=by
 refine aA.dsub (p:=λr T=>(∃(b:OpM)(gs:B_)(bs:List BoxM)(c d:AV),b.ok/\0<=b.By/\(gs.length<=1000/\∀x∈gs,mZ x)/\(bs.length<=1000/\∀y∈bs,y.ok)/\fH c (rG gs)=true/\fH d (F5 bs)=true/\r=.ag (gD b dK dK dK c d))/\T=[]) ((Xh g l h i f X q o j m n k).fin [0] ?_) ?_;rintro r u ⟨b,gs,bs,h1,h2,h3,e,⟨rfl,rfl⟩|⟨rfl,rfl,rfl⟩|⟨rfl,rfl,rfl,rfl⟩⟩;simp only[go_sem,gQ];exact⟨b,gs,bs,_,_,h1,h2,h3,e,VS _,PD _,rfl⟩;simp only[go_sem,gQ,List.getElem?_nil];exact⟨b,[],bs,_,_,h1,h2,h3,e,S6 _,PD _,rfl⟩;simp only[go_sem,gQ,List.getElem?_nil];exact⟨b,[],[],_,_,h1,h2,h3,e,S6 _,S6 _,rfl⟩;rintro r u ⟨⟨b,gs,bs,c,d,h1,h2,h3,e,t,s,rfl⟩,rfl⟩;exact⟨_,aEv S7 S7 S7 t s,⟨b,gs,bs,h1,h2,h3,e,rfl⟩,rfl⟩
def PE(l:V_)(k:IntKind):fH (.ls 1 (l.map λn:Nat=>[.v (.int k (n:Int))])) (.ls 1 (l.map λn:Nat=>[.v (.int k (n:Int))]))=true:=by
 apply Ma _
 induction l with
 |nil=>rfl|cons x l ih=>simp only[fG,zF,pL,fH,O9,beq_self_eq_true,yH,ih]
def RR(l:D_):fH (ids l) (ids l)=true:=Ma _ (VQ l)
structure RowsOk(b r g x:AV)(B R:List Nat)(Gs:List Int)(X:List BoxM):Prop where
 b1:B.length<=1000/\xN B
 b2:fH b (.ls 1 (bl B))=true
 r1:R.length<=1000/\∀y∈R,y<2^64
 r2:fH r (.ls 1 (ul R))=true
 g1:Gs.length<=1000/\∀y∈Gs,mZ y
 g2:fH g (rG Gs)=true
 x1:X.length<=1000/\∀y∈X,y.ok
 x2:fH x (F5 X)=true
def VT(z:Int):mZ (z.tmod 2):=by have:(z.tmod 2).natAbs=z.natAbs%2:=Int.natAbs_tmod z 2;constructor<;>omega
def VU{w:Nat}(h:w<256):[w,1,2,3,4,5,6,7,8].length<=1000/\xN [w,1,2,3,4,5,6,7,8]:=by refine⟨s_,λx a=>?_⟩;simp_all;omega
def K7{I g:D_}:∀(l out:D_),out.Nodup->(l.foldl (uD I g) out).Nodup|[],_,h=>h| y::l,out,h=>K7 l _ (by
   unfold uD;split;rename_i c;simp only[zJ,decide_eq_true_eq,EX,decide_eq_false_iff_not]at c;rw[vQ];refine⟨h,s_,?_⟩;intro a f b d e;rw[cA.1 d]at e;exact c.2.2 (e ▸ f)
   exact h)
def K8{g:GM}(a:g.ok)(X:D_):(yV g X).length<=1000:=by have h1:(yV g X).Nodup:=(dQ _).nodup_iff.2 (K7 X [] s_);have:=List.Nodup.length_le_of_subset h1 (KF (g:=g) X);have:=a.i;have:=a.n;omega
def ZV(X:D_)(d:Int)(h:∀x∈X,x.b<=2147483647):mZ (Sx X d):=by have a:=XH d X 0;have b:=XI d 2147483647 X 0 d_ h;unfold Sx;exact⟨o_,o_⟩
def rZ:([]:V_).length<=1000/\∀y∈([]:V_),y<2^64:=⟨s_,s_⟩
def tS:([]:B_).length<=1000/\∀y∈([]:B_),mZ y:=⟨s_,s_⟩
def tT:([]:List BoxM).length<=1000/\∀y∈([]:List BoxM),y.ok:=⟨s_,s_⟩
def VV:RowsOk dK dK dK dK [] [] [] []:=⟨xC,rfl,rZ,rfl,tS,rfl,tT,rfl⟩
def VW{o:OpM}{p b r g x:AV}{P:D_}{B R:V_}{a:B_}{X:List BoxM}(c:fH p (ids P)=true)(h:RowsOk b r g x B R a X):fH (.ag (gD o p b r g x)) (.ag (opR o P B R a X).A)=true:=by simp only[gD,opR,OpM.A_def,uP,fH,pL,O9,c,h.b2,h.r2,h.g2,h.x2,beq_self_eq_true,yH]
def G3(b sq k d rl nd:Int):OpM:=⟨b,sq,k,0,[],d,0,0,rl,[],⟨0,0,0⟩,0,[],[],⟨0,0,0⟩,[],nd,0,[],0,[],0,0⟩
def Hs{b sq k d rl nd:Int}(h1:mZ b)(h2:mZ sq)(h3:mZ k)(e:mZ d)(c:mZ rl)(a:mZ nd):(G3 b sq k d rl nd).ok:=by
 have z:mZ 0:=⟨d_,d_⟩
 refine⟨?_,?_,id0,id0,⟨an,an⟩,aGb,xC,⟨an,an⟩,⟨an,an⟩,⟨an,an⟩,⟨an,an⟩⟩;simp_all[G3,cS,pP];grind[G3]
def aP6(g:GM)(n:Int)(P:D_):Prop:=∃X,VX g (aON ((pX n 1000000).toNat/5)) X/\P=yV g X
def NxR(e:GM)(n:Int)(r:AV)(T:aK):Prop:=∃(o:OpM)(P:D_)(d:Bool)(b a g x:AV)(B R:V_)(c:B_)(X:List BoxM),o.ok/\0<=o.By/\(P.length<=1000/\∀y∈P,y.ok)/\(d=true->P=[])/\(B.length<=1000/\xN B)/\(R.length<=1000/\∀y∈R,y<2^64)/\(c.length<=1000/\∀y∈c,mZ y)/\(X.length<=1000/\∀y∈X,y.ok) /\
 ((b=dK/\a=dK/\g=rG c/\x=F5 X/\B=[]/\R=[]/\T=[])\/(g=dK/\x=dK/\c=[]/\X=[]/\((b=dK/\a=dK/\B=[]/\R=[]/\T=[])\/(b=.own 0/\a=dK/\R=[]/\T=[some (.arr 1 (bl B))])\/(b=.own 0/\a=.own 1/\T=[some (.arr 1 (bl B)),some (.arr 1 (ul R))]))))/\aP6 e n P/\r=.ag (gD o (lz 3 d (P.map Id.A)) b a g x)
def JT{a:Bool}{P:D_}(h:a=true->P=[]):fH (lz 3 a (P.map Id.A)) (ids P)=true:=by cases a;exact RR P;rw[h rfl];rfl
def SwR(g:GM)(h:O_)(f:Nat)(s:St):Prop:=∃(o:OpM)(X:D_)(b a e x:AV)(B R:V_)(d:B_)(c:List BoxM)(y:Id)(Y:aK),o.ok/\0<=o.By/\VX g (aON (f/5)) X/\X.length<=2000/\(B.length<=1000/\xN B)/\(R.length<=1000/\∀y∈R,y<2^64)/\(d.length<=1000/\∀y∈d,mZ y)/\(c.length<=1000/\∀y∈c,y.ok) /\
 ((b=dK/\a=dK/\e=rG d/\x=F5 c/\B=[]/\R=[]/\Y=[])\/(e=dK/\x=dK/\d=[]/\c=[]/\((b=dK/\a=dK/\B=[]/\R=[]/\Y=[])\/(b=.own 5/\a=dK/\R=[]/\Y=[some (.arr 1 (bl B))])\/(b=.own 5/\a=.own 6/\Y=[some (.arr 1 (bl B)),some (.arr 1 (ul R))])))) /\
 s=⟨0,[(9,ids X),(7,.ptr 2 0),(1,iv f),(6,.ptr 1 0),(3,.ptr 0 0)],[some (.box g.A),some (.box (C4 0)),some (.box (gD o dK b a e x)),some (.box y.A),some (.box h)]++Y⟩
def sw0{g:GM}{b:O_}{a:Nat}{o:OpM}{X:D_}{y:Id}{s:St}(h1:o.ok)(h2:0<=o.By)(h3:VX g (aON (a/5)) X)(d:X.length<=2000)(c:s=⟨0,[(9,ids X),(7,.ptr 2 0),(1,iv a),(6,.ptr 1 0),(3,.ptr 0 0)],[some (.box g.A),some (.box (C4 0)),some (.box (gD o dK dK dK dK dK)),some (.box y.A),some (.box b)]⟩):SwR g b a s :=
 ⟨o,X,_,_,_,_,[],[],[],[],y,[],h1,h2,h3,d,xC,rZ,tS,tT,.inr ⟨rfl,rfl,rfl,rfl,.inl ⟨rfl,rfl,rfl,rfl,rfl⟩⟩,c⟩
def aBh (g:GM) (C:g.ok) (S:∀o∈g.L,jB o=0) (hs:∀x∈g.I,x.b<=2147483647) (U:∀x∈g.I,0<=x.a) (Q:∀c∈g.Cards,0<=c.Member) (Z:g.L.length<=200) (n m:Int) (hn:mZ n) (hm:mZ m):
 aA PQ G Al [.ag g.A,iv n,iv m] [] (NxR g n):=by
 obtain⟨j,bm,e1⟩:∃k:Nat,k<1000000/\pX n 1000000=(k:Int):=⟨(pX n 1000000).toNat,by have:=BJ n 1000000 (by decide);omega,by have:=BJ n 1000000 (by decide);omega⟩
 obtain⟨E,bk,e2⟩:∃k:Nat,k<1000000/\pX m 1000000=(k:Int):=⟨(pX m 1000000).toNat,by have:=BJ m 1000000 (by decide);omega,by have:=BJ m 1000000 (by decide);omega⟩
 have O:=Dl (G:=G) n 1000000 hn.1 hn.2 (by decide) (by decide);have N:=Dl (G:=G) m 1000000 hm.1 hm.2 (by decide) (by decide);rw[e1]at O;have az:(g.L.length:Int)=0->aP6 g n []:=λh=>⟨[],⟨by simp,λ_ x u=>by rw[Ae (show g.I.length=0 by rw[C.i];omega)]at u;exact u⟩,rfl⟩
 rw[e2]at N;refine aC P3 ?_;rw[L9,bC];refine cB (λs=>s=⟨0,[(6,.ptr 1 0),(3,.ptr 0 0),(1,iv n),(2,iv m)],[some (.box g.A),some (.box (C4 0))]⟩) ?_ ?_;rfl;rintro s rfl;rw[bC];refine cB (λs=>s=⟨0,[(1,iv j),(6,.ptr 1 0),(3,.ptr 0 0),(2,iv m)],[some (.box g.A),some (.box (C4 0))]⟩) ?_ ?_;simp only[go_sem];refine cX O ?_;simp only[go_sem];rintro s rfl;rw[bC];refine cB (λs=>s=⟨0,[(2,iv E),(1,iv j),(6,.ptr 1 0),(3,.ptr 0 0)],[some (.box g.A),some (.box (C4 0))]⟩) ?_ ?_;simp only[go_sem];refine cX N ?_;simp only[go_sem];rintro s rfl;have z0:mZ 0:=⟨by decide,by decide⟩
 have ai:(j:Int).tmod 4=((j%4:Nat):Int):=rfl;have aw:IntKind.i64.wrap (1+(j:Int).tmod 5)=((1+j%5:Nat):Int):=by have e:(j:Int).tmod 5=((j%5:Nat):Int):=rfl;rw[e,aJ (by omega) (by omega)];omega
 rw[bC];refine cB (λs=>∃o:OpM,o.ok/\0<=o.By/\s=⟨0,[(7,.ptr 2 0),(2,iv E),(1,iv j),(6,.ptr 1 0),(3,.ptr 0 0)],[some (.box g.A),some (.box (C4 0)),some (.box (gD o dK dK dK dK dK))]⟩) ?_ ?_;simp only[go_sem];refine cX (aEq E (by omega)) ?_;simp only[go_sem,aw];exact⟨G3 ((1+j%5:Nat):Int) 0 (RQ E) 0 0 0,Hs ⟨by omega,by omega⟩ z0 (aEr _) z0 z0 z0,by show(0:Int)<=((1+j%5:Nat):Int);omega,rfl⟩;rintro s ⟨o,F,D,rfl⟩;rw[bC];refine cB (λs=>s=⟨0,[(8,iv g.L.length),(7,.ptr 2 0),(2,iv E),(1,iv j),(6,.ptr 1 0),(3,.ptr 0 0)],[some (.box g.A),some (.box (C4 0)),some (.box (gD o dK dK dK dK dK))]⟩) ?_ ?_;simp only[go_sem,aP];rintro s rfl;rw[bC];refine cB (λs=>g.L.length≠0/\s=⟨0,[(8,iv g.L.length),(7,.ptr 2 0),(2,iv E),(1,iv j),(6,.ptr 1 0),(3,.ptr 0 0)],[some (.box g.A),some (.box (C4 0)),some (.box (gD o dK dK dK dK dK))]⟩) ?_ ?_;clear S C U Q hs O N;simp only[go_sem];refine aL (λh=>?_) (λh=>?_);simp only[go_sem,C4,ai];exact⟨G3 1 1 1 0 0 ((j%4:Nat):Int),[],true,_,_,_,_,[],[],[],[],Hs ⟨by decide,by decide⟩ ⟨by decide,by decide⟩ ⟨by decide,by decide⟩ z0 z0 ⟨by omega,by omega⟩,by show(0:Int)<=1;decide,⟨by simp,by simp⟩,λ_=>rfl,xC,rZ,tS,tT,.inr ⟨rfl,rfl,rfl,rfl,.inl ⟨rfl,rfl,rfl,rfl,rfl⟩⟩,az (by simpa using h),rfl⟩;simp only[go_sem];simp_all;rintro s ⟨bn,rfl⟩;rw[bC];refine cB (λs=>∃o:OpM,o.ok/\0<=o.By/\s=⟨0,[(8,iv g.L.length),(7,.ptr 2 0),(2,iv E),(1,iv j),(6,.ptr 1 0),(3,.ptr 0 0)],[some (.box g.A),some (.box (C4 0)),some (.box (gD o dK dK dK dK dK))]⟩) ?_ ?_;clear S C U Q hs O N;simp only[go_sem];refine aL (λh=>?_) (λh=>?_);simp only[go_sem];exact⟨G3 1 0 2 (IntKind.i64.wrap ((g.L.length:Int)+1)) (IntKind.i64.wrap (3-IntKind.i64.wrap (((j:Int).tmod 5).tdiv 4))) 0,Hs ⟨by decide,by decide⟩ z0 ⟨by decide,by decide⟩ (lH _) (lH _) z0,by show(0:Int)<=1;decide,rfl⟩;simp only[go_sem];grind;clear F D;rintro s ⟨f,F,D,rfl⟩;clear o;have ah:IntKind.i64.wrap ((j:Int).tdiv 5)=((j/5:Nat):Int):=by rw[show(j:Int).tdiv 5=((j/5:Nat):Int) from rfl,aJ (by omega) (by omega)]
 have aa:=λd=>aEs (G:=G) g C Z d (j/5) (by omega) (by omega);rw[bC];refine cB (λs=>∃X:D_,VX g (aON (j/5)) X/\X.length<=2000/\s=⟨0,[(9,ids X),(8,iv g.L.length),(7,.ptr 2 0),(2,iv E),(1,iv j),(6,.ptr 1 0),(3,.ptr 0 0)],[some (.box g.A),some (.box (C4 0)),some (.box (gD f dK dK dK dK dK))]⟩) ?_ ?_;simp only[go_sem,ah];refine Jo (aa f.By) ?_;rintro r T' ⟨⟨X,rfl,h1,h2⟩,rfl⟩;simp only[go_sem];grind;rintro s ⟨X,p,l,rfl⟩;rw[bC];refine cB (λs=>∃X:D_,VX g (aON (j/5)) X/\X.length<=2000/\s=⟨0,[(9,ids X),(8,iv g.L.length),(7,.ptr 2 0),(2,iv E),(1,iv j),(6,.ptr 1 0),(3,.ptr 0 0)],[some (.box g.A),some (.box (C4 0)),some (.box (gD f dK dK dK dK dK))]⟩) ?_ ?_;simp only[go_sem];refine aL (λh=>?_) (λh=>?_);simp only[go_sem];refine cX (JG g C) ?_;simp only[go_sem];exact⟨_,⟨λx u=>(dQ _).mem_iff.1 u,λ_ x u=>(dQ _).mem_iff.2 u⟩,by rw[(dQ _).length_eq,C.i];omega,rfl⟩;simp only[go_sem];grind;clear p l;rintro s ⟨t,p,l,rfl⟩;clear X;have ab:t.length<=maxLen:=by unfold maxLen;omega
 rw[bC];refine cB (λs=>∃(x:Id)(oc:O_),x.ok/\s=⟨0,[(10,.ptr 3 0),(9,ids t),(8,iv g.L.length),(7,.ptr 2 0),(2,iv E),(1,iv j),(6,.ptr 1 0),(3,.ptr 0 0)],[some (.box g.A),some (.box (C4 0)),some (.box (gD f dK dK dK dK dK)),some (.box x.A),some (.box oc)]⟩) ?_ ?_;simp only[go_sem];refine Jo (PB g C t ab 6) ?_;rintro r T' ⟨hr,rfl⟩;rcases hr with⟨i,h1,h2,v,hm,rfl⟩|rfl;simp only[go_sem];exact⟨_,_,C.is _ (eQ h1),rfl⟩;simp only[go_sem,P1];exact⟨⟨0,0,0⟩,_,id0,rfl⟩;rintro s ⟨x,oc,u,rfl⟩;rw[bC];refine cB (λs=>∃(x:Id),x.ok/\s=⟨0,[(10,.ptr 3 0),(9,ids t),(8,iv g.L.length),(7,.ptr 2 0),(2,iv E),(1,iv j),(6,.ptr 1 0),(3,.ptr 0 0)],[some (.box g.A),some (.box (C4 0)),some (.box (gD f dK dK dK dK dK)),some (.box x.A),some (.box oc)]⟩) ?_ ?_;have ac:0<g.I.length:=by rw[C.i];omega
 have g0:(g.I.map Id.A)[0]?=some g.I[0].A:=aO _ g.I 0 ac;have h0:=C.is _ (eQ ac);simp only[go_sem,Id.A_def]at g0⊢;refine aL (λh=>?_) (λh=>?_);simp only[go_sem,g0,Id.A_def];grind;simp only[go_sem];exact⟨x,u,rfl⟩;clear u;rintro s ⟨K,u,rfl⟩;clear x;rw[bC];refine cB (λs=>s=⟨0,[(12,iv ((E/20:Nat):Int)),(10,.ptr 3 0),(9,ids t),(8,iv g.L.length),(7,.ptr 2 0),(1,iv j),(6,.ptr 1 0),(3,.ptr 0 0)],[some (.box g.A),some (.box (C4 0)),some (.box (gD f dK dK dK dK dK)),some (.box K.A),some (.box oc)]⟩) ?_ ?_;have av:IntKind.i64.wrap ((E:Int).tdiv 20)=((E/20:Nat):Int):=by rw[show(E:Int).tdiv 20=((E/20:Nat):Int) from rfl,aJ (by omega) (by omega)]
 simp only[go_sem,av];rintro s rfl;have au:E/20<1000000:=by omega
 generalize E/20=k at *
 have q3:(k:Int).tmod 3=((k%3:Nat):Int):=rfl;have q6:(k:Int).tmod 6=((k%6:Nat):Int):=rfl;have q5:(k:Int).tmod 5=((k%5:Nat):Int):=rfl;rw[bC];refine cB (SwR g oc j) ?_ ?_
 ·rcases(show f.Kind=2\/f.Kind=3\/f.Kind=5\/f.Kind=6\/f.Kind=7\/f.Kind=8\/(f.Kind=9\/f.Kind=10\/f.Kind=11\/f.Kind=12\/f.Kind=13)\/(f.Kind≠2/\f.Kind≠3/\f.Kind≠5/\f.Kind≠6/\f.Kind≠7/\f.Kind≠8/\f.Kind≠9/\f.Kind≠10/\f.Kind≠11/\f.Kind≠12/\f.Kind≠13) by omega) with v|v|v|v|v|v|v|v;simp only[go_sem,v,ge_iff_le];refine aL (λh=>?_) (λh=>?_);simp only[go_sem];exact sw0 (y:=K) ((F.dev _ (lH _)).role _ (lH _)) D p l rfl;simp only[go_sem];exact sw0 (y:=K) F D p l rfl;simp only[go_sem,v];refine aL (λh=>?_) (λh=>?_);simp only[go_sem];exact sw0 (y:=K) (((F.kind 3 ⟨by decide,by decide⟩).dev 0 z0).mem _ (lH _)) D p l rfl;simp only[go_sem];exact sw0 (y:=K) ((F.kind 3 ⟨by decide,by decide⟩).dev _ (lH _)) D p l rfl;simp only[go_sem,v];exact sw0 (y:=K) (((F.kind 5 ⟨by decide,by decide⟩).mem _ (lH _)).role _ (lH _)) D p l rfl;have ac:0<g.I.length:=by rw[C.i];omega
  obtain⟨q,bj,aq,eq⟩:∃q:Nat,1<=q/\q<=g.I.length/\(if 4<(g.I.length:Int) then 4 else(g.I.length:Int))=(q:Int):=⟨min g.I.length 4,by omega,by omega,by split<;>omega⟩
  have ar:((q:Int)=0)=False:=by simp;omega
  have ap:(k:Int).tmod (q:Int)=((k%q:Nat):Int):=rfl;have ae:k%q<g.I.length:=CV (zM _ (by omega)) aq;have gq:(g.I.map Id.A)[k%q]?=some g.I[k%q].A:=aO _ g.I _ ae;have af:=C.is _ (eQ ae);generalize g.I[k%q]=z at *
  obtain⟨w1,ad,bi⟩:=aKv (k:Int);obtain⟨w2,ao,bh⟩:=aHd ((IntKind.i64.wrap ((k:Int).tdiv 3)).tmod 5);obtain⟨w3,an,bg⟩:=aHd ((IntKind.i64.wrap ((k:Int).tdiv 15)).tmod 5);simp only[go_sem,v,eq,ar,ap,gq,aP,Id.A_def,bi];refine aL (λh=>?_) (λh=>?_);simp only[go_sem,bh,bg];exact⟨_,t,_,_,_,_,[w1,1,2,3,4,5,6,7,8],[w2,w3],[],[],K,_,((F.kind 6 ⟨by decide,by decide⟩).ep z af).n_ _ (VT _),D,p,l,VU ad,⟨by simp,by simp;exact⟨ao,an⟩⟩,tS,tT,.inr ⟨rfl,rfl,rfl,rfl,.inr (.inr ⟨rfl,rfl,rfl⟩)⟩,rfl⟩;simp only[go_sem];exact⟨_,t,_,_,_,_,[w1,1,2,3,4,5,6,7,8],[],[],[],K,_,((F.kind 6 ⟨by decide,by decide⟩).ep z af).n_ _ (VT _),D,p,l,VU ad,rZ,tS,tT,.inr ⟨rfl,rfl,rfl,rfl,.inr (.inl ⟨rfl,rfl,rfl,rfl⟩)⟩,rfl⟩;obtain⟨w,hw,ew⟩:=aKv (IntKind.i64.wrap (97+(k:Int).tmod 3));simp only[go_sem,v,ew];exact⟨_,t,_,_,_,_,[w],[],[],[],K,_,(F.kind 7 ⟨by decide,by decide⟩).of_ _ u,D,p,l,aGc hw,rZ,tS,tT,.inr ⟨rfl,rfl,rfl,rfl,.inr (.inl ⟨rfl,rfl,rfl,rfl⟩)⟩,rfl⟩;simp only[go_sem,v];exact sw0 (y:=K) ((F.kind 8 ⟨by decide,by decide⟩).of_ _ u) D p l rfl
  ·rcases v with v|v|v|v|v
   all_goals (
    simp only[go_sem,v]
    refine Jo (aBg g C S U Q t ab f F D k au) ?_
    rintro r T' ⟨⟨o2,gs,bs,h1,h2,h3,h4,rfl⟩,rfl⟩
    simp only[go_sem]
    refine aL (λh=>?_) (λh=>?_)
    simp only[go_sem,ah]
    refine Jo (aa o2.By) ?_
    rintro r T' ⟨⟨X,rfl,h5,h6⟩,rfl⟩
    simp only[go_sem]
    exact⟨o2,X,_,_,_,_,[],[],gs,bs,K,[],h1,h2,h5,h6,xC,rZ,h3,h4,.inl ⟨rfl,rfl,rfl,rfl,rfl,rfl,rfl⟩,rfl⟩
    simp only[go_sem]
    exact⟨o2,t,_,_,_,_,[],[],gs,bs,K,[],h1,h2,p,l,xC,rZ,h3,h4,.inl ⟨rfl,rfl,rfl,rfl,rfl,rfl,rfl⟩,rfl⟩)
  obtain⟨n2,n3,n5,n6,n7,n8,n9,am,al,ak,aj⟩:=v;have f2:(f.Kind==2)=false:=by simpa using n2
  have f3:(f.Kind==3)=false:=by simpa using n3
  have f5:(f.Kind==5)=false:=by simpa using n5
  have f6:(f.Kind==6)=false:=by simpa using n6
  have f7:(f.Kind==7)=false:=by simpa using n7
  have f8:(f.Kind==8)=false:=by simpa using n8
  have f9:(f.Kind==9)=false:=by simpa using n9
  have bf:(f.Kind==10)=false:=by simpa using am
  have be:(f.Kind==11)=false:=by simpa using al
  have bd:(f.Kind==12)=false:=by simpa using ak
  have bc:(f.Kind==13)=false:=by simpa using aj
  simp only[go_sem,f2,f3,f5,f6,f7,f8,f9,bf,be,bd,bc];exact sw0 (y:=K) F D p l rfl
 clear F D p l ab u;rintro s ⟨o,X,b,r',g',x,B,R,Gs,Xs,y,Y,F,D,W,M,hB,hR,bb,ax,J,rfl⟩;clear f t K;rw[bC];refine cB (λs=>∃X:D_,VX g (aON (j/5)) X/\X.length<=2000/\s=⟨0,[(9,ids X),(7,.ptr 2 0),(1,iv j),(6,.ptr 1 0),(3,.ptr 0 0)],[some (.box g.A),some (.box (C4 0)),some (.box (gD o dK b r' g' x)),some (.box y.A),some (.box oc)]++Y⟩) ?_ ?_
 ·have hh:=uJ (G:=G) X o.Of (by unfold maxLen;omega);cases hz:(o.Of.a==0&&(o.Of.b==0&&o.Of.c==0))
  ·rcases J with⟨rfl,rfl,rfl,rfl,rfl,rfl,rfl⟩|⟨rfl,rfl,rfl,rfl,⟨rfl,rfl,rfl,rfl,rfl⟩|⟨rfl,rfl,rfl,rfl⟩|⟨rfl,rfl,rfl⟩⟩
   all_goals (
    simp only[go_sem,hz]
    refine cX hh ?_
    simp only[go_sem]
    refine aL (λh=>?_) (λh=>?_)
    simp only[go_sem]
    refine cX (JG g C) ?_
    simp only[go_sem]
    exact⟨_,⟨λx u=>(dQ _).mem_iff.1 u,λ_ x u=>(dQ _).mem_iff.2 u⟩,by rw[(dQ _).length_eq,C.i];omega,rfl⟩
    simp only[go_sem]
    exact⟨X,W,M,rfl⟩)
  ·rcases J with⟨rfl,rfl,rfl,rfl,rfl,rfl,rfl⟩|⟨rfl,rfl,rfl,rfl,⟨rfl,rfl,rfl,rfl,rfl⟩|⟨rfl,rfl,rfl,rfl⟩|⟨rfl,rfl,rfl⟩⟩
   all_goals (
    simp only[go_sem,hz,undef]
    exact⟨X,W,M,rfl⟩)
 clear W M;rintro s ⟨t,W,M,rfl⟩;clear X;have hH:=U9 (G:=G) g t C (by omega);have hS:=aH7 (G:=G) g t o.By (by omega) (λx u=>by have:=hs x (W.1 x u);omega);have ba:=aDT (G:=G) g t C (by omega);have V:(yV g t).length<=1000/\∀y∈yV g t,y.ok:=⟨K8 C t,λx u=>C.is x (KF t x u)⟩
 have ay:mZ (Sx t o.By):=ZV t o.By λx u=>hs x (W.1 x u);have T:aP6 g n (yV g t):=⟨t,by rw[e1];exact W,rfl⟩
 generalize yV g t=H at *
 generalize Sx t o.By=sq at *
 generalize Fe g t=lt at *
 have P:=(F.seq sq ay).at_ (IntKind.i64.wrap (lt+(IntKind.i64.wrap ((j:Int).tdiv 5)).tmod 2)) (lH _);clear C S hs U Q Z O N aa W M;rcases J with⟨rfl,rfl,rfl,rfl,rfl,rfl,rfl⟩|⟨rfl,rfl,rfl,rfl,⟨rfl,rfl,rfl,rfl,rfl⟩|⟨rfl,rfl,rfl,rfl⟩|⟨rfl,rfl,rfl⟩⟩
 all_goals (
  simp only[go_sem]
  refine cX hH ?_
  simp only[go_sem]
  refine cX hS ?_
  simp only[go_sem]
  refine cX ba ?_
  simp only[go_sem,C4])
 exact⟨_,H,false,_,_,_,_,[],[],Gs,Xs,P,D,V,(by simp),xC,rZ,bb,ax,.inl ⟨rfl,rfl,rfl,rfl,rfl,rfl,rfl⟩,T,rfl⟩;exact⟨_,H,false,_,_,_,_,[],[],[],[],P,D,V,(by simp),xC,rZ,tS,tT,.inr ⟨rfl,rfl,rfl,rfl,.inl ⟨rfl,rfl,rfl,rfl,rfl⟩⟩,T,rfl⟩;exact⟨_,H,false,_,_,_,_,B,[],[],[],P,D,V,(by simp),hB,rZ,tS,tT,.inr ⟨rfl,rfl,rfl,rfl,.inr (.inl ⟨rfl,rfl,rfl,rfl⟩)⟩,T,rfl⟩;exact⟨_,H,false,_,_,_,_,B,R,[],[],P,D,V,(by simp),hB,hR,tS,tT,.inr ⟨rfl,rfl,rfl,rfl,.inr (.inr ⟨rfl,rfl,rfl⟩)⟩,T,rfl⟩
def aPT(g:GM)(z:g.ok)(q:∀o∈g.L,jB o=0)(u:∀x∈g.I,x.b<=2147483647)(s:∀x∈g.I,0<=x.a)(l:∀c∈g.Cards,0<=c.Member)(i:g.L.length<=200)(n m:Int)(v:mZ n)(w:mZ m):
 aA PQ G Al [.ag g.A,iv n,iv m] [] λr T=>(∃o:OpM,o.ok/\0<=o.By/\aP6 g n o.Past/\r=.ag o.A)/\T=[]:=by
 obtain⟨t,d⟩:∃t:D_->Prop,t=aP6 g n:=⟨_,rfl⟩
 refine aA.dsub (p:=λr T=>(∃(o:OpM)(P:D_)(p b j g x:AV)(B R:V_)(k:B_)(X:List BoxM),o.ok/\0<=o.By/\(P.length<=1000/\∀y∈P,y.ok)/\fH p (ids P)=true/\t P/\RowsOk b j g x B R k X/\r=.ag (gD o p b j g x))/\T=[]) ((aBh g z q u s l i n m v w).fin [0,1] ?_) ?_;rintro r H ⟨o,P,p,b,j,F,x,B,R,k,X,h1,h2,h3,h,e,E,D,C,⟨rfl,rfl,rfl,rfl,rfl,rfl,rfl⟩|⟨rfl,rfl,rfl,rfl,⟨rfl,rfl,rfl,rfl,rfl⟩|⟨rfl,rfl,rfl,rfl⟩|⟨rfl,rfl,rfl⟩⟩,f,rfl⟩;simp only[go_sem,gQ,List.getElem?_nil];exact⟨o,P,_,_,_,_,_,[],[],k,X,h1,h2,h3,JT h,d ▸ f,⟨xC,rfl,rZ,rfl,D,VS _,C,PD _⟩,rfl⟩;simp only[go_sem,gQ,List.getElem?_nil];exact⟨o,P,_,_,_,_,_,[],[],[],[],h1,h2,h3,JT h,d ▸ f,VV,rfl⟩;simp only[go_sem,gQ,List.getElem?_nil];exact⟨o,P,_,_,_,_,_,B,[],[],[],h1,h2,h3,JT h,d ▸ f,⟨e,PE _ _,rZ,rfl,tS,rfl,tT,rfl⟩,rfl⟩;simp only[go_sem,gQ];exact⟨o,P,_,_,_,_,_,B,R,[],[],h1,h2,h3,JT h,d ▸ f,⟨e,PE _ _,E,PE _ _,tS,rfl,tT,rfl⟩,rfl⟩;rintro r H ⟨⟨o,P,p,b,j,F,x,B,R,k,X,h1,h2,h3,h,f,e,rfl⟩,rfl⟩;exact⟨_,VW h e,⟨_,aEu h1 h3 e.b1 e.r1 e.g1 e.x1,h2,d ▸ f,rfl⟩,rfl⟩
def aEw(g:GM)(l:g.ok)(f:∀o∈g.L,jB o=0)(i:∀x∈g.I,x.b<=2147483647)(h:∀x∈g.I,0<=x.a)(e:∀c∈g.Cards,0<=c.Member)(d:g.L.length<=200)(n m:Int)(j:mZ n)(k:mZ m):
 aA PQ G Al [.ag g.A,iv n,iv m] [] λr T=>(∃o:OpM,o.ok/\0<=o.By/\r=.ag o.A)/\T=[]:=
 (aPT g l f i h e d n m j k).mono λ_ _ ⟨⟨o,h1,h2,_,h3⟩,p⟩=>⟨⟨o,h1,h2,h3⟩,p⟩
def aBi{o:OpM}(h:jB o=0):1<=o.By:=by unfold jB at h;grind[fP,oI]
def Reach.ida{cs:List CardM}{g:GM}(h:Reach cs g):∀x∈g.I,0<=x.a:=by
 induction h with
 |new=>simp| @add g o d e c ih=>
  by_cases h:(dV g o).1=0;have a:=Ff h;rw[yE a h];intro x b;rcases cG.1 b with b|b;exact ih x b;rw[cA.1 b];have:=aBi a.check;show 0<=o.By;omega;grind[addM]
def aEx(g:GM)(o:OpM):(addM g o).1.L.length<=g.L.length+1:=by grind[addM]
def aP7:aA PQ G zT [] [] λr T=>r=Sa [1,2,3,1,2,3]/\T=[]:=by refine aA.fin (p:=λr T=>r=.own 0/\T=[some (.arr 1 [[iv 1],[iv 2],[iv 3],[iv 1],[iv 2],[iv 3]])]) (aC Lf ?_) [0] ?_;rotate_left;rintro r a ⟨rfl,rfl⟩;simp only[go_sem,gQ];rfl;simp only[go_sem]
def Reach.hyp6{g:GM}(d:Reach bQ g):g.ok/\(∀o∈g.L,jB o=0)/\(∀x∈g.I,x.b<=2147483647)/\(∀x∈g.I,0<=x.a)/\(∀c∈g.Cards,0<=c.Member)/\g.L.length<=200:=by have e:=d.good rY;refine⟨e.ok,d.checked,d.seqb,d.ida,?_,e.n⟩;rw[e.cards];exact λc f=>by have:=JP.mem c f;omega
def ZW:aA PQ G Ci [.ls 5 (bQ.map CardM.A)] [] λr T=>r=.ag (⟨bQ,[],[],[],[]⟩:GM).A/\T=[]:=aBe bQ
def VY:aA PQ G xP [Sa [1,2,3,1,2,3]] [] λr T=>r=.ls 5 (bQ.map CardM.A)/\T=[]:=by refine(aEe [1,2,3,1,2,3] d_).fin [0] ?_;rintro r a ⟨rfl,rfl⟩;simp only[go_sem,gQ];rfl
def aBj (l:B_) (Z:l.length<=2^63-1) (hi:∀n∈l,mZ n) (M:Nat) (hM:M<=100):
 aA PQ G Ew [rG l,iv M] [] λr T=>(∃g,Reach bQ g/\g.L.length<=M/\r=.ag g.A)/\T=[]:=by
 apply aC Om;simp only[go_sem];apply cX aP7;simp only[go_sem];apply cX VY;simp only[go_sem];apply cX ZW;simp only[go_sem];refine jG (λs=>∃g,Reach bQ g/\g.L.length<=M/\s=⟨0,[(4,.ptr 0 0),(5,.ptr 1 0)],[some (.box z5),some (.box g.A)]⟩) ?_ ?_;rotate_left;rintro s ⟨g,y,I,rfl⟩;simp only[go_sem,z5];grind;apply cO (λm s=>∃(i:Nat)(g:GM),m=M-i/\i<=M/\g.L.length<=i/\Reach bQ g/\s=⟨0,[(0,rG l),(1,iv M),(4,.ptr 0 0),(5,.ptr 1 0),(6,iv i)],[some (.box z5),some (.box g.A)]⟩) M ⟨0,_,rfl,o_,cN _,Reach.new,by simp only[go_sem,z5]⟩;rintro m s ⟨i,g,V,aa,ab,y,rfl⟩;obtain⟨J,u,d,w,t,c⟩:=y.hyp6;have W:=λo z=>So (G:=G) g o J z;have O:=λn m Y V=>aEw (G:=G) g J u d w t c n m Y V;clear u d w t c J;have q:decide ((i:Int)<(M:Int))=decide (i<M):=s_;have x:decide ((i:Int)<4)=decide (i<4):=b_;have w2:IntKind.i64.wrap (2*(i:Int))=((2*i:Nat):Int):=k_;have k:decide (((2*i:Nat):Int)<(l.length:Int))=decide (2*i<l.length):=b_;by_cases b:i<M/\(i<4\/2*i<l.length);rotate_left;rcases eD i M with a|a;have c1:decide (i<M)=true:=decide_eq_true a;have c2:decide (i<4)=false:=decide_eq_false λh=>b ⟨a,.inl h⟩;have c3:decide (2*i<l.length)=false:=decide_eq_false λh=>b ⟨a,.inr h⟩;simp only[go_sem,aP,q,x,w2,k,c1,c2,c3];grind;have c1:decide (i<M)=false:=decide_eq_false o_;simp only[go_sem,q,c1,undef];grind;obtain⟨a,b⟩:=b;have U:=fQ i o_;have w3:IntKind.i64.wrap (((2*i:Nat):Int)+1)=((2*i+1:Nat):Int):=k_;have C:decide (((2*i+1:Nat):Int)<(l.length:Int))=decide (2*i+1<l.length):=b_;have c1:decide (i<M)=true:=decide_eq_true a;rw[bC];refine cB (λs=>s=⟨0,[(0,rG l),(1,iv M),(4,.ptr 0 0),(5,.ptr 1 0),(6,iv i)],[some (.box z5),some (.box g.A)]⟩) ?_ ?_;clear O W;rcases b with Q|Q;have c2:decide (i<4)=true:=decide_eq_true Q;simp only[go_sem,q,x,c1,c2,undef];have c3:decide (2*i<l.length)=true:=decide_eq_true Q;rcases eD i 4 with X|X;have c2:decide (i<4)=true:=decide_eq_true X;simp only[go_sem,q,x,c1,c2,undef];have c2:decide (i<4)=false:=decide_eq_false o_;simp only[go_sem,aP,q,x,c1,c2,w2,k,c3];rintro s rfl;obtain⟨f,j,F,H,e⟩:∃f j:Int,mZ f/\mZ j/\((2*i+1<l.length/\(l.map λn=>[iv n])[2*i]?=some [iv f]/\(l.map λn=>[iv n])[2*i+1]?=some [iv j])\/(¬2*i+1<l.length/\2*i<l.length/\(l.map λn=>[iv n])[2*i]?=some [iv f]/\j=0)\/(¬2*i<l.length/\f=0/\j=0)):=by
  have z0:mZ 0:=⟨d_,d_⟩
  grind
 have v:=O f j F H;clear O;rcases e with⟨h1,R,g2⟩|⟨h1,h2,R,rfl⟩|⟨h1,rfl,rfl⟩
 have h2:2*i<l.length:=o_;have S:decide (2*i<l.length)=true:=decide_eq_true h2;have B:decide (2*i+1<l.length)=true:=decide_eq_true h1;simp only[go_sem,aP,w2,k,w3,C,R,g2,h1,h2];rotate_left;have S:decide (2*i<l.length)=true:=decide_eq_true h2;have B:decide (2*i+1<l.length)=false:=decide_eq_false h1;simp only[go_sem,aP,w2,k,w3,C,B,R,h2];rotate_left;have S:decide (2*i<l.length)=false:=decide_eq_false h1;have B:decide (2*i+1<l.length)=false:=decide_eq_false o_;simp only[go_sem,aP,w2,k,S,w3,C,B]
 all_goals (
  clear hi Z q x k C w2 w3 c1 b
  refine And.intro ?_ ?_
  all_goals (
   apply Jo v
   rintro r T' ⟨⟨o,z,K,rfl⟩,rfl⟩
   have d:=BM z
   have D:=OX (G:=G) o z K
   have P:=W (cM o) d
   have I:=aEx g (cM o)
   have E:=y.add d (W6 d)
   generalize cM o=p at *
   generalize N:addM g p=ag at *
   clear N d v
   simp only[go_sem]
   try refine And.intro ?_ ?_
   all_goals (
    apply cX D
    simp only[go_sem]
    try refine And.intro ?_ ?_
    all_goals (
     apply cX P
     simp only[go_sem]
     refine aL (λhe=>?_) (λhe=>?_)
     simp only[go_sem,z5,U]
     exact⟨M-(i+1),o_,i+1,_,rfl,o_,o_,E,rfl⟩
     simp only[go_sem,z5,U]
     exact⟨M-(i+1),o_,i+1,g,rfl,o_,o_,y,rfl⟩))))
def KV(g:GM)(R:V_):List OpM:=R.map λk=>g.L.getD k default
def VZ(g:GM)(d:g.ok):aA PQ G zQ [.ag g.A] [] λr T=>r=rG ((List.range g.L.length).map λ(i:Nat)=>(i:Int))/\T=[]:=by refine aA.fin (p:=λr T=>r=.own 0/\T=[some (.arr 1 ((List.range g.L.length).map λ(i:Nat)=>[iv i]))]) (aC Lh ?_) [0] ?_;rotate_left;rintro r f ⟨rfl,rfl⟩;simp only[go_sem,gQ];rw[rG,rI];rfl;have e:=d.n;simp only[go_sem];refine aQ g.L.length (λi=>⟨0,[(1,.ptr 0 0),(3,.own 1),(4,iv i)],[some (.box g.A),some (.arr 1 ((List.range i).map λ(i:Nat)=>[iv i]))]⟩) (λ_=>True) ?_ trivial ?_ ?_;rfl;intro i c _;have a:=fQ i o_;have b:(List.range i).length=i:=QK;rw[QH,bZ,fG,uP];simp only[go_sem,aP,aT c,b,a,(a_:i+1<=maxLen),(o_:(i+1)*8<=140737488355328)];intro _;simp only[go_sem,aP,aS (bP _)]
def aGe(x:GK G)(g:GM)(j:g.ok)(q:cardsOk g.Cards)(a:∀o∈g.L,(C7 o).ok)(R:V_)(s:∀i∈R,i<g.L.length)(w:R.length<=1000)
 (y:∀i(h:i<R.length),(sR (AM g.Cards (KV g (R.take i))) (g.L.getD R[i] default)).2=0):
 aA PQ G xO [.ag g.A,rG (R.map λ(i:Nat)=>(i:Int))] [] λr T=>r=.ptr 0 0/\T=TG 0 (AM g.Cards (KV g R)):=by
 apply aC Oo;have E:=j.n;have b:∀k,k<g.L.length->g.L.getD k default∈g.L:=λk c=>by rw[rH,jN c];exact eQ c
 have e:∀i,(AM g.Cards (KV g (R.take i))).ok:=λi=>XM q _ λo f=>by obtain⟨k,c,rfl⟩:=dF.1 f;have:=b k (s k (C8 c));exact⟨j.ops _ this,a _ this⟩
 simp only[go_sem];apply kM (aKl g.Cards q);simp only[go_sem,MG,uP,Mk,gQ];refine aQ R.length (λi=>⟨0,[(1,rG (R.map λ(i:Nat)=>(i:Int))),(2,.ptr 0 0),(5,.ptr 1 0),(6,iv i)],some (.box g.A)::TG 1 (AM g.Cards (KV g (R.take i)))⟩) (λ_=>True) ?_ trivial ?_ ?_;simp only[go_sem,TG,MG,uQ,AM,KV,Kk,PGM.I,uP,Mk,gQ];intro i d _;have m:=fQ i o_;have l:=s _ (eQ d);have z:(R.map ((λn=>[iv n])∘λ(i:Nat)=>(i:Int)))[i]?=some [iv (R[i]:Nat)]:=t_;have B:(g.L.map OpM.A)[R[i]]?=some (g.L.getD R[i] default).A:=t_;have f:=j.ops _ (b _ l);have t:=y i d;have C:AM g.Cards (KV g (R.take (i+1)))=(sR (AM g.Cards (KV g (R.take i))) (g.L.getD R[i] default)).1:=by rw[lB d,KV,bZ,fG,uP,MS];rfl
 have u:=e i;simp only[go_sem,TG,MG,aP,aT d,B,z];generalize AM g.Cards (KV g (R.take (i+1)))=D at *
 generalize AM g.Cards (KV g (R.take i))=p at *
 generalize g.L.getD R[i] default=o at *
 subst C;apply aG (T2:=TG 0 p) [1,2,3] (aB _) d_ s_ rfl y_ (aIe x p o u f);rintro r H ⟨rfl,v⟩;rw[t];rcases v with⟨rfl,F⟩|rfl;simp only[go_sem,TG,MG,m];simp only[go_sem,TG,TH,MG,m];intro _;simp only[go_sem,TG,MG,aP,aS (bP _),dE]
def aJ7(g:GM)(U:V_):D_:=Fd g (U.map λi=>g.I.getD i default)
def Xi(g:GM)(o:OpM)(U:V_):OpM:=opR {o with Seq:=Sx (aJ7 g U) o.By,At:=Fe g (aJ7 g U)} (yV g (aJ7 g U)) [] [] [] []
def bhM(g:GM)(o:OpM)(U:V_):GM:=(addM g (cM (Xi g o U))).1
def ZX{g:GM}(c:g.ok)(d:∀x∈g.I,x.b<=2147483647){o:OpM}(e:o.ok)(U:V_)(f:mZ (Fe g (aJ7 g U))):(Xi g o U).ok :=
 aEu ((e.seq _ (ZV _ _ λx a=>d x (Fg c.i _ x a))).at_ _ f) ⟨K8 c _,λx a=>c.is x (KF _ x a)⟩ xC rZ tS tT
def aEy (g:GM) (a:g.ok) (l:∀x∈g.I,x.b<=2147483647) (o:OpM) (s:o.ok) (q:0<=o.By) (U:V_) (t:∀i∈U,i<g.I.length) (D:U.length<=1000) (j:mZ (Fe g (aJ7 g U))):
 aA PQ G rN [.ag g.A,.ag (gD o dK dK dK dK dK),rG (U.map λ(i:Nat)=>(i:Int))] [] λr T=>r=.ag (bhM g o U).A/\T=[]:=by
 apply aC Li;simp only[go_sem];refine aQ U.length (λi=>⟨0,[(2,rG (U.map λ(i:Nat)=>(i:Int))),(3,.ptr 0 0),(4,.ptr 1 0),(6,.ptr 2 0),(7,.own 3),(8,iv i)],[some (.box g.A),some (.box (gD o dK dK dK dK dK)),some (.box z5),some (.arr 3 ((U.take i).map λk=>(g.I.getD k default).A))]⟩) (λ_=>True) ?_ trivial ?_ ?_;simp only[go_sem,z5,uQ,uP];intro i m _;have u:=fQ i o_;have P:=t _ (eQ m);have N:(U.map ((λn=>[iv n])∘λ(i:Nat)=>(i:Int)))[i]?=some [iv (U[i]:Nat)]:=t_;have M:(g.I.map Id.A)[U[i]]?=some (g.I.getD U[i] default).A:=t_;have z:(U.take (i+1)).map (λk=>(g.I.getD k default).A)=(U.take i).map (λk=>(g.I.getD k default).A)++[(g.I.getD U[i] default).A]:=by rw[lB m,bZ];rfl
 have B:((U.take i).map λk=>(g.I.getD k default).A).length=i:=b_;rw[z];generalize(U.take i).map (λk=>(g.I.getD k default).A)=L at *
 generalize g.I.getD U[i] default=x at *
 simp only[go_sem,z5,aP,aT m,N,M,B,u,Id.A_def,(o_:(i+1)*24<=140737488355328),(a_:i+1<=maxLen)]
 ·intro _;have O:=a.n;have C:aA PQ G qR [.ag g.A,.ls 3 (U.map λk=>(g.I.getD k default).A)] [] (λr T=>r=ids (aJ7 g U)/\T=[]):=by have h:=ZL (G:=G) g (U.map λi=>g.I.getD i default) a I_;rw[ids,rI]at h;exact h
  have d:=ZX a l s U j;have c:(aJ7 g U).length<=100000:=by have:=Ou (g:=g) (U.map λi=>g.I.getD i default);grind[List.length_map,aJ7]
  have J:=U9 (G:=G) g (aJ7 g U) a c;have E:=aH7 (G:=G) g (aJ7 g U) o.By c (λx y=>by have:=l x (Fg a.i _ x y);omega);have F:=aDT (G:=G) g (aJ7 g U) a c;have f:=OX (G:=G) (Xi g o U) d q;have K:=So (G:=G) g (cM (Xi g o U)) a (BM d);have cE:opR {o with Seq:=Sx (aJ7 g U) o.By,At:=Fe g (aJ7 g U)} (yV g (aJ7 g U)) [] [] [] []=Xi g o U:=rfl;unfold bhM;generalize Xi g o U=p at *
  generalize aJ7 g U=X at *
  generalize yV g X=H at *
  generalize Sx X o.By=v at *
  generalize Fe g X=w at *
  clear t l d j s;simp only[go_sem,z5,aP,aS (bP _),dE];apply cX C;simp only[go_sem];apply cX J;simp only[go_sem];apply cX E;simp only[go_sem];apply cX F;simp only[go_sem]
  have e:aA PQ G jK [.ag (gD {o with Seq:=v,At:=w} (ids H) dK dK dK dK)] [] λr T=>r=.ag (cM p).A/\T=[]:=
   aA.asub f (by rw[<-cE];simp only[pL,VW (RR H) VV,yH])
  clear f;refine And.intro ?_ ?_
  all_goals (
   apply cX e
   simp only[go_sem]
   try refine And.intro ?_ ?_
   all_goals (
    apply cX K
    simp only[go_sem]))
def Fr{cs:List CardM}{g:GM}(a:Reach cs g)(d:g.ok){o:OpM}(b:o.ok)(U:V_)(c:mZ (Fe g (aJ7 g U))):Reach cs (bhM g o U):=by have h:=BM (ZX d a.seqb b U c);exact a.add h (W6 h)
def GR {cs:List CardM} {g:GM} (b:Reach cs g) (X:D_):mZ (Fe g X):=by
 have a:∀(X:D_)(t:Int),0<=t->t<=2147483647->0<=X.foldl (vN g) t/\X.foldl (vN g) t<=2147483647:=by
  intro X
  induction X with
  |nil=>exact λt h0 h1=>⟨h0,h1⟩| cons x X ih=>
   intro t h0 h1;have c:(g.L.getD (aW g.I x).toNat default).At<=2147483647:=by rw[rH];rcases eD (aW g.I x).toNat g.L.length with h|h;rw[jN h];exact(Ov (b.checked _ (eQ h))).2;rw[sX h];decide
   grind[vN]
 have:=a X 0 d_ d_;unfold Fe;exact⟨o_,o_⟩
def C5:bQ=qB:=(show bQ=Xm from rfl).trans aBk
def Vb{g a:GM}{o p:OpM}{U:V_}(h1:Xi g o U=p)(h2:addM g (cM p)=(a,0)):bhM g o U=a:=by rw[bhM,h1,h2]
def lG0:GM:=⟨qB,[],[],[],[]⟩
def ZZ:Id:=⟨1,1,1678659063197719793⟩
def lI2:Id:=⟨1,2,1986754332845367016⟩
def lI3:Id:=⟨1,3,302905262156610722⟩
def lI4:Id:=⟨1,4,2151359658425387410⟩
def lI5:Id:=⟨1,5,1415757915243515795⟩
def lI6:Id:=⟨2,1,217900310499724631⟩
def lP1:OpM:=⟨1,1,1,0,[],0,0,0,0,[],⟨0,0,0⟩,0,[],[],⟨0,0,0⟩,[],0,0,[],0,[],0,0⟩
def PI:OpM:=⟨1,1,1,0,[],0,0,0,0,[],⟨0,0,0⟩,0,[],[],⟨0,0,0⟩,[],0,0,[],0,[],1957341969156249392,2198076407687076080⟩
def lG1:GM:=⟨qB,[PI],[ZZ],[[]],[[false]]⟩
def lS1:cM lP1=PI:=ka
def lA1:addM lG0 (cM lP1)=(lG1,0):=by refine KX (c:=⟨1,1,1858807316446646070,2294458496254976924,1058522930688824048⟩) (up:=[]) lS1 g_ ?_ g_ g_ d_ g_ g_ g_;rw[show lP1.By.toNat=1 from rfl,PH _ (lG _ _)];kernel_rfl
def lP2:OpM:=⟨1,2,2,0,[ZZ],2,0,0,3,[],⟨0,0,0⟩,0,[],[],⟨0,0,0⟩,[],0,0,[],0,[],0,0⟩
def TQ:OpM:=⟨1,2,2,0,[ZZ],2,0,0,3,[],⟨0,0,0⟩,0,[],[],⟨0,0,0⟩,[],0,0,[],0,[],1100293863131382432,85999066257217048⟩
def lG2:GM:=⟨qB,[PI,TQ],[ZZ,lI2],[[],[0]],[[false,false],[true,false]]⟩
def lS2:cM lP2=TQ:=ka
def lA2:addM lG1 (cM lP2)=(lG2,0):=by refine KX (c:=⟨1,1,1858807316446646070,2294458496254976924,1058522930688824048⟩) (up:=[0]) lS2 g_ ?_ g_ g_ d_ g_ g_ g_;rw[show lP2.By.toNat=1 from rfl,PH _ (lG _ _)];kernel_rfl
def lB2:bhM lG1 (G3 1 0 2 2 3 0) [0]=lG2:=Vb g_ lA2
def lP3:OpM:=⟨1,3,2,0,[lI2],3,0,0,3,[],⟨0,0,0⟩,0,[],[],⟨0,0,0⟩,[],0,0,[],0,[],0,0⟩
def Xo:OpM:=⟨1,3,2,0,[lI2],3,0,0,3,[],⟨0,0,0⟩,0,[],[],⟨0,0,0⟩,[],0,0,[],0,[],331454641707575666,880825274174778007⟩
def lG3:GM:=⟨qB,[PI,TQ,Xo],[ZZ,lI2,lI3],[[],[0],[1]],[[false,false,false],[true,false,false],[true,true,false]]⟩
def lS3:cM lP3=Xo:=ka
def lA3:addM lG2 (cM lP3)=(lG3,0):=by refine KX (c:=⟨1,1,1858807316446646070,2294458496254976924,1058522930688824048⟩) (up:=[1]) lS3 g_ ?_ g_ g_ d_ g_ g_ g_;rw[show lP3.By.toNat=1 from rfl,PH _ (lG _ _)];kernel_rfl
def lB3:bhM lG2 (G3 1 0 2 3 3 0) [1]=lG3:=Vb g_ lA3
def lP4:OpM:=⟨1,4,2,0,[lI3],4,0,0,3,[],⟨0,0,0⟩,0,[],[],⟨0,0,0⟩,[],0,0,[],0,[],0,0⟩
def lO4:OpM:=⟨1,4,2,0,[lI3],4,0,0,3,[],⟨0,0,0⟩,0,[],[],⟨0,0,0⟩,[],0,0,[],0,[],1985449911018515417,1095755653441449969⟩
def lG4:GM:=⟨qB,[PI,TQ,Xo,lO4],[ZZ,lI2,lI3,lI4],[[],[0],[1],[2]],[[false,false,false,false],[true,false,false,false],[true,true,false,false],[true,true,true,false]]⟩
def lS4:cM lP4=lO4:=ka
def lA4:addM lG3 (cM lP4)=(lG4,0):=by refine KX (c:=⟨1,1,1858807316446646070,2294458496254976924,1058522930688824048⟩) (up:=[2]) lS4 g_ ?_ g_ g_ d_ g_ g_ g_;rw[show lP4.By.toNat=1 from rfl,PH _ (lG _ _)];kernel_rfl
def lB4:bhM lG3 (G3 1 0 2 4 3 0) [2]=lG4:=Vb g_ lA4
def lP5:OpM:=⟨1,5,3,0,[lI4],2,0,0,0,[],⟨0,0,0⟩,0,[],[],⟨0,0,0⟩,[],0,0,[],0,[],0,0⟩
def lO5:OpM:=⟨1,5,3,0,[lI4],2,0,0,0,[],⟨0,0,0⟩,0,[],[],⟨0,0,0⟩,[],0,0,[],0,[],1016970253116322207,1455940877492789305⟩
def Za:GM:=⟨qB,[PI,TQ,Xo,lO4,lO5],[ZZ,lI2,lI3,lI4,lI5],[[],[0],[1],[2],[3]],[[false,false,false,false,false],[true,false,false,false,false],[true,true,false,false,false],[true,true,true,false,false],[true,true,true,true,false]]⟩
def lS5:cM lP5=lO5:=ka
def lA5:addM lG4 (cM lP5)=(Za,0):=by refine KX (c:=⟨1,1,1858807316446646070,2294458496254976924,1058522930688824048⟩) (up:=[3]) lS5 g_ ?_ g_ g_ d_ g_ g_ g_;rw[show lP5.By.toNat=1 from rfl,PH _ (lG _ _)];kernel_rfl
def lB5:bhM lG4 (G3 1 0 3 2 0 0) [3]=Za:=Vb g_ lA5
def lP6:OpM:=⟨2,1,3,0,[lI4],1,0,0,0,[],⟨0,0,0⟩,0,[],[],⟨0,0,0⟩,[],0,0,[],0,[],0,0⟩
def lO6:OpM:=⟨2,1,3,0,[lI4],1,0,0,0,[],⟨0,0,0⟩,0,[],[],⟨0,0,0⟩,[],0,0,[],0,[],119229842462975473,345172639488305421⟩
def BP:GM:=⟨qB,[PI,TQ,Xo,lO4,lO5,lO6],[ZZ,lI2,lI3,lI4,lI5,lI6],[[],[0],[1],[2],[3],[3]],[[false,false,false,false,false,false],[true,false,false,false,false,false],[true,true,false,false,false,false],[true,true,true,false,false,false],[true,true,true,true,false,false],[true,true,true,true,false,false]]⟩
def lS6:cM lP6=lO6:=ka
def lA6:addM Za (cM lP6)=(BP,0):=by refine KX (c:=⟨2,2,1810974450540283748,732551293757751401,86482453431610406⟩) (up:=[3]) lS6 g_ ?_ g_ g_ d_ g_ g_ g_;rw[show lP6.By.toNat=2 from rfl,PH _ (lG _ _)];kernel_rfl
def lB6:bhM Za (G3 2 0 3 1 0 0) [3]=BP:=Vb g_ lA6
def GS{b k d rl:Int}(h1:mZ b)(h3:mZ k)(c:mZ d)(a:mZ rl):(G3 b 0 k d rl 0).ok:=Hs h1 ⟨d_,d_⟩ h3 c a ⟨d_,d_⟩
def lR1:Reach bQ lG1:=by have h:=BM (Hs (b:=1) (sq:=1) (k:=1) (d:=0) (rl:=0) (nd:=0) ⟨d_,d_⟩ ⟨d_,d_⟩ ⟨d_,d_⟩ ⟨d_,d_⟩ ⟨d_,d_⟩ ⟨d_,d_⟩);have r:Reach bQ (addM ⟨bQ,[],[],[],[]⟩ (cM (G3 1 1 1 0 0 0))).1:=Reach.new.add h (W6 h);rw[C5]at r⊢;rw[show G3 1 1 1 0 0 0=lP1 from rfl,show(⟨qB,[],[],[],[]⟩:GM)=lG0 from rfl,lA1]at r;exact r
def lR2:Reach bQ lG2:=lB2 ▸ Fr lR1 lR1.hyp6.1 (GS ⟨d_,d_⟩ ⟨d_,d_⟩ ⟨d_,d_⟩ ⟨d_,d_⟩) _ (GR lR1 _)
def lR3:Reach bQ lG3:=lB3 ▸ Fr lR2 lR2.hyp6.1 (GS ⟨d_,d_⟩ ⟨d_,d_⟩ ⟨d_,d_⟩ ⟨d_,d_⟩) _ (GR lR2 _)
def lR4:Reach bQ lG4:=lB4 ▸ Fr lR3 lR3.hyp6.1 (GS ⟨d_,d_⟩ ⟨d_,d_⟩ ⟨d_,d_⟩ ⟨d_,d_⟩) _ (GR lR3 _)
def lR5:Reach bQ Za:=lB5 ▸ Fr lR4 lR4.hyp6.1 (GS ⟨d_,d_⟩ ⟨d_,d_⟩ ⟨d_,d_⟩ ⟨d_,d_⟩) _ (GR lR4 _)
def lR6:Reach bQ BP:=lB6 ▸ Fr lR5 lR5.hyp6.1 (GS ⟨d_,d_⟩ ⟨d_,d_⟩ ⟨d_,d_⟩ ⟨d_,d_⟩) _ (GR lR5 _)
end Hud
