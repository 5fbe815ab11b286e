import Derived.Test.YtdichbeaekjibaaGreatDoorLib28
set_option linter.all false
set_option maxHeartbeats 40000000
namespace Hud
open Go
variable{G:L_}
def LA{g:PGM}{V W:D_}(h:∀x,x∈V↔x∈W)(row:D_):mW g V row=mW g W row:=by unfold mW;congr 1;grind[iS]
theorem BR{V:D_}{x y:Id}:x∈AQ V y↔x∈V\/x=y:=by grind[AQ]
def PK{V W:D_}(h:∀x,x∈V↔x∈W)(y:Id):∀x,x∈AQ V y↔x∈AQ W y:=λx=>by rw[BR,BR,h]
def Fs{p:Id->Bool}:∀(row V W:D_),(∀x,x∈V↔x∈W)->∀x,x∈row.foldl (λV y=>if p y=true then AQ V y else V) V↔x∈row.foldl (λV y=>if p y=true then AQ V y else V) W
 |[],_,_,h=>h
 |y::row,V,W,h=>by rw[CW,CW];refine Fs row _ _ ?_;split;exact PK h y;exact h
def Ft{g:PGM}{row:D_}{S:List (Int×Int)}:∀(n:Nat)(V W left:D_),(∀x,x∈V↔x∈W)->∀x,x∈uL g row S n V left↔x∈uL g row S n W left
 |0,_,_,_,h=>h
 | n+1,V,W,left,h=>by
  have a:left.filter (λx=>!decide (x∈V))=left.filter λx=>!decide (x∈W):=List.filter_congr λx _=>by simp only[h]
  rw[uL,uL,a,LA h];dsimp only;split;exact h;split;exact Ft n _ _ _ (Fs (p:=λy=>lA g _ y||(decide (y∈_)&&B7 g row _ y)) row V W h);exact Ft n _ _ _ (PK h _)
def Xw{g:PGM}{row V W:D_}(h:∀x,x∈V↔x∈W):∀x,x∈sU g row V↔x∈sU g row W:=Ft _ _ _ _ h
def zH(l:D_):D_:=l.filter (B8 l)
def kW(g:PGM)(l:D_):D_:=mW g (sU g (eO g l) (zH l)) (eO g l)
def Rc{l V:D_}(h:∀x,x∈V↔x∈l/\B8 l x=true):∀x,x∈V↔x∈zH l:=λx=>by rw[h,zH,gR]
def PL{g:PGM}{l V:D_}(h:∀x,x∈V↔x∈l/\B8 l x=true):mW g (sU g (eO g l) V) (eO g l)=kW g l:=LA (Xw (Rc h)) _
def aGq{g:PGM}{l V:D_}(h:∀x,x∈V↔x∈l/\B8 l x=true)(x:Id):Gk g l V x=Gk g l (zH l) x:=by unfold Gk;rw[PL h];have h1:mW g (sU g (eO g l) (zH l)) (eO g l)=kW g l:=rfl;rw[h1];simp only[Rc h]
section
variable{T:aK}{p:Nat×Nat×Nat}{g:PGM}
def Vj(j:AK G)(h:GAt T p g)(f:GGood g){l:D_}(c:∀x∈l,x∈g.I)(e:l.Nodup):
 aA PQ G pN [.ptr p.1 0,ids l] T λr a=>r=ids (kW g l)/\a=T :=
 (aEN j (aEP G) h f c e).mono λr a ⟨⟨V,i,d⟩,b⟩=>⟨by rw[d,PL i],b⟩
def aHg(j:AK G)(h:GAt T p g)(f:GGood g){l:D_}(c:∀x∈l,x∈g.I)(e:l.Nodup)(x:Id):
 aA PQ G wB [.ptr p.1 0,ids l,.ag x.A] T λr a=>r=iv (Gk g l (zH l) x)/\a=T :=
 (aKN j (aEP G) h f c e x).mono λr a ⟨⟨V,i,d⟩,b⟩=>⟨by rw[d,aGq i],b⟩
end
def TM{cs:List CardM}{a b:OpM}(h:Oh cs a b=true):jM a=true:=by grind[Oh,jM]
def Rd{p:Id->Bool}:∀(row V:D_)(y:Id),y∈row.foldl (λV y=>if p y=true then AQ V y else V) V↔y∈V\/(y∈row/\p y=true)
 |[],V,y=>by simp
 |z::row,V,y=>by rw[CW,Rd row];split<;>grind[BR]
def Vk{g:PGM}{V:D_}{x:Id}:∀(row out:D_),x∈row.foldl (iS g V) out->x∈out\/(x∈row/\x∉V)
 |[],_,h=>.inl h
 |z::row,out,h=>by rcases Vk row _ h with h|h;grind[iS];simp_all
def Ac{g:PGM}{V row:D_}{x:Id}(h:x∈mW g V row):x∈row/\x∉V:=by simpa using Vk row [] h
def Ht {g:PGM} {row:D_} {S:List (Int×Int)}:∀(n:Nat)(V left:D_),left.length<=n ->
 (∀x∈row,jM (g.nd x).o=true->x∈left\/x∈V\/∀y∈row,lA g x y=true->y∈V) ->
 (∀x∈V,x∈uL g row S n V left)/\∀x∈row,jM (g.nd x).o=true->x∈uL g row S n V left\/∀y∈row,lA g x y=true->y∈uL g row S n V left
 |0,V,left,t,h=>by
  grind[uL]
 | n+1,V,left,t,h=>by
  rw[uL];dsimp only;have s:=List.length_filter_le (λx=>!decide (x∈V)) left;have h1:∀x∈row,jM (g.nd x).o=true->x∈left.filter (λx=>!decide (x∈V))\/x∈V\/∀y∈row,lA g x y=true->y∈V:=λx c f=>by have:=h x c f;grind
  generalize left.filter (λx=>!decide (x∈V))=L at *
  split;rename_i e;subst e;exact⟨λx c=>c,λx c f=>by simpa using h1 x c f⟩;rename_i e;obtain⟨h0,w⟩:=RY (g:=g) (row:=row) (S:=S) e;generalize yY g row S L=k at *
  have v:k.toNat<L.length:=by omega
  generalize k.toNat=i at *
  have ex:L.getD i default=L[i]:=by simp[rH,v]
  have m:(L.eraseIdx i).length<=n:=by rw[List.length_eraseIdx];split<;>omega
  have d:∀x∈L,x=L[i]\/x∈L.eraseIdx i:=λx c=>by obtain⟨j,u,rfl⟩:=List.mem_iff_getElem.1 c;by_cases e:j=i;subst e;exact .inl rfl;exact .inr (List.mem_eraseIdx_iff_getElem.2 ⟨j,u,e,rfl⟩)
  rw[ex];generalize L[i]=q at *
  split;have r:=λy=>Rd (p:=λy=>lA g q y||(decide (y∈L.eraseIdx i)&&B7 g row q y)) row V y
  obtain⟨a,b⟩:=Ht n (Mb g row q (L.eraseIdx i) V) (L.eraseIdx i) (S:=S) m (λx c f=>by
   rcases h1 x c f with h|h|h;rcases d x h with rfl|h;exact .inr (.inr λy l e=>(r y).2 (.inr ⟨l,by simp[e]⟩));exact .inl h;exact .inr (.inl ((r x).2 (.inl h)))
   exact .inr (.inr λy l e=>(r y).2 (.inl (h y l e))))
  exact⟨λx c=>a x ((r x).2 (.inl c)),b⟩
  obtain⟨a,b⟩:=Ht n (AQ V q) (L.eraseIdx i) (S:=S) m (λx c f=>by
   rcases h1 x c f with h|h|h;rcases d x h with rfl|h;exact .inr (.inl (BR.2 (.inr rfl)));exact .inl h;exact .inr (.inl (BR.2 (.inl h)))
   exact .inr (.inr λy l e=>BR.2 (.inl (h y l e))))
  exact⟨λx c=>a x (BR.2 (.inl c)),b⟩
def Re{g:PGM}{row V:D_}:(∀x∈V,x∈sU g row V)/\∀x∈row,jM (g.nd x).o=true->x∈sU g row V\/∀y∈row,lA g x y=true->y∈sU g row V :=
 Ht _ _ _ (List.length_filter_le ..) λx a b=>.inl (gR.2 ⟨a,b⟩)
def PM{g:PGM}{l:D_}{x:Id}(h:x∈kW g l):x∈l/\x∉sU g (eO g l) (zH l):=
 ⟨(mE g l).mem_iff.1 (Ac h).1,(Ac h).2⟩
def Vl{g:PGM}{l:D_}{x y:Id}(b:x∈kW g l)(a:y∈kW g l):lA g x y=false:=by
 cases e:lA g x y with
 |false=>rfl
 | true=>
  have c:jM (g.nd x).o=true:=by unfold lA at e;simp only[zJ]at e;exact TM e.2.2.2.2.2
  rcases Re.2 x (Ac b).1 c with h|h;exact absurd h (Ac b).2;exact absurd (h y (Ac a).1 e) (Ac a).2
def Xx{g:PGM}{l:D_}(a:l.Nodup):(kW g l).Pairwise λx y=>P0 g x y=true:=by have h:=Aa (g:=g) (V:=sU g (eO g l) (zH l)) (eO g l) [];rw[dM]at h;exact(K2 a).sublist h
def Xy{g:PGM}{l:D_}{x:Id}(b:∀x∈l,x∈g.I)(a:x∈kW g l):Gk g l (zH l) x=0:=by obtain⟨h1,h2⟩:=PM a;have h3:x∉zH l:=λh=>h2 (Re.1 x h);unfold Gk;rw[if_neg (by simp[b x h1,h1]),if_neg h3];exact if_pos a
def aKP:eO (lQ 6) BP.I=BP.I:=by unfold eO;exact List.mergeSort_of_pairwise (by decide +kernel)
def aKQ(g:PGM)(l:D_):D_:=mW g (uL g l (Xu 0 (l.foldl (kV g) []) (KZ g.cards)) l.length (zH l) (l.filter λx=>jM (g.nd x).o)) l
def aGr{g:PGM}{l:D_}(h:eO g l=l):kW g l=aKQ g l:=by unfold kW sU aBt BQ aKQ;simp only[h]
def aHh:kW (lQ 6) BP.I=Za.I:=(aGr aKP).trans (by kernel_rfl)
def aKR:Gk (lQ 6) BP.I (zH BP.I) lI6=15:=by unfold Gk;have h:mW (lQ 6) (sU (lQ 6) (eO (lQ 6) BP.I) (zH BP.I)) (eO (lQ 6) BP.I)=Za.I:=aHh;rw[h];decide +kernel
def aIS(e:AK G):LivesP G:=by
 have c:=lR6.ggood rY JP;have hI:(AM bQ BP.L).I=BP.I:=by rw[Zb];rfl
 have a:∀x∈BP.I,x∈(AM bQ BP.L).I:=λx f=>by rw[hI];exact f
 have b:BP.I.Nodup:=by decide +kernel
 have d:GAt (TG 0 (AM bQ BP.L)) (0,1,2) (AM bQ BP.L):=⟨rfl,rfl,rfl,by decide,by decide,by decide⟩
 have h1:=Vj e d c a b;have h2:=aHg e d c a b lI6;have h:kW (AM bQ BP.L) BP.I=Za.I:=by rw[Zb];exact aHh
 have g:Gk (AM bQ BP.L) BP.I (zH BP.I) lI6=15:=by rw[Zb];exact aKR
 rw[h]at h1;rw[g]at h2;exact⟨h1,h2,by rw[Zb];kernel_rfl⟩
def Reach.nd{cs:List CardM}(j:cardsOk cs){g:GM}(h:Reach cs g):g.I.Nodup:=by
 induction h with
 |new=>exact Mm
 | @add g o f i d ih=>
  by_cases h:(dV g o).1=0;rotate_left;grind[addM];have a:=Ff h;rw[yE a h,vQ];refine⟨ih,by simp,?_⟩;intro x c y b e;rw[cA.1 b]at e;exact a.twice ((Cz g.I _).2 (e ▸ c))
def Vm(g:PGM)(a:g.ok)(x y:Id):aA PQ G Ez [.ptr 0 0,.ag x.A,.ag y.A] (TG 0 g) λr T=>r=.v (.bool (decide (B2 g x y<0)))/\T=TG 0 g:=by refine aC Od ?_;have b:=RB (G:=G) g a x y;simp only[go_sem,TG,MG];refine aG (T2:=TG 0 g) [0,1,2] (aB _) (by decide) (by simp) rfl (by simp only[go_sem,TG,MG]) b ?_;rintro r c ⟨rfl,rfl⟩;simp only[go_sem,TG,MG]
def Xz (Z:GK G) (W:AK G) (l m:B_) (hl:l.length<=9223372036854775807) (s:∀n∈l,mZ n) (hm:m.length<=9223372036854775807) (M:∀n∈m,mZ n):
 aA PQ G Ev [rG l,rG m] [] λr T=>r=.v (.bool true)/\T=[]:=by
 refine aC JH ?_;simp only[go_sem];refine Jo (aBj l hl s 16 (by decide)) ?_;rintro r H ⟨⟨g,u,ab,rfl⟩,rfl⟩;have z:=u.hyp6.1;have c:=u.ggood rY JP;simp only[go_sem];refine cX (VZ g z) ?_;simp only[go_sem];refine kM (RS Z u) ?_;have e:(AM bQ g.L).I=g.I:=(u.good rY).sim.i;generalize AM bQ g.L=p at *
 simp only[go_sem,TG,MG];refine cX (aE7 g z m hm M) ?_;have d:=XW z.i m;have f:=Sy z.i (u.nd rY) m;have aa:=XX z m;generalize qI g m=S at *
 have N:GAt (TG 0 p) (0,1,2) p:=⟨rfl,rfl,rfl,by decide,by decide,by decide⟩
 have hC:=Vj W N c (λx b=>by rw[e];exact d x b) f;simp only[go_sem];refine aG (T2:=TG 0 p) [1,2,3] (aB _) (by decide) (by simp) rfl (by simp only[go_sem,TG,MG]) hC ?_;rintro r H ⟨rfl,rfl⟩;have D:=λx=>uJ (G:=G) S x (by unfold maxLen;omega);have o:=λx y=>Vm (G:=G) p c.ok x y;have q:=λx y=>GQ (G:=G) N c.ok x y;have B:=λx=>aHg W N c (λx b=>by rw[e];exact d x b) f x;have R:=λx(h:x∈kW p S)=>(PM h).1;have U:=λx(b:x∈kW p S) y(hy:y∈kW p S)=>Vl b hy;have Q:=QD.1 (Xx (g:=p) f);have P:=λx(b:x∈kW p S)=>Xy (λx b=>by rw[e];exact d x b) b;have ac:(kW p S).length<=1000:=by have h:=(Aa (g:=p) (V:=sU p (eO p S) (zH S)) (eO p S) []).length_le;rw[dM,aDM]at h;have h2:(kW p S).length<=S.length:=h;omega
 have O:=aBl Z (aIS W);clear hC;generalize kW p S=C at *
 obtain⟨F,a⟩:∃F:aK,F=[some (.box [.ls 5 (p.cards.map CardM.A),.mp 1,.own 2]),some (MG p.I),some (.arr 35 (p.nodes.map ND.A))]:=⟨_,rfl⟩
 simp only[go_sem,TG,MG];refine aQ C.length (λi=>⟨0,[(6,.ptr 0 0),(7,ids S),(8,ids C),(9,iv i)],F⟩) (λ_=>True) (by simp only[go_sem,a,MG]) trivial ?_ ?_
 ·intro i s _;have J:=fQ i (by omega);have E:(C.map Id.A)[i]?=some C[i].A:=aO _ C i s;have K:=eQ s;have b1:decide (C[i]∈S)=true:=decide_eq_true (R _ K);have b2:iv (Gk p S (zH S) C[i])=iv 0:=by rw[P _ K]
  simp only[go_sem,a,MG,aP,aT s,E];refine cX (D C[i]) ?_;refine'(λ(t:(_:Prop))=>?_) ?_;rotate_left;cases c1:decide ((i:Int)>0);simp only[go_sem,b1,c1];exact t;have h0:0<i:=by have:=of_decide_eq_true c1;omega
  have w1:IntKind.i64.wrap ((i:Int)-1)=((i-1:Nat):Int):=by rw[aJ (by omega) (by omega)];omega
  have w:i-1<C.length:=by omega
  have X:(C.map Id.A)[i-1]?=some C[i-1].A:=aO _ C _ w;have Y:=o C[i-1] C[i];rw[show decide (B2 p C[i-1] C[i]<0)=true from decide_eq_true (by rw[U5 (Q (i-1) i w s (by omega))];decide)]at Y;simp only[go_sem,E,b1,c1,w1,X];refine aG (T2:=TG 0 p) [0,1,2] (aB _) (by decide) (by simp) rfl (by simp only[go_sem,TG,MG]) Y ?_;rintro r H ⟨rfl,rfl⟩;simp only[go_sem,TG,MG];exact t;refine aQ C.length (λk=>⟨0,[(6,.ptr 0 0),(7,ids S),(8,ids C),(9,iv i),(10,iv k)],F⟩) (λ_=>True) (by simp only[go_sem,a,MG]) trivial ?_ ?_;intro k j _;have J:=fQ k (by omega);have X:(C.map Id.A)[k]?=some C[k].A:=aO _ C k j;have h1:=q C[i] C[k];rw[U _ K _ (eQ j)]at h1;simp only[go_sem,a,MG,aP,aT j,E,X];refine aG (T2:=TG 0 p) [0,1,2] (aB _) (by decide) (by simp) rfl (by simp only[go_sem,TG,MG]) h1 ?_;rintro r H ⟨rfl,rfl⟩;simp only[go_sem,a,TG,MG,J];intro _;have h2:=B C[i];rw[b2]at h2;simp only[go_sem,a,MG,aP,aS (bP _),E];refine aG (T2:=TG 0 p) [0,1,2] (aB _) (by decide) (by simp) rfl (by simp only[go_sem,TG,MG]) h2 ?_;rintro r H ⟨rfl,rfl⟩;simp only[go_sem,a,TG,MG,J]
 intro _;simp only[go_sem,a,MG,aP,aS (bP _)];refine cX O ?_;simp only[go_sem]
end Hud
