import Derived.Test.YtdichbeaekjibaaGreatDoorLib28
set_option linter.all false
set_option maxHeartbeats 40000000
namespace Hud
open Go
def LA{g:PGM}{V W:D_}(h:∀x,x∈V↔x∈W)(row:D_):mW g V row=mW g W row:=by unfold mW;congr 1;grind[iS]
theorem BR{V:D_}{x y:Id}:x∈AQ V y↔x∈V\/x=y:=by grind[AQ]
def PK{V W:D_}(h:∀x,x∈V↔x∈W)(y:Id):∀x,x∈AQ V y↔x∈AQ W y:=λx=>by rw[BR,BR,h]
def Fs{p:Id->Bool}:∀(row V W:D_),(∀x,x∈V↔x∈W)->∀x,x∈row.foldl (λV y=>if p y=true then AQ V y else V) V↔x∈row.foldl (λV y=>if p y=true then AQ V y else V) W|[],_,_,h=>h|y::row,V,W,h=>by rw[CW,CW];apply Fs row _ _;split;exact PK h y;exact h
def Ft{g:PGM}{row:D_}{S:List (Int×Int)}:∀(n:Nat)(V W left:D_),(∀x,x∈V↔x∈W)->∀x,x∈uL g row S n V left↔x∈uL g row S n W left
 |0,_,_,_,h=>h
 | n+1,V,W,left,h=>by
  have a:left.filter (λx=>!decide (x∈V))=left.filter λx=>!decide (x∈W):=List.filter_congr λx _=>by simp only[h]
  rw[uL,uL,a,LA h];dsimp only;split;exact h;split;exact Ft n _ _ _ (Fs (p:=λy=>lA g _ y||(decide (y∈_)&&B7 g row _ y)) row V W h);exact Ft n _ _ _ (PK h _)
def Xw{g:PGM}{row V W:D_}(h:∀x,x∈V↔x∈W):∀x,x∈sU g row V↔x∈sU g row W:=Ft _ _ _ _ h
def zH(l:D_):D_:=l.filter (B8 l)
def kW(g:PGM)(l:D_):D_:=mW g (sU g (eO g l) (zH l)) (eO g l)
def Rc{l V:D_}(h:∀x,x∈V↔x∈l/\B8 l x=true):∀x,x∈V↔x∈zH l:=λx=>by rw[h,zH,gR]
def PL{g:PGM}{l V:D_}(h:∀x,x∈V↔x∈l/\B8 l x=true):mW g (sU g (eO g l) V) (eO g l)=kW g l:=LA (Xw (Rc h)) _
def aGq{g:PGM}{l V:D_}(h:∀x,x∈V↔x∈l/\B8 l x=true)(x:Id):Gk g l V x=Gk g l (zH l) x:=by unfold Gk;rw[PL h];have h1:mW g (sU g (eO g l) (zH l)) (eO g l)=kW g l:=rfl;rw[h1];simp only[Rc h]
section
variable{G:L_}{T:aK}{p:Nat×Nat×Nat}{g:PGM}
def Vj(j:AK G)(h:GAt T p g)(f:GGood g){l:D_}(c:∀x∈l,x∈g.I)(e:l.Nodup):
 aA PQ G pN [.ptr p.1 0,ids l] T λr a=>r=ids (kW g l)/\a=T :=
 (aEN j (aEP G) h f c e).mono λr a ⟨⟨V,i,d⟩,b⟩=>⟨by rw[d,PL i],b⟩
def aHg(j:AK G)(h:GAt T p g)(f:GGood g){l:D_}(c:∀x∈l,x∈g.I)(e:l.Nodup)(x:Id):
 aA PQ G wB [.ptr p.1 0,ids l,.ag x.A] T λr a=>r=iv (Gk g l (zH l) x)/\a=T :=
 (aKN j (aEP G) h f c e x).mono λr a ⟨⟨V,i,d⟩,b⟩=>⟨by rw[d,aGq i],b⟩
end
def Rd{p:Id->Bool}:∀(row V:D_)(y:Id),y∈row.foldl (λV y=>if p y=true then AQ V y else V) V↔y∈V\/(y∈row/\p y=true)|[],V,y=>by simp|z::row,V,y=>by rw[CW,Rd row];split<;>grind[BR]
def Vk{g:PGM}{V:D_}{x:Id}:∀(row out:D_),x∈row.foldl (iS g V) out->x∈out\/(x∈row/\x∉V)|[],_,h=>.inl h|z::row,out,h=>by rcases Vk row _ h with h|h;grind[iS];simp_all
def Ac{g:PGM}{V row:D_}{x:Id}(h:x∈mW g V row):x∈row/\x∉V:=by simpa using Vk row [] h
def Ht {g:PGM} {row:D_} {S:List (Int×Int)}:∀(n:Nat)(V left:D_),left.length<=n ->
 (∀x∈row,jM (g.nd x).o=true->x∈left\/x∈V\/∀y∈row,lA g x y=true->y∈V) ->
 (∀x∈V,x∈uL g row S n V left)/\∀x∈row,jM (g.nd x).o=true->x∈uL g row S n V left\/∀y∈row,lA g x y=true->y∈uL g row S n V left
 |0,V,left,t,h=>by
  grind[uL]
 | n+1,V,left,t,h=>by
  rw[uL];dsimp only;have s:=List.length_filter_le (λx=>!decide (x∈V)) left;have h1:∀x∈row,jM (g.nd x).o=true->x∈left.filter (λx=>!decide (x∈V))\/x∈V\/∀y∈row,lA g x y=true->y∈V:=λx c f=>by have:=h x c f;grind
  generalize left.filter (λx=>!decide (x∈V))=L at *
  split;rename_i e;subst e;exact⟨λx c=>c,λx c f=>by simpa using h1 x c f⟩;rename_i e;obtain⟨h0,w⟩:=RY (g:=g) (row:=row) (S:=S) e;generalize yY g row S L=k at *
  have v:k.toNat<L.length:=o_;generalize k.toNat=i at *
  have ex:L.getD i default=L[i]:=by simp[rH,v]
  have m:(L.eraseIdx i).length<=n:=by rw[List.length_eraseIdx];split<;>omega
  have d:∀x∈L,x=L[i]\/x∈L.eraseIdx i:=λx c=>by obtain⟨j,u,rfl⟩:=List.mem_iff_getElem.1 c;by_cases e:j=i;subst e;exact .inl rfl;exact .inr (List.mem_eraseIdx_iff_getElem.2 ⟨j,u,e,rfl⟩)
  rw[ex];generalize L[i]=q at *
  split;have r:=λy=>Rd (p:=λy=>lA g q y||(decide (y∈L.eraseIdx i)&&B7 g row q y)) row V y
  obtain⟨a,b⟩:=Ht n (Mb g row q (L.eraseIdx i) V) (L.eraseIdx i) (S:=S) m (λx c f=>by
   rcases h1 x c f with h|h|h;rcases d x h with rfl|h;exact .inr (.inr λy l e=>(r y).2 (.inr ⟨l,by simp[e]⟩));exact .inl h;exact .inr (.inl ((r x).2 (.inl h)))
   exact .inr (.inr λy l e=>(r y).2 (.inl (h y l e))))
  exact⟨λx c=>a x ((r x).2 (.inl c)),b⟩
  obtain⟨a,b⟩:=Ht n (AQ V q) (L.eraseIdx i) (S:=S) m (λx c f=>by
   rcases h1 x c f with h|h|h;rcases d x h with rfl|h;exact .inr (.inl (BR.2 (.inr rfl)));exact .inl h;exact .inr (.inl (BR.2 (.inl h)))
   exact .inr (.inr λy l e=>BR.2 (.inl (h y l e))))
  exact⟨λx c=>a x (BR.2 (.inl c)),b⟩
def Re{g:PGM}{row V:D_}:(∀x∈V,x∈sU g row V)/\∀x∈row,jM (g.nd x).o=true->x∈sU g row V\/∀y∈row,lA g x y=true->y∈sU g row V :=
 Ht _ _ _ (List.length_filter_le ..) λx a b=>.inl (gR.2 ⟨a,b⟩)
def PM{g:PGM}{l:D_}{x:Id}(h:x∈kW g l):x∈l/\x∉sU g (eO g l) (zH l):=
 ⟨(mE g l).mem_iff.1 (Ac h).1,(Ac h).2⟩
def bfM(g:GM)(x y:Id):Bool:=decide (x∈g.I)&&(decide (y∈g.I)&&(g.In.getD (aW g.I y).toNat []).getD (aW g.I x).toNat false)
def aJL{p:PGM}{g:GM}(s:Sim p g)(d:g.L.length<=200)(x y:Id):oH p x y=bfM g x y:=by
 have h:p.I.length=g.L.length:=by rw[PGM.I,<-s.l,aP,aP]
 by_cases mx:x∈p.I;by_cases a:y∈p.I;obtain⟨j,c,f,_⟩:=dG mx;obtain⟨k,b,e,_⟩:=dG a;rw[aJ7 s d c b o_ o_ mx a];rw[s.i]at mx a c b;unfold bfM aW qX inG;simp[mx,a,c,b];unfold oH bfM;rw[<-s.i];simp[a];unfold oH bfM;rw[<-s.i];simp[mx]
def RU.trans{a:List V_}{up:V_}{i k:Nat}(h:RU a up i)(h2:RU a (a.getD i []) k):RU a up k:=by
 induction h2 with
 |base h2=>exact .step h h2|step _ h3 ih=>exact .step ih h3
section
variable{g:GM}
def aBB(b:g.I.length=g.L.length){x:Id}(a:x∈g.I):(aW g.I x).toNat<g.L.length:=by have h1:=(Cz g.I x).2 a;have h2:=(AZ g.I x).1;omega
def aGT(w:g.wf){x y z:Id}(h1:bfM g x y=true)(h2:bfM g y z=true):bfM g x z=true:=by
 unfold bfM at *
 simp only[zJ,decide_eq_true_eq]at *
 refine⟨h1.1,h2.2.1,?_⟩;have a:=(w.past _ (aBB w.i h1.2.1) _).1 h1.2.2;have b:=(w.past _ (aBB w.i h2.2.1) _).1 h2.2.2;exact(w.past _ (aBB w.i h2.2.1) _).2 (b.trans a)
def aH3(a:g.I.Nodup){i:Nat}(h:i<g.I.length):aW g.I g.I[i]=i:=by obtain⟨j,e,b,_,h2⟩:=dG (eQ h);have:j=i:=(C9 a).1 h2;unfold aW qX;rw[e,this]
def aE3{x:Id}(b:x∈g.I):g.I.getD (aW g.I x).toNat default=x:=by obtain⟨j,e,a,_,h2⟩:=dG b;unfold aW qX;rw[e];simp[rH,a,h2]
def aCE{I:D_}{y:Id}:∀(l out:D_),y∈l.foldl (vL I) out↔y∈out\/(y∈l/\y∈I)|[],out=>by simp|z::l,out=>by rw[CW,aCE l];unfold vL;split;rename_i a;simp only[zJ,decide_eq_true_eq]at a;have:=(Cz I z).1 a.1;grind;rename_i a;simp only[zJ,decide_eq_true_eq,EX,decide_eq_false_iff_not]at a;have:=Cz I z;grind
def aBF(d:g.I.length=g.L.length)(c:g.I.Nodup){l:D_}{y:Id}:y∈Fd g l↔(y∈l/\y∈g.I)\/∃x∈l,bfM g y x=true:=by
 unfold Fd rV;rw[(dQ _).mem_iff,aCE,(dQ _).mem_iff,or_comm];apply or_congr .rfl;unfold Le B3 bfM;simp only[dF,gR,uM,CX,zJ,decide_eq_true_eq,Cz];constructor;rintro⟨i,⟨h1,x,a,h2,h3⟩,rfl⟩;have b:i<g.I.length:=o_;have e:g.I.getD i default=g.I[i]:=by simp[rH,b]
 rw[e,aH3 c b];exact⟨x,a,eQ b,h2,h3⟩;rintro⟨x,a,h1,h2,h3⟩;exact⟨_,⟨aBB d h1,x,a,h2,h3⟩,aE3 h1⟩
def aBD(w:g.wf)(c:g.I.Nodup){l:D_}{y z:Id}(a:y∈Fd g l)(h:bfM g z y=true):z∈Fd g l:=by
 rw[aBF w.i c]at *
 rcases a with⟨h1,_⟩|⟨x,b,h1⟩
 exact .inr ⟨y,h1,h⟩;exact .inr ⟨x,b,aGT w h h1⟩
def aC1(w:g.wf)(b:g.I.Nodup){m:B_}{y z:Id}(a:y∈qI g m)(h:bfM g z y=true):z∈qI g m:=by
 unfold qI at *
 split at a;rename_i c;rw[if_pos c,(dQ _).mem_iff];unfold bfM at h;simp only[zJ,decide_eq_true_eq]at h;exact h.1;rename_i c;rw[if_neg c];exact aBD w b a h
def aJd(w:g.wf)(c:g.I.Nodup){m:B_}{x y:Id}(b:x∈qI g m)(a:y∈Fd g [x]):y∈qI g m:=by
 rw[aBF w.i c]at a;rcases a with⟨h1,_⟩|⟨z,d,h1⟩
 rw[cA.1 h1];exact b;rw[cA.1 d]at h1;exact aC1 w c b h1
end
def aBE {g:PGM} {V:D_} {D:Id->Bool}:∀(r out:D_),(∀y∈r,D y=true->∀z,z∈out\/z∈r->oH g z y=true->D z=true) ->
 (r.foldl (iS g V) out).filter D=(r.filter D).foldl (iS g V) (out.filter D)
 |[],_,_=>rfl| y::r,out,h=>by
  have i:∀z,z∈iS g V out y->z∈out\/z=y:=λz a=>by unfold iS at a;grind
  rw[CW,aBE r _ λu d b z a c=>h u (.tail _ d) b z (by
   rcases a with a|a;rcases i z a with a|rfl;exact .inl a;exact .inr (.head _)
   exact .inr (.tail _ a)) c]
  have f:(iS g V out y).filter D=if D y=true then iS g V (out.filter D) y else out.filter D:=by
   split;rename_i b;have e:Lo g (out.filter D) y=Lo g out y:=by
    unfold Lo;rw[List.filter_filter];congr 1;refine List.filter_congr λz a=>?_
    cases c:oH g z y with
    |false=>rfl|true=>simp[h y (.head _) b z (.inl a) c]
   unfold iS;rw[e];split;rw[Mf];simp[b];rfl;rename_i b;unfold iS;split;rw[Mf];simp[b];rfl
  rw[f,List.filter_cons];split;rw[CW];rfl
def aE4{g:PGM}{S O:D_}(a:S.Nodup)(b:O.Nodup)(h:∀x∈O,x∈S):(eO g S).filter (λx=>decide (x∈O))=eO g O:=by refine aBC ?_ ((U4 g S).filter _) (U4 g O);refine(aBH (((mE g S).nodup_iff.2 a).filter _) ((mE g O).nodup_iff.2 b)).2 λx=>?_;rw[gR,(mE g S).mem_iff,(mE g O).mem_iff];grind
def aDy{g:PGM}{row V:D_}(h:∀x∈row,jM (g.nd x).o=false):sU g row V=V:=by
 unfold sU;rw[List.filter_eq_nil_iff.2 λx a=>by simp[h x a]]
 cases row.length with
 |zero=>rfl|succ n=>rw[uL];rfl
def aET{S O:D_}(h:∀x∈O,x∈S)(f:zH S=[]):zH O=[]:=by
 unfold zH at *
 rw[List.filter_eq_nil_iff]at *
 intro x c d;apply f x (h x c);unfold B8 at *
 simp only[CX]at *
 obtain⟨y,b,z,a,e⟩:=d;exact⟨y,h y b,z,h z a,e⟩
def aE5{g:PGM}{S O:D_}(j:S.Nodup)(k:O.Nodup)(h:∀x∈O,x∈S)(b:∀x∈S,jM (g.nd x).o=false)(c:zH S=[])(f:∀y∈O,∀z,oH g z y=true->z∈O)
 {x:Id} (a:x∈O):x∈kW g O↔x∈kW g S:=by
 have h1:∀x∈eO g S,jM (g.nd x).o=false:=λx a=>b x ((mE g S).mem_iff.1 a);have h2:∀x∈eO g O,jM (g.nd x).o=false:=λx a=>b x (h x ((mE g O).mem_iff.1 a));unfold kW;rw[aDy h1,aDy h2,aET h c,c];have e:=aBE (g:=g) (V:=[]) (D:=λx=>decide (x∈O)) (eO g S) [] λy _ d z _ i=>decide_eq_true (f y (of_decide_eq_true d) z i);rw[aE4 j k h]at e;have l:x∈(mW g [] (eO g S)).filter (λx=>decide (x∈O))↔x∈mW g [] (eO g O):=by unfold mW;rw[e];rfl
 rw[<-l,gR];simp[a]
def aKP:eO (lQ 6) BP.I=BP.I:=by unfold eO;exact List.mergeSort_of_pairwise s7
def aKQ(g:PGM)(l:D_):D_:=mW g (uL g l (Xu 0 (l.foldl (kV g) []) (KZ g.cards)) l.length (zH l) (l.filter λx=>jM (g.nd x).o)) l
def aGr{g:PGM}{l:D_}(h:eO g l=l):kW g l=aKQ g l:=by unfold kW sU aBt BQ aKQ;simp only[h]
def aHh:kW (lQ 6) BP.I=Za.I:=(aGr aKP).trans s_
def aKR:Gk (lQ 6) BP.I (zH BP.I) lI6=15:=by unfold Gk;have h:mW (lQ 6) (sU (lQ 6) (eO (lQ 6) BP.I) (zH BP.I)) (eO (lQ 6) BP.I)=Za.I:=aHh;rw[h];decide +kernel
section
variable{G:L_}
def aIS(e:AK G):LivesP G:=by
 have c:=lR6.ggood rY JP;have hI:(AM bQ BP.L).I=BP.I:=by rw[Zb];rfl
 have a:∀x∈BP.I,x∈(AM bQ BP.L).I:=λx f=>by rw[hI];exact f
 have b:BP.I.Nodup:=s7;have d:GAt (TG 0 (AM bQ BP.L)) (0,1,2) (AM bQ BP.L):=⟨rfl,rfl,rfl,d_,d_,d_⟩
 have h1:=Vj e d c a b;have h2:=aHg e d c a b lI6;have h:kW (AM bQ BP.L) BP.I=Za.I:=by rw[Zb];exact aHh
 have g:Gk (AM bQ BP.L) BP.I (zH BP.I) lI6=15:=by rw[Zb];exact aKR
 rw[h]at h1;rw[g]at h2;exact⟨h1,h2,by rw[Zb];kernel_rfl⟩
end
def Reach.nd{cs:List CardM}(j:cardsOk cs){g:GM}(h:Reach cs g):g.I.Nodup:=by
 induction h with
 |new=>exact Mm| @add g o f i d ih=>
  by_cases h:(dV g o).1=0;rotate_left;grind[addM];have a:=Ff h;rw[yE a h,vQ];refine⟨ih,k_,?_⟩;intro x c y b e;rw[cA.1 b]at e;exact a.twice ((Cz g.I _).2 (e ▸ c))
section
variable{G:L_}
end
section
open W
def aBA:cF aAO [(15,none,0)]=some ⟨117,[(4,none)],S [R0 4 1 [M F],R 16 2 [0] [c2 Ew v0 (w 14),J 5 (s 5 (al zS5) (t 17))],D 18 4 [] [A 6 (c2 xO (L 5 t5) (K [zv 18 5 5] (c1 zQ (L 5 t5))))],S [R0 22 1 [v6,x (.nilS false 0 (zt 22))],If 23 [5,1,6] (S [E0 [A 4 F],.ret])],R 24 3 [1] [A 7 (c2 zR (L 5 t5) v1)],R0 27 3 [A 8 (c2 Bh v6 v7)],R0 30 3 [A 9 (c2 pN v6 v7)],E0 [A 10 F],S [i0 11,fo 0 33 3 (ls v11 (n v7)) [11] 11 (S [D 39 11 [] [A 12 (l (f 2 (i 27 (l (f 1 t5)) (K [zl 40 39,zf 39 5 1] (c2 oJ (L 5 t5) (L 3 (i 3 v7 v11)))))))],R 50 13 [12] [A 10 (O (O (O v10 (eq v12 w3)) (eq v12 (w 13))) (eq v12 (w 12)))]])],S [i0 13,fo 2 63 3 (ls v13 (n v7)) [9,7,13,5,10,6,8] 13 (S [R0 69 6 [A 14 (c2 oK v9 (L 3 (i 3 v7 v13)))],S [R0 75 5 [c2 oK v8 (L 3 (i 3 v7 v13))],If 80 [] (S [S [R 81 10 [14] [O v14 (ne (c3 wB v6 v7 (L 3 (i 3 v7 v13))) (w 13))],If 91 [13,8,10,5,6,9,7] (S [E0 [A 4 F],.ret])],ex 3])],R0 92 6 [N (o v10) (eq (n v8) w0)],Iz 98 [] (S [S [D 99 7 [] [A 15 (c2 qR (L 5 t5) (K [zv 99 5 5] (ba 3 zI (L 3 (i 3 v7 v13)))))],.shut 15],D 106 9 [15,14] [v6,v15,J 109 (L 3 (i 3 v7 v13)),J 114 v14,J 108 (K [zm 114 14,zv 112 3 111,zi 111 109 110 3,zm 110 13,zm 109 7] (c2 pN (t 106) (t 107))),J 113 (K [zm 114 14] (c2 oK (t 108) (t 112))),J 115 (x (.eqb true (zt 113) (zt 114)))],If 115 [13,8,10,5,6,9,7] (S [E0 [A 4 F],.ret])]) [14]])],R0 116 1 [A 4 (c0 Ey)],.ret]⟩:=s_
end
section
variable{G:L_}
def aH5{p:PGM}{S:D_}{i:Nat}(a:i<S.length):(S.take (i+1)).any (λx=>jM (p.nd x).o)=((S.take i).any (λx=>jM (p.nd x).o)||jM (p.nd S[i]).o):=by rw[lB a,List.any_append];simp
def aE2 (hK:GK G) (Z:AK G) (l m:B_) (hl:l.length<=2^63-1) (b:∀n∈l,mZ n) (hm:m.length<=2^63-1) (af:∀n∈m,mZ n):
 aA PQ G aAO [rG l,rG m] [] λr T=>r=.v (.bool true)/\T=[]:=by
 apply aC aBA;simp only[go_sem];apply Jo (aBj l hl b 14 d_);rintro r X ⟨⟨g,Q,aw,rfl⟩,rfl⟩;have k:=Q.hyp6.1;have U:=Q.good rY;have E:=Q.ggood rY JP;simp only[go_sem];apply cX (VZ g k);simp only[go_sem];apply kM (RS hK Q);have P:=U.sim;have w:(AM bQ g.L).I=g.I:=U.sim.i;generalize AM bQ g.L=p at *
 simp only[go_sem,TG,MG];apply cX (aE7 g k m hm af);have d:=Q.nd rY;have N:=XW k.i m;have B:=Sy k.i d m;have av:=XX k m;have ak:=λx c y=>aJd U.wf d (m:=m) (x:=x) (y:=y) c;generalize qI g m=S at *
 have Y:GAt (TG 0 p) (0,1,2) p:=⟨rfl,rfl,rfl,d_,d_,d_⟩
 have q:∀x∈S,x∈p.I:=λx c=>by rw[w];exact N x c
 have hC:=Vj Z Y E q B;have F:=aEP G (TG 0 p) (0,1,2) p S Y E B q;have hW:=λx=>aHg Z Y E q B x;have R:=λx=>uJ (G:=G) (kW p S) x;simp only[go_sem];apply aG (T2:=TG 0 p) [1,2,3] (aB _) d_ k_ rfl i_ F;rintro r X ⟨⟨V,F,am,rfl⟩,rfl⟩;simp only[go_sem,TG,MG];apply aG (T2:=TG 0 p) [1,2,3] (aB _) d_ k_ rfl i_ hC;rintro r X ⟨rfl,rfl⟩;have f1:∀x∈V,x∉kW p S:=λx c h=>(PM h).2 (Re.1 x ((Rc F x).1 c));have f2:∀x∈V,Gk p S (zH S) x=13:=λx c=>by have hs:=((F x).1 c).1;unfold Gk;rw[if_neg (by simp[q x hs,hs]),if_pos ((Rc F x).1 c)]
 have ai:V=[]->(∀x∈S,jM (p.nd x).o=false)->∀x∈S,decide (x∈kW p (Fd g [x]))=decide (x∈kW p S):=λhv f x c=>by
  have hf:zH S=[]:=TS.2 λy M=>by have:=(Rc F y).2 M;rw[hv]at this;exact absurd this k_
  have aa:x∈Fd g [x]:=(aBF k.i d).2 (.inl ⟨k_,N x c⟩);exact decide_eq_decide.2 (aE5 B (XV k.i d [x]) (ak x c) f hf (λy M z J=>aBD U.wf d M (by rw[<-aJL P U.n];exact J)) aa)
 have ax:V.length<=1000:=by have:=List.Nodup.length_le_of_subset am λx c=>((F x).1 c).1;omega
 have ay:(kW p S).length<=1000:=by have h:=(Aa (g:=p) (V:=sU p (eO p S) (zH S)) (eO p S) []).length_le;rw[dM,aDM]at h;have h2:(kW p S).length<=S.length:=h;omega
 have ap:=λx=>uJ (G:=G) V x g_;have R:=λx=>uJ (G:=G) (kW p S) x g_;have an:=λx=>Dt (G:=G) g x k;have al:=λx=>XG (G:=G) g [x] k k_;have ar:=λx=>Vj Z Y E (λy M=>by rw[w];exact Fg k.i [x] y M) (XV k.i d [x]);have aq:=λx=>uJ (G:=G) (kW p (Fd g [x])) x;have au:∀x∈S,∃(j:Nat)(h:j<g.L.length),aW g.I x=(j:Int)/\(p.nd x).o=g.L[j]:=λx c=>by
  obtain⟨j,e,lj,_⟩:=dG (q x c);have H:j<g.L.length:=by rw[w]at lj;rw[<-k.i];exact lj
  refine⟨j,H,?_,?_⟩;unfold aW qX;rw[<-w,e];rw[(aGf P e H).1];simp[rH,H]
 have ao:=aBl hK (aIS Z);clear hC;generalize kW p S=C at *
 obtain⟨T0,a⟩:∃T0:aK,T0=[some (.box g.A),some (.box [.ls 5 (p.cards.map CardM.A),.mp 2,.own 3]),some (MG p.I),some (.arr 35 (p.nodes.map ND.A))]:=⟨_,rfl⟩
 simp only[go_sem,TG,MG];refine aQ S.length (λi=>⟨0,[(5,.ptr 0 0),(6,.ptr 1 0),(7,ids S),(8,ids V),(9,ids C),(10,.v (.bool ((S.take i).any λx=>jM (p.nd x).o))),(11,iv i)],T0⟩) (λ_=>True) (by simp only[go_sem,a,MG];rfl) trivial ?_ ?_
 ·intro i b _;have t:=fQ i o_;have s:(S.map Id.A)[i]?=some S[i].A:=aO _ S i b;obtain⟨j,H,ej,eo⟩:=au S[i] (eQ b);have gj:(g.L.map OpM.A)[j]?=some g.L[j].A:=aO _ g.L j H;have hp:=an S[i];rw[ej]at hp;have f:=aH5 (p:=p) b;rw[eo]at f;simp only[go_sem,a,MG,aP,aT b,b,s];apply cX hp;simp only[go_sem,a,MG,aP,H,gj];generalize g.L[j]=o at *
  have ek:jM o=(o.Kind==3||o.Kind==13||o.Kind==12):=rfl;rw[ek]at f;cases c0:(S.take i).any λx=>jM (p.nd x).o
  ·rw [c0]at f;cases c1:o.Kind==3
   ·cases c2:o.Kind==13
    ·cases c3:o.Kind==12
     all_goals
      rw[c1,c2,c3]at f
      simp only[go_sem,a,MG,t,c0,c1,c2,c3,f,EB,Ed]
    rw[c1,c2]at f;simp only[go_sem,a,MG,t,c0,c1,c2,f,EB,Ed,EI]
   rw[c1]at f;simp only[go_sem,a,MG,t,c0,c1,f,EB,Ed,EI]
  rw[c0]at f;simp only[go_sem,a,MG,t,c0,f,EI]
 intro _;simp only[go_sem,a,MG,aP,aS (bP _),dE];have ae:(S.any λx=>jM (p.nd x).o)=false->∀x∈S,jM (p.nd x).o=false:=λh x c=>by rw[List.any_eq_false]at h;simpa using h x c
 generalize(S.any λx=>jM (p.nd x).o)=K at *
 refine aQ S.length (λi=>⟨0,[(5,.ptr 0 0),(6,.ptr 1 0),(7,ids S),(8,ids V),(9,ids C),(10,.v (.bool K)),(13,iv i)],T0⟩) (λ_=>True) (by simp only[go_sem,a,MG]) trivial ?_ ?_;intro i b _;have t:=fQ i o_;have m0:=eQ b;have s:(S.map Id.A)[i]?=some S[i].A:=aO _ S i b;have g1:=f1 S[i];have g2:=f2 S[i];have hc:=R S[i];have hv:=ap S[i];have hw:=hW S[i];have ab:=al S[i];have aj:=ar S[i];have ah:=aq S[i];simp only[go_sem,a,MG,aP,aT b,b,s];apply cX hc;simp only[go_sem,a,MG,aP,b,s];apply cX hv;by_cases u:S[i]∈V;have W:decide (S[i]∈V)=true:=decide_eq_true u;have e2:decide (S[i]∈C)=false:=decide_eq_false (g1 u);rw[g2 u]at hw;simp only[go_sem,a,MG,aP,b,s,W,e2];apply aG (T2:=TG 0 p) [1,2,3] (aB _) d_ k_ rfl i_ hw;rintro r X ⟨rfl,rfl⟩;simp only[go_sem,a,TG,MG,t];have W:decide (S[i]∈V)=false:=decide_eq_false u
 cases K with
 |true=>simp only[go_sem,a,MG,aP,b,s,W,t]| false=>
  cases J:((V.length:Int)==0);simp only[go_sem,a,MG,aP,b,s,W,t,J];have ac:V=[]:=List.length_eq_zero_iff.1 (by have:=eq_of_beq J;omega);have e3:=ai ac (ae rfl) S[i] m0;simp only[go_sem,a,MG,aP,b,s,W,J];apply cH (args2:=[.ag g.A,ids [S[i]]]) (aB _) rfl rfl ab;rintro r X ⟨rfl,rfl⟩;refine⟨x_,sw,?_⟩;have ad:(kW p (Fd g [S[i]])).length<=maxLen:=by have h:=(Aa (g:=p) (V:=sU p (eO p (Fd g [S[i]])) (zH (Fd g [S[i]]))) (eO p (Fd g [S[i]])) []).length_le;rw[dM,aDM]at h;have h2:(kW p (Fd g [S[i]])).length<=(Fd g [S[i]]).length:=h;have h3:=Ou (g:=g) [S[i]];simp only[GT]at h3;unfold maxLen;omega
  have hh:=ah ad;generalize Fd g [S[i]]=O at *
  generalize kW p O=D at *
  simp only[go_sem,a,MG,aP,b,s];apply aG (T2:=TG 0 p) [1,2,3] (aB _) d_ k_ rfl i_ aj;rintro r X ⟨rfl,rfl⟩;simp only[go_sem,TG,MG,aP,b,s];apply cX hh;simp only[go_sem,a,MG,aP,b,s,e3,beq_self_eq_true,t]
 intro _;simp only[go_sem,a,MG,aP,aS (bP _)];apply cX ao;simp only[go_sem]
end
end Hud
