import Derived.Test.YtlhonkjgkfdnmaaGreatDoorLib39
set_option linter.all false
set_option maxHeartbeats 40000000
namespace Hud
open Go
section
variable{p q:PGM}
def aPA{x y:Id}(b:Same p q x)(a:Same p q y):P0 p x y=P0 q x y:=by unfold P0 Su;simp[b.l,b.r,a.l,a.r,b.lv,a.lv]
def aMD{l:D_}(a:∀x∈l,Same p q x):eO p l=eO q l:=by refine aJd (g:=p) ((mE p l).trans (mE q l).symm) (U4 p l) ?_;refine(U4 q l).imp_of_mem λc b h=>?_;rw[aPA (a _ ((mE q l).mem_iff.1 b)) (a _ ((mE q l).mem_iff.1 c))];exact h
variable(hc:p.cards=q.cards)
include hc
def aM6{x y:Id}(c:Same p q x)(a:Same p q y):lA p x y=lA q x y:=by unfold lA;rw[hc,c.o,a.o,c.b,a.b];simp[c.l,c.r,a.l,a.r]
def aM7{row:D_}(e:∀z∈row,Same p q z){x y:Id}(d:Same p q x)(c:Same p q y):B7 p row x y=B7 q row x y:=by unfold B7;congr 1;rw[CT,CX,CX];refine exists_congr λz=>and_congr_right λa=>?_;rw[d.b,aM6 hc c (e z a)]
def aP5{s:D_}(f:∀y∈s,Same p q y){x:Id}(e:Same p q x):Lo p s x=Lo q s x:=by
 unfold Lo;rw[hc,List.filter_congr λy _=>e.b y];have a:∀(l:D_)(r:RM),(∀y∈l,Same p q y)->l.foldl (ZO p) r=l.foldl (ZO q) r:=by
  intro l
  induction l with
  |nil=>intro r _;rfl|cons y l ih=>
   intro r h;rw[CW,CW,ih _ λz c=>h z (.tail _ c),ZO,ZO,(h y (.head _)).o]
 exact a _ _ λy d=>f y (gR.1 d).1
def aM8 {V row:D_} (c:∀x∈row,Same p q x):mW p V row=mW q V row:=by
 have b:∀(row out:D_),(∀x∈row,Same p q x)->(∀x∈out,Same p q x)->row.foldl (iS p V) out=row.foldl (iS q V) out:=by
  intro row
  induction row with
  |nil=>intro out _ _;rfl| cons x row ih=>
   intro out h k;have e:iS p V out x=iS q V out x:=by unfold iS;rw[aP5 hc k (h x (.head _)),(h x (.head _)).o]
   rw[CW,CW,e];refine ih _ (λz a=>h z (.tail _ a)) λz a=>?_;unfold iS at a;split at a;rcases cG.1 a with a|a;exact k z a;rw[cA.1 a];exact h x (.head _);exact k z a
 exact b row [] c s_
def aNG {row:D_} (g:∀z∈row,Same p q z) {S:List (Int×Int)} {a:D_} (f:∀x∈a,Same p q x):yY p row S a=yY q row S a:=by
 have c:∀(l:D_)(i:Nat)(b:Int),(∀x∈l,Same p q x)->AP p row S a l i b=AP q row S a l i b:=by
  intro l
  induction l with
  |nil=>intro i b _;rfl| cons x l ih=>
   intro i b h;have e:(a.any λy=>B7 p row x y)=a.any λy=>B7 q row x y:=by rw[CT,CX,CX];exact exists_congr λz=>and_congr_right λd=>by rw[aM7 hc g (h x (.head _)) (f z d)]
   rw[AP,AP,e,ih _ _ λz d=>h z (.tail _ d)]
 exact c a 0 (-1) f
def aJJ {row:D_} (a:∀z∈row,Same p q z) {S:List (Int×Int)}:∀(n:Nat)(V left:D_),(∀x∈left,Same p q x)->uL p row S n V left=uL q row S n V left
 |0,_,_,_=>rfl
 | n+1,V,left,h=>by
  have d:∀x∈left.filter (λx=>!decide (x∈V)),Same p q x:=λx o=>h x (gR.1 o).1;rw[uL,uL];dsimp only;generalize left.filter (λx=>!decide (x∈V))=L at *
  split;rfl;rename_i e;have s:=RY (g:=p) (row:=row) (S:=S) e;rw[<-aNG hc a d,aM8 hc a];generalize yY p row S L=k at *
  have j:k.toNat<L.length:=by omega
  generalize k.toNat=i at *
  have ex:L.getD i default=L[i]:=by simp[rH,j]
  rw[ex];have f:=d _ (eQ j);have m:∀z∈L.eraseIdx i,Same p q z:=λz c=>d z (List.mem_of_mem_eraseIdx c);split;have r:Mb p row L[i] (L.eraseIdx i) V=Mb q row L[i] (L.eraseIdx i) V:=by
   unfold Mb;have b:∀(l V:D_),(∀x∈l,Same p q x)->l.foldl (λV y=>if(lA p L[i] y||(decide (y∈L.eraseIdx i)&&B7 p row L[i] y))=true then AQ V y else V) V=l.foldl (λV y=>if(lA q L[i] y||(decide (y∈L.eraseIdx i)&&B7 q row L[i] y))=true then AQ V y else V) V:=by
    intro l
    induction l with
    |nil=>intro V _;rfl
    |cons y l ih=>
     intro V h;rw[CW,CW,aM6 hc f (h y (.head _)),aM7 hc a f (h y (.head _)),ih _ λz c=>h z (.tail _ c)]
   exact b row V a
  rw[r,aJJ a n _ _ m];exact aJJ a n _ _ m
def aP6 {row:D_} (b:∀z∈row,Same p q z) (V:D_):sU p row V=sU q row V:=by
 have f:aBt p row=aBt q row:=by
  unfold aBt BQ;rw[hc,aMD b];congr 1;have c:∀(l:D_)(out:B_),(∀x∈l,Same p q x)->l.foldl (kV p) out=l.foldl (kV q) out:=by
   intro l
   induction l with
   |nil=>intro out _;rfl|cons y l ih=>
    intro out h;rw[CW,CW,ih _ λz d=>h z (.tail _ d),kV,kV,(h y (.head _)).o]
  exact c _ _ λx a=>b x ((mE q row).mem_iff.1 a)
 have e:(row.filter λx=>jM (p.nd x).o)=row.filter λx=>jM (q.nd x).o:=List.filter_congr λx a=>by rw[(b x a).o]
 unfold sU;rw[f,e];exact aJJ hc b _ _ _ λx a=>b x (gR.1 a).1
def aME{l:D_}(a:∀x∈l,Same p q x):kW p l=kW q l:=by have b:∀x∈eO q l,Same p q x:=λx c=>a x ((mE q l).mem_iff.1 c);unfold kW;rw[aMD a,aP6 hc b,aM8 hc b]
end
def aQi(g:PGM)(l:D_):1<=Fa g l/\∀x∈l,(g.nd x).lv+1<=Fa g l:=by
 have a:∀(l:D_)(m:Int),m<=l.foldl (λm x=>max m ((g.nd x).lv+1)) m/\∀x∈l,(g.nd x).lv+1<=l.foldl (λm x=>max m ((g.nd x).lv+1)) m:=by
  intro l
  induction l with
  |nil=>intro m;simp|cons y l ih=>
   intro m;have h:=ih (max m ((g.nd y).lv+1));rw[CW];refine⟨o_,λx b=>?_⟩;rcases cS.1 b with rfl|b;omega;exact h.2 x b
 exact a l 1
section
variable{cs:List CardM}{L:List OpM}
def aJf (c:∀i,(AM cs (L.take i)).ok) (b:∀i(h:i<L.length),(sR (AM cs (L.take i)) L[i]).2=0):∀i,i<=L.length ->
 (AM cs (L.take i)).wf/\(AM cs (L.take i)).I=(L.take i).map C7/\∀j,j<=i->∀x∈(AM cs (L.take j)).I,Same (AM cs (L.take j)) (AM cs (L.take i)) x
 |0,_=>by
  refine⟨⟨by simp[AM,PGM.I],by simp[AM,PGM.I]⟩,by simp[AM,PGM.I],λj l=>?_⟩;obtain rfl:j=0:=o_;exact λx d=>⟨d,d,rfl,rfl,λ_=>rfl⟩
 | i+1,h=>by
  obtain⟨w,e,s⟩:=aJf c b i o_;obtain⟨t,m⟩:=aO9 (c i) w (b i o_);have f:AM cs (L.take (i+1))=(sR (AM cs (L.take i)) L[i]).1:=by rw[lB o_,MS]
  rw[m]at f;obtain⟨w1,k,g,_⟩:=aOa (c i) w t f;refine⟨w1,?_,?_⟩;rw[k,e,lB o_,bZ];rfl;intro j l x d;rcases eD i j with h1|h1;obtain rfl:j=i+1:=o_;exact⟨d,d,rfl,rfl,λ_=>rfl⟩;have a:=s j h1 x d;exact a.trans (g x a.r)
def aP7(c:∀i,(AM cs (L.take i)).ok)(a:∀i(h:i<L.length),(sR (AM cs (L.take i)) L[i]).2=0){k:Nat}(f:k<L.length):
 Took (AM cs (L.take k)) L[k]/\(∀x∈(AM cs (L.take k)).I,Same (AM cs (L.take k)) (AM cs L) x)/\C7 L[k]∈(AM cs L).I/\((AM cs L).nd (C7 L[k])).o=L[k]/\((AM cs L).nd (C7 L[k])).lv=Fa (AM cs (L.take k)) L[k].Past/\∀y,oH (AM cs L) y (C7 L[k])=anc (AM cs (L.take k)) L[k] y:=by
 obtain⟨w,e,_⟩:=aJf c a k o_;obtain⟨t,p⟩:=aO9 (c k) w (a k f);have g:AM cs (L.take (k+1))=(sR (AM cs (L.take k)) L[k]).1:=by rw[lB f,MS]
 rw[p]at g;obtain⟨w1,m,u,j,l,q⟩:=aOa (c k) w t g;have d:=(aJf c a L.length (cN _)).2.2;rw[dE]at d;have s:=d (k+1) o_ (C7 L[k]) (by rw[m];simp);exact⟨t,λx n=>d k o_ x n,s.r,by rw[<-s.o,j],by rw[<-s.lv,l],λy=>by rw[<-s.b,q]⟩
end
section
variable{g:GM}
def aP8(d:g.I.length=g.L.length)(c:g.I.Nodup){l:D_}{y:Id}:y∈rV g l↔∃x∈l,bfM g y x=true:=by
 unfold rV;rw[(dQ _).mem_iff];unfold Le B3 bfM;simp only[dF,gR,uM,CX,zJ,decide_eq_true_eq,Cz];constructor;rintro⟨i,⟨h1,x,a,h2,h3⟩,rfl⟩;have b:i<g.I.length:=o_;have e:g.I.getD i default=g.I[i]:=by simp[rH,b]
 rw[e,aP2 c b];exact⟨x,a,eQ b,h2,h3⟩;rintro⟨x,a,h1,h2,h3⟩;exact⟨_,⟨aJ3 d h1,x,a,h2,h3⟩,aNF h1⟩
end
section
variable{G:L_}
end
def aNI{p q:PGM}{C:D_}(c:p.cards=q.cards)(h:∀x∈C,(p.nd x).o=(q.nd x).o):aBA p C=aBA q C:=by
 have e:∀x∈C,aJF p (p.nd x).o=aJF q (q.nd x).o:=λx a=>by unfold aJF;rw[h x a,c]
 have f:∀(l:D_)(H:List RK),(∀x∈l,x∈C)->l.foldl (aE2 p) H=l.foldl (aE2 q) H:=by
  intro l
  induction l with
  |nil=>exact λ_ _=>rfl|cons x l ih=>
   intro H d;have a:=d x s_;rw[CW,CW,show aE2 p H x=aE2 q H x by unfold aE2;rw[e x a,h x a]];exact ih _ λy b=>d y (by simp[b])
 have g:aH9 p C=aH9 q C:=f C [] λ_ h=>h;have j:∀x,aBE p C x=aBE q C x:=λx=>by unfold aBE;rw[CT,CX,CX];exact exists_congr λy=>and_congr_right λb=>by rw[h y b]
 have i:(C.filter λx=>decide ((p.nd x).o.Kind=6))=C.filter λx=>decide ((q.nd x).o.Kind=6):=List.filter_congr λx a=>by rw[h x a]
 unfold aBA aBB;rw[i,g];simp only[j]
structure Last1(g:PGM)(row:List Id)(x:Id):Prop where
 new:x∉row
 kill:jM (g.nd x).o=false
 quiet:byO (g.nd x).o=none
 k:∀y∈row,lA g y x=false
 b:∀y∈row,oH g x y=false
 lt:∀y∈row,P0 g y x=true
section
variable{g:PGM}{row:D_}{x:Id}
def Last1.perm{l:D_}(h:Last1 g row x)(p:l.Perm row):Last1 g l x :=
 ⟨λa=>h.new (p.mem_iff.1 a),h.kill,h.quiet,λy c=>h.k y (p.mem_iff.1 c),λy c=>h.b y (p.mem_iff.1 c),λy c=>h.lt y (p.mem_iff.1 c)⟩
def aMF(h:Last1 g row x):eO g (row++[x])=eO g row++[x]:=by refine aJd ((mE g _).trans ((mE g row).symm.append_right _)) (U4 g _) ?_;rw[List.pairwise_append];refine⟨U4 g row,s_,λy b z a=>?_⟩;obtain rfl:=cA.1 a;exact aAX (h.lt y ((mE g row).mem_iff.1 b))
def aM9{V:D_}:mW g V (row++[x])=iS g V (mW g V row) x:=by simp[mW]
def aMG{V W:D_}(h:∀y∈row,(y∈V↔y∈W)):mW g V row=mW g W row:=by
 unfold mW;suffices ∀(l out:D_),(∀y∈l,(y∈V↔y∈W))->l.foldl (iS g V) out=l.foldl (iS g W) out from this row [] h
 intro l
 induction l with
 |nil=>exact λ_ _=>rfl|cons y l ih=>
  intro out a;rw[CW,CW,ih _ λz b=>a z (.tail _ b)];congr 1;unfold iS;simp only[a y (.head _)]
def aMa(h:Last1 g row x){a y:Id}(c:a∈row):B7 g (row++[x]) a y=B7 g row a y:=by have e:decide (x=a)=false:=decide_eq_false λe=>h.new (e ▸ c);unfold B7;rw[List.any_append];simp[e,h.b a c]
def aK2(h:Last1 g row x){S:List (Int×Int)}{c:D_}:∀(l:D_)(i:Nat)(b:Int),(∀a∈l,a∈row)->AP g (row++[x]) S c l i b=AP g row S c l i b
 |[],_,_,_=>rfl
 | a::l,i,b,d=>by
  have e:(c.any λy=>B7 g (row++[x]) a y)=c.any λy=>B7 g row a y:=by congr 1;funext y;exact aMa h (d a (.head _))
  rw[AP,AP,e];split;exact aK2 h l _ _ λa f=>d a (.tail _ f);rfl
def aJK (h:Last1 g row x) {S:List (Int×Int)}:∀(n:Nat)(V W left:D_),(∀y∈row,(y∈V↔y∈W))->(∀a∈left,a∈row)->∀y∈row,(y∈uL g (row++[x]) S n V left↔y∈uL g row S n W left)
 |0,_,_,_,d,_=>d
 | n+1,V,W,left,d,m=>by
  have t:left.filter (λx=>!decide (x∈V))=left.filter λx=>!decide (x∈W):=List.filter_congr λa b=>by simp only[d a (m a b)]
  have f:∀a∈left.filter (λx=>!decide (x∈W)),a∈row:=λa b=>m a (gR.1 b).1;rw[uL,uL,t];dsimp only;generalize left.filter (λx=>!decide (x∈W))=L at *
  split;exact d;rename_i e;have s:yY g (row++[x]) S L=yY g row S L:=aK2 h L _ _ f;rw[s];obtain⟨h0,u⟩:=RY (g:=g) (row:=row) (S:=S) e;generalize yY g row S L=k at *
  have o:k.toNat<L.length:=by omega
  generalize k.toNat=i at *
  have ex:L.getD i default=L[i]:=by simp[rH,o]
  rw[ex];have b:=f _ (eQ o);have q:∀a∈L.eraseIdx i,a∈row:=λa b=>f a (List.mem_of_mem_eraseIdx b);have r:L[i]∈mW g V (row++[x])↔L[i]∈mW g W row:=by rw[aM9,aMG d];unfold iS;split;have:L[i]≠x:=λe=>h.new (e ▸ b);simp[this];rfl
  generalize L[i]=a at *
  by_cases l:a∈mW g W row;rw[if_pos l,if_pos (r.2 l)];refine aJK h n _ _ _ (λy j=>?_) q;unfold Mb;rw[Rd (p:=λy=>lA g a y||(decide (y∈L.eraseIdx i)&&B7 g (row++[x]) a y)),Rd (p:=λy=>lA g a y||(decide (y∈L.eraseIdx i)&&B7 g row a y)),aMa h b,d y j];simp[j];rw[if_neg l,if_neg λc=>l (r.1 c)];refine aJK h n _ _ _ (λy j=>?_) q;rw[BR,BR,d y j]
def aJL{S:List (Int×Int)}:∀(n:Nat)(V left:D_),left.length<=n->uL g row S (n+1) V left=uL g row S n V left
 |0,V,left,b=>by
  obtain rfl:=List.length_eq_zero_iff.1 (Tb.1 b);rfl
 | n+1,V,left,b=>by
  rw[uL,uL];dsimp only;have c:=List.length_filter_le (λx=>!decide (x∈V)) left;generalize left.filter (λx=>!decide (x∈V))=L at *
  split;rfl;rename_i e;obtain⟨h0,f⟩:=RY (g:=g) (row:=row) (S:=S) e;generalize yY g row S L=k at *
  have d:k.toNat<L.length:=o_;generalize k.toNat=i at *
  have a:(L.eraseIdx i).length<=n:=by rw[List.length_eraseIdx];split<;>omega
  rw[aJL n _ _ a,aJL n _ _ a]
def aP9(h:Last1 g row x):aBt g (row++[x])=aBt g row:=by unfold aBt BQ;rw[aMF h,Hy,CW,Kk];congr 1;unfold kV;rw[h.quiet]
def aPa(h:Last1 g row x){V W:D_}(c:∀y∈row,(y∈V↔y∈W)):∀y∈row,(y∈sU g (row++[x]) V↔y∈sU g row W):=by
 intro y b;have d:(row++[x]).filter (λx=>jM (g.nd x).o)=row.filter λx=>jM (g.nd x).o:=by rw[Mf,List.filter_cons_of_neg (by simp[h.kill]),List.filter_nil,jO]
 unfold sU;rw[aP9 h,d,dZ,GT,aJL _ _ _ (List.length_filter_le _ _)];exact aJK h _ _ _ _ c (λa e=>(gR.1 e).1) y b
def aMH{l:D_}(h:Last1 g l x)(j:∀y∈l,B8 (l++[x]) y=B8 l y):kW g (l++[x])=if x∈kW g (l++[x]) then kW g l++[x] else kW g l:=by
 have h2:=h.perm (mE g l);have k:∀y,y∈eO g l↔y∈l:=λy=>(mE g l).mem_iff;have m:∀y∈eO g l,(y∈zH (l++[x])↔y∈zH l):=λy f=>by have a:=(k y).1 f;unfold zH;rw[gR,gR,j y a];simp[a]
 have n:=aPa h2 m;have e:mW g (sU g (eO g l++[x]) (zH (l++[x]))) (eO g l)=kW g l:=aMG n;have i:x∉kW g l:=λc=>h.new (aET x c);have d:kW g (l++[x])=iS g (sU g (eO g l++[x]) (zH (l++[x]))) (kW g l) x:=by rw[<-e,<-aM9,kW,aMF h]
 have b:iS g (sU g (eO g l++[x]) (zH (l++[x]))) (kW g l) x=kW g l++[x]\/iS g (sU g (eO g l++[x]) (zH (l++[x]))) (kW g l) x=kW g l:=by unfold iS;split;exact .inl rfl;exact .inr rfl
 rcases b with b|b;rw[d,b,if_pos s_];rw[d,b,if_neg i]
end
end Hud
