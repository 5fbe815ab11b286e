import Derived.Test.YtdichbeaekjibaaGreatDoorLib30
set_option linter.all false
namespace Hud
open Go
def Rd{p:Id->Bool}:∀(row V:D_)(y:Id),y∈row.foldl (λV y=>if p y=true then AQ V y else V) V↔y∈V\/(y∈row/\p y=true)|[],V,y=>by simp|z::row,V,y=>by rw[CW,Rd row];split<;>grind[BR]
def Vk{g:PGM}{V:D_}{x:Id}:∀(row out:D_),x∈row.foldl (iS g V) out->x∈out\/(x∈row/\x∉V)|[],_,h=>.inl h|z::row,out,h=>by rcases Vk row _ h with h|h;grind[iS];simp_all
def Ac{g:PGM}{V row:D_}{x:Id}(h:x∈mW g V row):x∈row/\x∉V:=by simpa using Vk row [] h
def bfM(g:GM)(x y:Id):Bool:=decide (x∈g.I)&&(decide (y∈g.I)&&(g.In.getD (aW g.I y).toNat []).getD (aW g.I x).toNat false)
def aQU{p:PGM}{g:GM}(s:Sim p g)(d:g.L.length<=200)(x y:Id):oH p x y=bfM g x y:=by
 have h:p.I.length=g.L.length:=by rw[PGM.I,<-s.l,aP,aP]
 by_cases mx:x∈p.I;by_cases a:y∈p.I;obtain⟨j,c,f,_⟩:=dG mx;obtain⟨k,b,e,_⟩:=dG a;rw[aOk s d c b o_ o_ mx a];rw[s.i]at mx a c b;unfold bfM aW qX inG;simp[mx,a,c,b];unfold oH bfM;rw[<-s.i];simp[a];unfold oH bfM;rw[<-s.i];simp[mx]
def RU.trans{a:List V_}{up:V_}{i k:Nat}(h:RU a up i)(h2:RU a (a.getD i []) k):RU a up k:=by
 induction h2 with
 |base h2=>exact .step h h2|step _ h3 ih=>exact .step ih h3
section
variable{g:GM}
def aJc(b:g.I.length=g.L.length){x:Id}(a:x∈g.I):(aW g.I x).toNat<g.L.length:=by have h1:=(Cz g.I x).2 a;have h2:=(AZ g.I x).1;omega
def aQ3(a:g.I.Nodup){i:Nat}(h:i<g.I.length):aW g.I g.I[i]=i:=by obtain⟨j,e,b,_,h2⟩:=dG (eQ h);have:j=i:=(C9 a).1 h2;unfold aW qX;rw[e,this]
def aJd{x:Id}(b:x∈g.I):g.I.getD (aW g.I x).toNat default=x:=by obtain⟨j,e,a,_,h2⟩:=dG b;unfold aW qX;rw[e];simp[rH,a,h2]
end
abbrev pl(g:GM)(x:Id):Nat:=(aW g.I x).toNat
structure Tie(p:PGM)(g:GM):Prop where
 s:Sim p g
 n:g.L.length<=200
 gi:g.I.length=g.L.length
 nd:g.I.Nodup
 rem:aPP g.L
 cd:p.cards=g.Cards
 gg:GGood p
 inn:g.In.length=g.L.length
 by':∀x∈g.I,(p.nd x).o.By=x.a
section
variable{p:PGM}{g:GM}
def Tie.op(h:Tie p g){x:Id}(a:x∈g.I):g.L.getD (pl g x) default=(p.nd x).o:=by rw[<-h.s.i]at a;obtain⟨j,b,c,_⟩:=dG a;rw[(aMI h.s b (by rw[<-h.gi,<-h.s.i];exact c)).1];unfold pl aW qX;rw[<-h.s.i,b];rfl
def Tie.bf(h:Tie p g){x y:Id}(b:x∈g.I)(a:y∈g.I):inG g (pl g y) (pl g x)=oH p x y:=by rw[aQU h.s h.n,bfM,decide_eq_true b,decide_eq_true a];rfl
def Tie.kill(h:Tie p g){x y:Id}(b:x∈g.I)(a:y∈g.I):aE4 g (pl g x) (pl g y)=lA p x y:=by rw[aOA h.s h.n h.rem,aPg,decide_eq_true ((Cz g.I x).2 b),decide_eq_true ((Cz g.I y).2 a)];rfl
def aNk{x y:Id}(b:x∈g.I)(a:y∈g.I)(h:pl g x=pl g y):x=y:=by rw[<-aJd b,<-aJd a,show(aW g.I x).toNat=(aW g.I y).toNat from h]
def aOt{x:Id}(b:x∈g.I){l:D_}(c:∀y∈l,y∈g.I):pl g x∈l.map (pl g)↔x∈l:=by constructor;intro h;obtain⟨y,a,e⟩:=dF.1 h;rwa[<-aNk (c y a) b e];exact λh=>List.mem_map_of_mem h
def Tie.did(h:Tie p g){x:Id}(d:x∈g.I)(out:D_)(c:∀y∈out,y∈g.I):aE2 g (out.map (pl g)) (pl g x)=Lo p out x:=by
 unfold aE2 Lo;rw[h.cd];generalize RM.new g.Cards=r
 induction out generalizing r with
 |nil=>rfl|cons y out ih=>
  have b:=c y (.head _);rw[fG,CW,h.bf b d,List.filter_cons];split;rw[CW,ih (λz a=>c z (.tail _ a)),h.op b,aJd b];rfl;exact ih (λz a=>c z (.tail _ a)) r
def VB(g:GM)(v:List Bool)(V:D_):Prop:=∀x∈g.I,v.getD (pl g x) false=decide (x∈V)
def Tie.good(h:Tie p g){v:List Bool}{V:D_}(d:VB g v V):∀(row out:D_),(∀y∈row,y∈g.I)->(∀y∈out,y∈g.I)->(row.map (pl g)).foldl (aE3 g v) (out.map (pl g))=(row.foldl (iS p V) out).map (pl g)
 |[],_,_,_=>rfl
 | x::row,out,f,i=>by
  have b:=f x (.head _);rw[fG,CW,CW];have e:aE3 g v (out.map (pl g)) (pl g x)=(iS p V out x).map (pl g):=by unfold aE3 iS;rw[h.did b out i,h.op b,d x b];by_cases a:x∉V/\mT (Lo p out x) (p.nd x).o=0;rw[if_pos a,if_pos (by simp[a.1,a.2]),bZ];rfl;rw[if_neg a,if_neg (by simpa using a)]
  rw[e];exact h.good d row _ (λy c=>f y (.tail _ c)) λy c=>by have:=S9.subset c;rcases cG.1 this with h1|h1;exact i y h1;rw[cA.1 h1];exact b
def Tie.need (h:Tie p g) (v:List Bool) (row:D_) (n:∀y∈row,y∈g.I) (q:row.Nodup) (i a:Nat):(aE2 g (((row.map (pl g)).take i).foldl (aE3 g v) []) a).need:=by
 obtain⟨V,o⟩:∃V,VB g v V:=⟨g.I.filter λx=>v.getD (pl g x) false,λx f=>by simp[f]⟩
 rw[<-QN,show([]:V_)=([]:D_).map (pl g) from rfl,h.good o (row.take i) [] (λy b=>n y (C8 b)) s_];have j:=Aa (g:=p) (V:=V) (row.take i) [];rw[dM]at j;have d:∀y∈(row.take i).foldl (iS p V) [],y∈g.I:=λy b=>n y (C8 (j.subset b));rcases eD a g.L.length with c|c;have e:a=pl g (g.I.getD a default):=by have:=aQ3 h.nd (i:=a) (by rw[h.gi];exact c);rw[rH,jN (by rw[h.gi];exact c)];unfold pl;rw[Mi,this];rfl
 have f:g.I.getD a default∈g.I:=by rw[rH,jN (by rw[h.gi];exact c)];exact eQ _
 rw[e,h.did f _ d];exact(RV h.gg (λy b=>by rw[h.s.i];exact d y b) (j.nodup (q.sublist (List.take_sublist _ _))) _).need;have e:∀(l:V_)(r:RM),l.foldl (λr k=>if inG g a k=true then BS r (g.L.getD k default) (g.I.getD k default) else r) r=r:=by
  intro l
  induction l with
  |nil=>exact λr=>rfl|cons k l ih=>
   intro r;rw[CW,if_neg (by rw[inG,rH (l:=g.In),sX (by rw[h.inn];exact c)];simp),ih]
 unfold aE2;rw[e];intro m d;cases d
end
section
variable{p:PGM}{g:GM}{l:LD}{V row:D_}{s:B_}{S:List (Int×Int)}
def aOu{f:Nat->Bool}{q:Id->Bool}:∀(r:D_),(∀z∈r,f (pl g z)=q z)->(r.map (pl g)).any f=r.any q|[],_=>rfl|z::r,h=>by rw[fG,List.any_cons,List.any_cons,h z (.head _),aOu r λy a=>h y (.tail _ a)]
def Tie.waits(h:Tie p g)(f:l.row=row.map (pl g))(c:∀y∈row,y∈g.I){x y:Id}(b:x∈g.I)(d:y∈g.I):aC1 g l (pl g x) (pl g y)=B7 p row x y:=by have i:∀z∈g.I,decide (pl g z=pl g x)=decide (z=x):=λz a=>decide_eq_decide.2 ⟨aNk a b,λe=>by rw[e]⟩;unfold aC1 B7;rw[f,aOu (q:=λz=>(decide (z=x)||oH p z x)&&lA p y z) row λz a=>by rw[i z (c z a),h.bf (c z a) b,h.kill d (c z a)]];rw[show decide (pl g x=pl g y)=decide (x=y) from decide_eq_decide.2 ⟨aNk b d,λe=>by rw[e]⟩]
abbrev opn(g:GM)(l:LD)(x:Id):Bool:=aCE g l (pl g x)
def Tie.first (h:Tie p g) (o:l.row=row.map (pl g)) (f:∀y∈row,y∈g.I) (v:∀x∈row,∀y∈row,aBB s x.a<aBB s y.a↔aBo S x.a<aBo S y.a):
 ∀(r d:D_)(b c:Int),row=d++r->(b=-1/\c=-1\/0<=c/\c.toNat<(row.filter (opn g l)).length/\b=pl g ((row.filter (opn g l)).getD c.toNat default)) ->
 ((aJK g l s (r.map (pl g)) b=-1/\AP p row S (row.filter (opn g l)) (r.filter (opn g l)) (d.filter (opn g l)).length c=-1)\/(0<=AP p row S (row.filter (opn g l)) (r.filter (opn g l)) (d.filter (opn g l)).length c/\(AP p row S (row.filter (opn g l)) (r.filter (opn g l)) (d.filter (opn g l)).length c).toNat<(row.filter (opn g l)).length/\aJK g l s (r.map (pl g)) b=pl g ((row.filter (opn g l)).getD (AP p row S (row.filter (opn g l)) (r.filter (opn g l)) (d.filter (opn g l)).length c).toNat default)))
 |[],d,b,c,_,m=>by simpa[aJK,AP]using m| x::r,d,b,c,u,m=>by
  have n:x∈row:=by rw[u];simp
  have k:row=(d++[x])++r:=by rw[u];simp
  rw[fG,aJK,List.filter_cons];by_cases i:aCE g l (pl g x)=true;rotate_left;rw[if_neg i,if_neg i];have:=h.first o f v r (d++[x]) b c k m;rwa[Mf,List.filter_cons,if_neg i,List.filter_nil,jO]at this;rw[if_pos i,if_pos i,AP];have ea:(l.row.any λy=>aCE g l y&&aC1 g l (pl g x) y)=(row.filter (opn g l)).any λy=>B7 p row x y:=by rw[o,aOu (q:=λy=>opn g l y&&B7 p row x y) row λz j=>by rw[h.waits o f (f x n) (f z j)],List.any_filter]
  have A:row.filter (opn g l)=d.filter (opn g l)++x::r.filter (opn g l):=by rw[u,Mf,List.filter_cons,if_pos i]
  have B:(row.filter (opn g l)).getD (d.filter (opn g l)).length default=x:=by rw[A,rH];simp
  have w:(d.filter (opn g l)).length<(row.filter (opn g l)).length:=by rw[A];simp
  rw[ea];split;have C:(b<0\/aBB s (byD g (pl g x))<aBB s (byD g b.toNat))↔(c<0\/aBo S x.a<aBo S ((row.filter (opn g l)).getD c.toNat default).a):=by
   rcases m with⟨rfl,rfl⟩|⟨h1,h2,rfl⟩
   exact⟨λ_=>.inl d_,λ_=>.inl d_⟩;have j:(row.filter (opn g l)).getD c.toNat default∈row:=by rw[rH,jN h2];exact(gR.1 (eQ h2)).1
   rw[byD,byD,nI,h.op (f x n),h.op (f _ j),h.by' _ (f x n),h.by' _ (f _ j),v x n _ j];refine or_congr ?_ .rfl;omega
  have:=h.first o f v r (d++[x]) (if b<0\/aBB s (byD g (pl g x))<aBB s (byD g b.toNat) then pl g x else b) (if c<0\/aBo S x.a<aBo S ((row.filter (opn g l)).getD c.toNat default).a then((d.filter (opn g l)).length:Int) else c) k (by
   by_cases t:c<0\/aBo S x.a<aBo S ((row.filter (opn g l)).getD c.toNat default).a;rw[if_pos t,if_pos (C.2 t)];exact .inr ⟨o_,by simpa using w,by rw[nI,B]⟩;rw[if_neg t,if_neg (λe=>t (C.1 e))]
   exact m)
  rwa[Mf,List.filter_cons,if_pos i,List.filter_nil,dZ,GT]at this;exact .inr ⟨o_,by simpa using w,by rw[nI,B]⟩
def Tie.next(h:Tie p g)(b:l.row=row.map (pl g))(d:∀y∈row,y∈g.I)(f:∀x∈row,∀y∈row,aBB s x.a<aBB s y.a↔aBo S x.a<aBo S y.a):
 (row.filter (opn g l)=[]/\aHe g l s<0)\/(row.filter (opn g l)≠[]/\(yY p row S (row.filter (opn g l))).toNat<(row.filter (opn g l)).length/\aHe g l s=pl g ((row.filter (opn g l)).getD (yY p row S (row.filter (opn g l))).toNat default)):=by
 have:=h.first b d f row [] (-1) (-1) rfl (.inl ⟨rfl,rfl⟩);rw[<-b]at this;rcases this with⟨h1,h2⟩|⟨h1,h2,h3⟩
 by_cases c:row.filter (opn g l)=[]
 exact .inl ⟨c,by rw[aHe,h1];decide⟩;have:=(RY (g:=p) (row:=row) (S:=S) c).1;rw[yY]at this;rw[List.filter_nil,gQ]at h2;omega;exact .inr ⟨λe=>by rw[e]at h2;simp at h2,h2,h3⟩
end
def aMc:∀(ks:V_)(v:List Bool)(k:Nat),k<v.length->(aJb v ks).getD k false=(v.getD k false||decide (k∈ks))|[],v,k,_=>by simp[aJb]|j::ks,v,k,a=>by rw[show aJb v (j::ks)=aJb (v.set j true) ks from rfl,aMc ks _ k (by rw[cL];exact a)];by_cases e:j=k;subst e;simp[a];simp[e,Ne.symm e,rH,List.getElem?_set_ne e]
def aOc:∀{l:D_},l.Nodup->∀{i:Nat}(h:i<l.length),l.eraseIdx i=l.filter λy=>!decide (y=l[i])
 |x::l,a,0,_=>by
  have h1:=(BU.1 a).1;simp only[List.eraseIdx_cons_zero,List.getElem_cons_zero,List.filter_cons,decide_true,lI,jJ,if_false];exact(Gm.2 λy b=>by simp;exact λe=>h1 (e ▸ b)).symm
 |x::l,a,i+1,h=>by
  have h1:=BU.1 a;have h2:i<l.length:=y_;have ne:¬x=l[i]:=λe=>h1.1 (e ▸ eQ h2);rw[X7,List.getElem_cons_succ,List.filter_cons,aOc h1.2 h2];simp[ne]
section
variable{p:PGM}{g:GM}{row:D_}{s:B_}{S:List (Int×Int)}
def Tie.step(h:Tie p g){l:LD}{V:D_}(q:l.ok g)(j:l.row=row.map (pl g))(d:∀y∈row,y∈g.I)(n:VB g l.v V){x:Id}(f:x∈row){left:D_}(r:∀y,y∈left↔y∈row/\opn g l y=true/\y≠x):
 VB g (aHf g l (pl g x)).v (if x∈mW p V row then Mb p row x left V else AQ V x):=by
 have s:aCW g l=(mW p V row).map (pl g):=by rw[aCW,j];exact h.good n row [] d s_
 have k:∀y∈mW p V row,y∈g.I:=λy b=>d y (Ac b).1;intro y b;have o:pl g y<l.v.length:=by rw[q.v];exact aJc h.gi b
 rw[aHf,aMc _ _ _ o,n y b,aLP,s];rw[show decide (pl g x∈(mW p V row).map (pl g))=decide (x∈mW p V row) from decide_eq_decide.2 (aOt (d x f) k)];by_cases c:x∈mW p V row;rw[decide_eq_true c,if_pos rfl,if_pos c,Mb,CT,decide_eq_true_iff,Rd,Ec,decide_eq_true_iff,decide_eq_true_iff];apply or_congr .rfl;rw[gR,j,aOt b d];refine and_congr_right λi=>?_;rw[h.kill (d x f) b,h.waits j d (d x f) b];have m:=r y;by_cases e:y=x;subst e;have:B7 p row y y=false:=by simp[B7]
 simp[this];rw[show decide (y∈left)=opn g l y from by rw[CT,decide_eq_true_iff,m];exact⟨λa=>a.2.1,λa=>⟨i,a,e⟩⟩];rw[decide_eq_false c,if_neg d_,if_neg c,CT,decide_eq_true_iff,BR,Ec,decide_eq_true_iff,decide_eq_true_iff,cA];exact or_congr .rfl ⟨λe=>aNk b (d x f) e,λe=>by rw[e]⟩
def aNl:∀(m:Nat)(l:LD),(aJG g s m l).row=l.row/\(aJG g s m l).f=l.f|0,_=>⟨rfl,rfl⟩|m+1,l=>by rw[aJG];split;exact⟨rfl,rfl⟩;exact aNl m _
def aQ4:∀(m:Nat){l:LD},l.ok g->(aJG g s m l).ok g|0,_,h=>h|m+1,l,h=>by rw[aJG];split;exact h;exact aQ4 m (aNh h _)
def Tie.opn(h:Tie p g){l:LD}{V:D_}(b:VB g l.v V){y:Id}(a:y∈g.I):opn g l y=(!decide (y∈V)&&(!l.d.getD (pl g y) false&&jM (p.nd y).o)):=by rw[Hud.opn,aCE,b y a,h.op a,aN6,jM,Bool.or_assoc]
def Tie.run (h:Tie p g) (w:∀y∈row,y∈g.I) (N:row.Nodup) (H:∀x∈row,∀y∈row,aBB s x.a<aBB s y.a↔aBo S x.a<aBo S y.a):
 ∀(n:Nat)(l:LD)(V left:D_),l.ok g->l.row=row.map (pl g)->VB g l.v V->(left.filter λx=>!decide (x∈V))=row.filter (Hud.opn g l)->left.length<=n->VB g (aJG g s l.left l).v (uL p row S n V left):=by
 intro n
 induction n with
 | zero=>
  intro l V left z u f A M;obtain rfl:left=[]:=List.length_eq_zero_iff.1 o_;rcases h.next (S:=S) (s:=s) u w H with⟨_,h2⟩|⟨h1,_⟩
  cases e:l.left with
  |zero=>exact f|succ m=>rw[aJG,if_pos h2];exact f
  exact absurd A.symm h1
 | succ n ih=>
  intro l V left z u f A L;rw[uL,A];rcases h.next (S:=S) (s:=s) u w H with⟨h1,h2⟩|⟨h1,h2,h3⟩
  rw[if_pos h1]
  cases e:l.left with
  |zero=>exact f|succ m=>rw[aJG,if_pos h2];exact f
  rw[if_neg h1];dsimp only;generalize(yY p row S (row.filter (Hud.opn g l))).toNat=i at *
  have Q:(row.filter (Hud.opn g l)).Nodup:=N.filter _;rw[rH,jN h2]at h3⊢;have B:=eQ h2;rw[Mi]at h3⊢;obtain⟨G,D⟩:=gR.1 B;have R:(row.filter (Hud.opn g l)).eraseIdx i=(row.filter (Hud.opn g l)).filter λy=>!decide (y=(row.filter (Hud.opn g l))[i]):=aOc Q h2;have j:((row.filter (Hud.opn g l)).eraseIdx i).length<=n:=by rw[Rg h2,<-A];have:=List.length_filter_le (λx=>!decide (x∈V)) left;omega
  rw[R]at j⊢;generalize(row.filter (Hud.opn g l))[i]=x at *
  have k:=w x G;have P:l.d.getD (pl g x) false=false:=by
   rw[h.opn f k]at D
   cases e:l.d.getD (pl g x) false with
   |false=>rfl|true=>rw[e]at D;simp at D
  have O:=aNi l.d (pl g x) (by rw[z.d];exact aJc h.gi k) P;have nG:=h.step z u w f G (left:=(row.filter (Hud.opn g l)).filter λy=>!decide (y=x)) λy=>by rw[gR,gR];simp[and_assoc]
  have E:l.left=(aHf g l (pl g x)).left+1:=by unfold LD.left;simp only[aHf];omega
  rw[E,aJG,if_neg (by rw[h3];omega),h3,nI];have C:=aNh z (pl g x);have q:∀o,VB g (aHf g l (pl g x)).v o->(∀y,y∈V->y∈o)->VB g (aJG g s (aHf g l (pl g x)).left (aHf g l (pl g x))).v (uL p row S n o ((row.filter (Hud.opn g l)).filter λy=>!decide (y=x))):=by
   intro o t J;refine ih _ o _ C u t ?_ j;rw[List.filter_filter,List.filter_filter];refine List.filter_congr λy r=>?_;have b:=w y r;rw[h.opn f b,h.opn t b];have F:(aHf g l (pl g x)).d.getD (pl g y) false=(l.d.getD (pl g y) false||decide (y=x)):=by
    have K:pl g y<l.d.length:=by rw[z.d];exact aJc h.gi b
    rw[aHf];by_cases e:y=x;subst e;simp[K];have ne:pl g x≠pl g y:=λT=>e (aNk k b T).symm;simp[e,rH,List.getElem?_set_ne ne]
   rw[F];have:=J y;by_cases c1:y∈V<;>by_cases c2:y∈o<;>simp_all;cases decide (y=x)<;>simp
  by_cases c:x∈mW p V row;rw[if_pos c];rw[if_pos c]at nG;exact q _ nG λy r=>by rw[Mb,Rd];exact .inl r
  rw[if_neg c];rw[if_neg c]at nG;exact q _ nG λy r=>BR.2 (.inl r)
end
structure PGM.wf(g:PGM):Prop where
 nd:g.I.Nodup
 back:∀x∈g.I,∀k,qK (g.nd x).W k=true->k<g.at x
def anc(g:PGM)(o:OpM)(y:Id):Bool:=o.Past.any λx=>decide (y=x)||oH g y x
structure Took(g:PGM)(o:OpM):Prop where
 check:vF o=0
 new:C7 o∉g.I
 full:g.nodes.length<200
 card:(gM g.cards o.By).2=true
 sig:((o.By==(gM g.cards o.By).1.Device)&&BW (gM g.cards o.By).1.Sign o.B o.SR o.SS)=true
 kind:o.Kind=1->g.nodes=[]
 there:∀x∈o.Past,x∈g.I
 order:∀x∈o.Past,∀y∈o.Past,oH g y x=false
 late:G0 g o.Past<=o.At
 seq:∀y∈g.I,anc g o y=true->(g.nd y).o.By=o.By->(g.nd y).o.Seq<o.Seq
 pos:0<o.Seq
 pre:1<o.Seq->∃y∈g.I,anc g o y=true/\(g.nd y).o.By=o.By/\(g.nd y).o.Seq=o.Seq-1
structure Same(p q:PGM)(x:Id):Prop where
 l:x∈p.I
 r:x∈q.I
 o:(p.nd x).o=(q.nd x).o
 lv:(p.nd x).lv=(q.nd x).lv
 b:∀y,oH p y x=oH q y x
def Same.symm{p q:PGM}{x:Id}(h:Same p q x):Same q p x:=⟨h.r,h.l,h.o.symm,h.lv.symm,λy=>(h.b y).symm⟩
def Same.trans{p q r:PGM}{x:Id}(h:Same p q x)(k:Same q r x):Same p r x:=⟨h.l,k.r,h.o.trans k.o,h.lv.trans k.lv,λy=>(h.b y).trans (k.b y)⟩
section
variable{p q:PGM}
def aQ5{l m:D_}(h:l.Perm m):eO p l=eO p m:=aK8 ((mE p l).trans (h.trans (mE p m).symm)) (U4 p l) (U4 p m)
variable(hc:p.cards=q.cards)
include hc
end
section
variable{cs:List CardM}{L:List OpM}
end
section
variable{g:GM}
end
def aJM(a b e:Int)(S:List (Int×Int)):aBo ((a,b)::S) e=if e=a then b else aBo S e:=by unfold aBo;rw[List.findIdx?_cons];by_cases h:e=a;simp[h];simp only[h,beq_iff_eq,if_false];cases S.findIdx? λx=>e==x.1<;>simp
def aOS(a b d x:Int)(S:List (Int×Int)):nZ ((a,b)::S) d x=if d=a then(d,x)::S else(a,b)::nZ S d x:=by unfold nZ;rw[List.findIdx?_cons];by_cases h:d=a;simp[h];simp only[h,beq_iff_eq,if_false];cases S.findIdx? λx=>d==x.1<;>simp
def aNs(d x e:Int):∀S:List (Int×Int),aBo (nZ S d x) e=if e=d then x else aBo S e
 |[]=>by
  have:nZ [] d x=[(d,x)]:=rfl;rw[this,aJM]
 | (a,b)::S=>by rw[aOS];split;rename_i h;rw[aJM,aJM];split;rfl;rename_i h2;rw[if_neg (by rw[<-h];exact h2)];rename_i h;rw[aJM,aJM,aNs d x e S];by_cases h1:e=a;rw[if_pos h1,if_pos h1,if_neg (by rw[h1];exact λh2=>h h2.symm)];rw[if_neg h1,if_neg h1]
end Hud
