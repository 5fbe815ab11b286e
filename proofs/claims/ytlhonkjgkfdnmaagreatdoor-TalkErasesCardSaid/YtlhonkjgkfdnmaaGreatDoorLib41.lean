import Derived.Test.YtlhonkjgkfdnmaaGreatDoorLib39
set_option linter.all false
set_option maxHeartbeats 40000000
namespace Hud
open Go
variable{G:L_}
abbrev aK7(x:Id):List AV:=[iv x.a,iv x.b,.v (.int .u64 x.c),.v (.bool false),.v (.slice none 0 0)]
def aO8(n:Nat)(X:aK)(c:D_):Prop:=(c=[]/\X[1]?=some (some (.box [.v (.slice none 0 0)])))\/∃a,11<=a/\X[1]?=some (some (.box [.own (n+a)]))/\X[a]?=some (some (.arr 5 (c.map aK7)))
def aR4(X:aK)(f:Id->Bool):Prop:=∃(E:D_)(bs:V_)(cl:Nat),X[2]?=some (some (.map true (E.map Id.K) (E.map λ_=>.v (.bool true)) bs cl))/\∀x,x∈E↔f x=true
def aR5(X:aK)(H:List RK):Prop:=∃(bs:V_)(cl:Nat),X[3]?=some (some (.map true (H.map rkK) (H.map λ_=>.v (.bool true)) bs cl))
structure TxP(n:Nat)(X:aK)(f:Id->List (List UInt8))(P:List (Id×Nat))(bs:List Nat)(cl:Nat):Prop where
 m:X[4]?=some (some (.map true (P.map λe=>e.1.K) (P.map λe=>.own (n+e.2)) bs cl))
 k:(P.map (·.1)).Nodup
 p:(P.map (·.2)).Nodup
 b:bs.Nodup
 bl:bs.length=P.length
 bc:∀b∈bs,b<cl
 at':∀e∈P,11<=e.2/\X[e.2]?=some (some (.arr 1 ((f e.1).map stE)))
 no:∀x,x∉P.map (·.1)->f x=[]
def aOS(n:Nat)(X:aK)(f:Id->List (List UInt8)):Prop:=∃P bs a,TxP n X f P bs a
structure FxAt(n gp:Nat)(X:aK):Prop where
 x0:X[0]?=some (some (.box [.ptr gp 0]))
 x5:X[5]?=some (some (.box [.mp (n+2)]))
 x6:X[6]?=some (some (.box [.mp (n+3)]))
 x7:X[7]?=some (some (.box [.mp (n+4)]))
structure LnAt(n gp:Nat)(X:aK)(g:PGM)(c:List Id):Prop where
 fx:FxAt n gp X
 out:aO8 n X (c.filter λx=>decide ((g.nd x).o.Kind=6))
 era:aR4 X (aBE g c)
 had:aR5 X (aH9 g c)
 tx:aOS n X (aBB g c)
def aPt(T:aK)(p:Nat×Nat×Nat)(l:D_):aK:=[some (.box [.ptr p.1 0]),some (.box [.v (.slice none 0 0)]),some (.map true [] [] [] 0),some (.map true [] [] [] 0),some (.map true [] [] [] 0),some (.box [.mp (T.length+2)]),some (.box [.mp (T.length+3)]),some (.box [.mp (T.length+4)]),some (.box [.ptr p.1 0]),some (.box [ids l])]
def aPu(T:aK)(p:Nat×Nat×Nat)(g:PGM)(l:D_)(r:Loop)(k:Nat)(T':aK):Prop:=∃X,T'=T++X/\LnAt T.length p.1 X g ((kW g l).take k)/\X[8]?=some (some (.box [.ptr p.1 0]))/\X[9]?=some (some (.box [ids l]))/\X[10]?=some (some (.lp r [(8,.ptr (T.length+7) 0),(7,.ptr (T.length+6) 0),(6,.ptr (T.length+5) 0),(5,.ptr (T.length+1) 0),(2,.ptr T.length 0)]))
def Kp(X Z:aK):Prop:=∀i o,i≠10->X[i]?=some (some o)->Z[i]?=some (some o)
def LnAt.kp{n i:Nat}{X Z:aK}{g:PGM}{c:D_}(h:LnAt n i X g c)(k:Kp X Z):LnAt n i Z g c where
 fx:=⟨k _ _ d_ h.fx.x0,k _ _ d_ h.fx.x5,k _ _ d_ h.fx.x6,k _ _ d_ h.fx.x7⟩
 out:=h.out.imp (λ⟨h1,h2⟩=>⟨h1,k _ _ d_ h2⟩) λ⟨a,h1,h2,h3⟩=>⟨a,h1,k _ _ d_ h2,k _ _ o_ h3⟩
 era:=let⟨E,bs,d,h1,h2⟩:=h.era;⟨E,bs,d,k _ _ d_ h1,h2⟩
 had:=let⟨bs,d,h1⟩:=h.had;⟨bs,d,k _ _ d_ h1⟩
 tx:=let⟨P,bs,d,h1⟩:=h.tx;⟨P,bs,d,⟨k _ _ d_ h1.m,h1.k,h1.p,h1.b,h1.bl,h1.bc,λe f=>⟨(h1.at' e f).1,k _ _ (by have:=(h1.at' e f).1;omega) (h1.at' e f).2⟩,h1.no⟩⟩
def aMA{α:Type}[DecidableEq α]{l:List α}{x:α}(h:x∉l):(l.findIdx? λy=>decide (y=x))=none:=by rw[Md];intro y a;exact decide_eq_false λe=>h (e ▸ a)
def aLR{α:Type}[DecidableEq α]{l:List α}{x:α}(h:x∈l):∃j,(l.findIdx? λy=>decide (y=x))=some j/\l[j]?=some x:=by
 cases e:l.findIdx? λy=>decide (y=x) with
 |none=>
  have:=Md.1 e x h;simp at this
 |some j=>
  obtain⟨a,h1,_⟩:=Ad.1 e;refine⟨j,rfl,?_⟩;rw[jN a,of_decide_eq_true h1]
def aR6{l:V_}{j:Nat}(h:l.Nodup)(a:j<l.length):l.findIdx? (λb:Nat=>(b:Int)==((l[j]:Nat):Int))=some j:=by rw[Ad];refine⟨a,s_,λk c=>?_⟩;rw[Rh,QD]at h;exact λe=>h k j o_ a c (by have:=eq_of_beq e;omega)
def aJI{Z Y:aK}{i:Nat}{o:Option AObj}(h:i<Z.length):(Z++Y).set i o=Z.set i o++Y:=List.set_append_left _ _ h
def aIK{Z a Y:aK}(h:a.length=Z.length):(a++Y)[Z.length]?=Y[0]?:=by rw[<-h,fF]
def aIW{Z a Y:aK}{k:Nat}(h:a.length=Z.length):(a++Y)[Z.length+k]?=Y[k]?:=by rw[<-h,aZ]
def aOT{l:O_}{n:Nat}{x y:AV}(h:l.length=n):(l++[x]).set n y=l++[y]:=by subst h;simp
def aK1{g:PGM}{l:D_}(h:l.Nodup):(kW g l).Nodup:=by have h1:=Aa (g:=g) (V:=sU g (eO g l) (zH l)) (eO g l) [];rw[dM]at h1;exact((mE g l).nodup_iff.2 h).sublist h1
def aOU{α:Type}{l:List α}{j:Nat}:(l.map λ_=>AV.v (.bool true)).set j (.v (.bool true))=l.map λ_=>AV.v (.bool true):=by apply EW;intro i;rw[Hx];split;rename_i h;subst h;rw[gE];split;rename_i h;rw[aP]at h;rw[jN h];rfl;rename_i h;rw[aP]at h;rw[sX o_];rfl;rfl
def aOV{g:PGM}{c:D_}{x:Id}(h:¬(g.nd x).o.Kind=8):aBE g (c++[x])=aBE g c:=by funext y;rw[aJ6,decide_eq_false h];simp
def aOW{g:PGM}{c:D_}{x:Id}(h:¬(g.nd x).o.Kind=7):aH9 g (c++[x])=aH9 g c:=by rw[aIE,aE2,if_neg h]
def aR7{g:PGM}{c:D_}{x:Id}(h:¬(g.nd x).o.Kind=7):aBB g (c++[x])=aBB g c:=by funext y;rw[aBB,aOW h];rfl
section
variable{n gp:Nat}{Z X:aK}{g:PGM}{c:D_}{x:Id}{S:V_}
def FxAt.kp(h:FxAt n gp Z)(k:∀i o,i∉S->Z[i]?=some (some o)->X[i]?=some (some o))(a:∀i∈S,i≠0/\i≠5/\i≠6/\i≠7):FxAt n gp X :=
 ⟨k _ _ (λm=>(a _ m).1 rfl) h.x0,k _ _ (λm=>(a _ m).2.1 rfl) h.x5,k _ _ (λm=>(a _ m).2.2.1 rfl) h.x6,k _ _ (λm=>(a _ m).2.2.2 rfl) h.x7⟩
def aOS.kp{f:Id->List (List UInt8)}(h:aOS n Z f)(k:∀i o,i∉S->Z[i]?=some (some o)->X[i]?=some (some o))(d:4∉S)(c:∀i∈S,i<11\/∃r,Z[i]?=some (some (.arr 5 r))):aOS n X f:=by
 obtain⟨P,bs,g,h⟩:=h;refine⟨P,bs,g,k _ _ d h.m,h.k,h.p,h.b,h.bl,h.bc,λe a=>⟨(h.at' e a).1,k _ _ (λm=>?_) (h.at' e a).2⟩,h.no⟩;rcases c _ m with h1|⟨r,h1⟩
 have:=(h.at' e a).1;omega;rw[(h.at' e a).2]at h1;simp at h1
def LnAt.msg(h:LnAt n gp Z g c)(l:(g.nd x).o.Kind=6)(k:∀i o,i∉S->Z[i]?=some (some o)->X[i]?=some (some o))(b:∀i∈S,i=1\/i=10\/(11<=i/\∃r,Z[i]?=some (some (.arr 5 r)))){a:Nat}(p:11<=a)
 (h1:X[1]?=some (some (.box [.own (n+a)]))) (h2:X[a]?=some (some (.arr 5 ((c.filter λx=>decide ((g.nd x).o.Kind=6)).map aK7++[aK7 x])))):LnAt n gp X g (c++[x]):=by
 have j:¬(g.nd x).o.Kind=7:=o_;refine⟨h.fx.kp k λi d=>?_,.inr ⟨a,p,h1,?_⟩,?_,?_,?_⟩;rcases b i d with h|h|h<;>omega;rw[Mf,show [x].filter (λx=>decide ((g.nd x).o.Kind=6))=[x] by simp[l],bZ];exact h2;rw[aOV o_];obtain⟨E,bs,f,e,q⟩:=h.era;exact⟨E,bs,f,k _ _ (λm=>kx) e,q⟩;rw[aOW j];obtain⟨bs,f,e⟩:=h.had;exact⟨bs,f,k _ _ (λm=>kx) e⟩;rw[aR7 j];refine h.tx.kp k (λm=>kx) λi d=>?_;rcases b i d with h|h|h;exact .inl o_;exact .inl o_;exact .inr h.2
def aO8.kp(h:aO8 n Z c)(k:∀i o,i∉S->Z[i]?=some (some o)->X[i]?=some (some o))(h1:1∉S)(g:∀i∈S,i<11\/∃r,Z[i]?=some (some (.arr 1 r))):aO8 n X c:=by
 rcases h with⟨e,b⟩|⟨a,f,b,d⟩
 exact .inl ⟨e,k _ _ h1 b⟩;refine .inr ⟨a,f,k _ _ h1 b,k _ _ (λm=>?_) d⟩;rcases g _ m with h2|⟨r,h2⟩
 omega;rw[d]at h2;simp at h2
def aOX(h:¬(g.nd x).o.Kind=6):((c++[x]).filter λx=>decide ((g.nd x).o.Kind=6))=c.filter λx=>decide ((g.nd x).o.Kind=6):=by rw[Mf,List.filter_cons_of_neg w_,List.filter_nil,jO]
def LnAt.era'(h:LnAt n gp Z g c)(e:(g.nd x).o.Kind=8)(k:∀i o,i∉[2,10]->Z[i]?=some (some o)->X[i]?=some (some o)){E:D_}{bs:V_}{cl:Nat}(h1:X[2]?=some (some (.map true (E.map Id.K) (E.map λ_=>.v (.bool true)) bs cl)))
 (h2:∀y,y∈E↔aBE g c y=true\/y=(g.nd x).o.Of):LnAt n gp X g (c++[x]):=by
 have d:¬(g.nd x).o.Kind=7:=o_;refine⟨h.fx.kp k d_,?_,⟨E,bs,cl,h1,λy=>?_⟩,?_,?_⟩;rw[aOX o_];exact h.out.kp k d_ λi b=>.inl (by simp at b;omega);rw[h2,aJ6,decide_eq_true e];simp only[mF,Ec,decide_eq_true_eq,eq_comm (a:=y)];rw[aOW d];obtain⟨bs,cl,f⟩:=h.had;exact⟨bs,cl,k _ _ d_ f⟩;rw[aR7 d];exact h.tx.kp k d_ λi b=>.inl (by simp at b;omega)
def LnAt.oth(h:LnAt n gp Z g c)(m:¬(g.nd x).o.Kind=6)(l:¬(g.nd x).o.Kind=7\/aJF g (g.nd x).o∈aH9 g c)(j:¬(g.nd x).o.Kind=8)(k:∀i o,i∉[10]->Z[i]?=some (some o)->X[i]?=some (some o)):LnAt n gp X g (c++[x]):=by
 have e:aH9 g (c++[x])=aH9 g c:=by rw[aIE,aE2];split;rename_i h;rw[aOM,if_pos (l.resolve_left λp=>p h)];rfl
 have f:aBB g (c++[x])=aBB g c:=by funext y;rw[aBB,e];rfl
 refine⟨h.fx.kp k d_,?_,?_,?_,?_⟩;rw[aOX m];exact h.out.kp k d_ λi a=>.inl (by simp at a;omega);rw[aOV j];obtain⟨E,bs,d,b,q⟩:=h.era;exact⟨E,bs,d,k _ _ d_ b,q⟩;rw[e];obtain⟨bs,d,b⟩:=h.had;exact⟨bs,d,k _ _ d_ b⟩;rw[f];exact h.tx.kp k d_ λi a=>.inl (by simp at a;omega)
def aOj{l:V_}{j a:Nat}(h:l.Nodup)(g:a∉l):(l.set j a).Nodup:=by
 rw[Rh,QD]at *
 intro i k d b c;rw[cL]at d b;rw[List.getElem_set,List.getElem_set];have:=h i k d b c;have f:=eQ d;have e:=eQ b;grind
def TxP.upd {f x:Id->List (List UInt8)} {P:List (Id×Nat)} {bs:V_} {cl:Nat} (h:TxP n Z f P bs cl) {j a a':Nat} {y:Id} (B:P[j]?=some (y,a)) (k:∀i o,i∉S->Z[i]?=some (some o)->X[i]?=some (some o)) (H:∀i∈S,i<11\/i=a) (G:11<=a') (E:∀e∈P,e.2≠a')
 (I:X[4]?=some (some (.map true (P.map λe=>e.1.K) ((P.map λe=>.own (n+e.2)).set j (.own (n+a'))) bs cl))) (D:X[a']?=some (some (.arr 1 ((x y).map stE)))) (C:∀z,z≠y->x z=f z):TxP n X x (P.set j (y,a')) bs cl:=by
 obtain⟨d,g⟩:=sV.1 B;have A:(P.set j (y,a')).map (·.1)=P.map (·.1):=by apply EW;intro i;simp only[gE,Hx];split;rename_i e;subst e;simp[d,g];rfl
 have L:(P.set j (y,a')).map (λe=>e.1.K)=P.map λe=>e.1.K:=by have:=congrArg (List.map Id.K) A;rwa[rI,rI]at this
 refine⟨by rw[L,Ba];exact I,by rw[A];exact h.k,?_,h.b,by rw[cL];exact h.bl,h.bc,λe w=>?_,λz s=>?_⟩;rw[Ba];exact aOj h.p λm=>by obtain⟨e,w,J⟩:=dF.1 m;exact E e w J
 obtain⟨i,l,rfl⟩:=List.mem_iff_getElem.1 w;rw[cL]at l;rw[List.getElem_set];split;exact⟨G,D⟩;rename_i u;have h1:=h.at' _ (eQ l);have v:=h.k;have t:=h.p;rw[Rh,QD]at v t;have F:P[i].1≠y/\P[i].2≠a:=by rcases Nat.lt_or_gt_of_ne u with c|c;have r:=v j i ke Z_ c;have q:=t j i ke Z_ c;simp only[zL,g]at r q;exact⟨Ne.symm r,Ne.symm q⟩;have r:=v i j Z_ ke c;have q:=t i j Z_ ke c;simp only[zL,g]at r q;exact⟨r,q⟩
 refine⟨h1.1,?_⟩;rw[C _ F.1];exact k _ _ (λm=>by rcases H _ m with h2|h2<;>omega) h1.2;rw[A]at s;rw[C z λe=>s (by rw[e];exact dF.2 ⟨_,Kd B,rfl⟩)];exact h.no z s
def TxP.add{f l:Id->List (List UInt8)}{P:List (Id×Nat)}{bs:V_}{cl:Nat}(h:TxP n Z f P bs cl){a':Nat}{y:Id}(r:y∉P.map (·.1))(k:∀i o,i∉S->Z[i]?=some (some o)->X[i]?=some (some o))(A:∀i∈S,i<11)(x:11<=a')(w:∀e∈P,e.2≠a')
 (B:X[4]?=some (some (.map true ((P.map λe=>e.1.K)++[y.K]) ((P.map λe=>.own (n+e.2))++[.own (n+a')]) (bs++[cl]) (cl+1)))) (t:X[a']?=some (some (.arr 1 ((l y).map stE)))) (s:∀z,z≠y->l z=f z):TxP n X l (P++[(y,a')]) (bs++[cl]) (cl+1):=by
 refine⟨by rw[bZ,bZ];exact B,?_,?_,?_,by simp[h.bl],?_,?_,?_⟩;rw[bZ,vQ];exact⟨h.k,s_,λu d v c e=>r (by rw[fG,uP,cA]at c;have D:u=y:=e.trans c;exact D ▸ d)⟩;rw[bZ,vQ];refine⟨h.p,s_,λu d v c e=>?_⟩;rw[fG,uP,cA]at c;obtain⟨q,a,C⟩:=dF.1 d;exact w q a (by rw[C,e,c]);rw[vQ];refine⟨h.b,s_,λu d v c e=>?_⟩;have:=h.bc u d;rw[cA]at c;omega;intro b g;rcases cG.1 g with g|g;have:=h.bc b g;omega;rw[cA]at g;omega;intro e a;rcases cG.1 a with a|a;have h1:=h.at' e a;refine⟨h1.1,?_⟩;rw[s e.1 λq=>r (by rw[<-q];exact List.mem_map_of_mem a)];exact k _ _ (λm=>by have:=A _ m;omega) h1.2;rw[cA]at a;subst a;exact⟨x,t⟩;intro z j;rw[bZ,cG,fG,uP,cA,not_or]at j;rw[s z j.2];exact h.no z j.1
def reU:(g.nd x).o.Kind=7->aJF g (g.nd x).o∉aH9 g c->∀y,aBB g (c++[x]) y=aBB g c y++if(g.nd x).o.Of=y then [aQa (g.nd x).o] else []:=by intro h1 h2 y;rw[aBB,aIE,aE2,if_pos h1,aOM,if_neg h2,Mf,bZ];congr 1;by_cases e:(g.nd x).o.Of=y;rw[if_pos e,show [aJF g (g.nd x).o].filter (λr=>decide (r.1=y))=[aJF g (g.nd x).o] by simp[aJF,e]];rfl;rw[if_neg e,show [aJF g (g.nd x).o].filter (λr=>decide (r.1=y))=[] by simp[aJF,e]];rfl
def LnAt.rea(h:LnAt n gp Z g c)(e:(g.nd x).o.Kind=7)(d:aJF g (g.nd x).o∉aH9 g c)(k:∀i o,i∉S->Z[i]?=some (some o)->X[i]?=some (some o))(a:∀i∈S,i=3\/i=4\/i=10\/(11<=i/\∃r,Z[i]?=some (some (.arr 1 r))))
 {bs:V_} {cl:Nat} (h3:X[3]?=some (some (.map true ((aH9 g c).map rkK++[rkK (aJF g (g.nd x).o)]) (((aH9 g c).map λ_=>.v (.bool true))++[.v (.bool true)]) bs cl))) (f:aOS n X (aBB g (c++[x]))):LnAt n gp X g (c++[x]):=by
 refine⟨h.fx.kp k λi b=>?_,?_,?_,⟨bs,cl,?_⟩,f⟩;rcases a i b with h|h|h|h<;>omega;rw[aOX o_];refine h.out.kp k (λm=>by rcases a _ m with h|h|h|h<;>omega) λi b=>?_;rcases a i b with h|h|h|h;exact .inl o_;exact .inl o_;exact .inl o_;exact .inr h.2;rw[aOV o_];obtain⟨E,bs,cl,l,j⟩:=h.era;exact⟨E,bs,cl,k _ _ (λm=>by rcases a _ m with h|h|h|h<;>omega) l,j⟩;rw[aIE,aE2,if_pos e,aOM,if_neg d,bZ,bZ];exact h3
end
def aKU(T:aK)(i n:Nat)(r:AV):List (Nat×AV):=[(73,iv i),(72,iv n),(71,r),(21,.cl aCE [.ptr (T.length+8) 0,.ptr (T.length+9) 0]),(8,.ptr (T.length+7) 0),(7,.ptr (T.length+6) 0),(6,.ptr (T.length+5) 0),(5,.ptr (T.length+1) 0),(4,.v (.slice none 0 0)),(2,.ptr T.length 0)]
abbrev aMn(x:Id)(e:Bool)(v:AV):List AV:=[iv x.a,iv x.b,.v (.int .u64 x.c),.v (.bool e),v]
structure LoAt(n gp:Nat)(Y:aK)(g:PGM)(c F E:List Id)(ebs:List Nat)(ecl:Nat)(P:List (Id×Nat))(bs:List Nat)(cl a i:Nat):Prop where
 fx:FxAt n gp Y
 out:Y[1]?=some (some (.box [.own (n+a)]))
 era:Y[2]?=some (some (.map true (E.map Id.K) (E.map λ_=>.v (.bool true)) ebs ecl))
 m:Y[4]?=some (some (.map true (P.map λe=>e.1.K) (P.map λe=>.own (n+e.2)) bs cl))
 rows:∃b rows,Y[a]?=some (some (jE b 5 rows))/\rows.length=F.length/\(∀j(h:j<F.length),j<i->∃v,rows[j]?=some (aMn F[j] (aBE g c F[j]) v)/\((v=.v (.slice none 0 0)/\F[j]∉P.map (·.1))\/∃k,(F[j],k)∈P/\v=.own (n+k)))/\∀j,i<=j->(h:j<F.length)->rows[j]?=some (aK7 F[j])
 tx:∀e∈P,Y[e.2]?=some (some (.arr 1 ((if e.1∈F.take i then aJ5 (aBB g c e.1) else aBB g c e.1).map stE)))
def TxP.fn{n:Nat}{Z:aK}{f:Id->List (List UInt8)}{P:List (Id×Nat)}{bs:V_}{cl:Nat}(h:TxP n Z f P bs cl){x:Id}{k l:Nat}(h1:(x,k)∈P)(h2:(x,l)∈P):k=l:=by obtain⟨d,j,g⟩:=List.mem_iff_getElem.1 h1;obtain⟨c,i,b⟩:=List.mem_iff_getElem.1 h2;have e:=h.k;rw[Rh,QD]at e;rcases aGJ d c with a|a|a;have:=e d c sf (by simpa using i) a;simp[g,b]at this;subst a;rw[g]at b;exact congrArg (·.2) b;have:=e c d (by simpa using i) sf a;simp[g,b]at this
def aOY{F:D_}(h:F.Nodup){i:Nat}(b:i<F.length):F[i]∉F.take i:=λm=>by obtain⟨j,a,e⟩:=TT.1 m;have:=(C9 h).1 e;omega
def aPv{G:L_}{T:aK}{j:Nat}{l:List (List UInt8)}(h:T[j]?=some (some (.arr 1 (l.map stE))))(d:l.length<2^62):aA PQ G aAO [.own j] T λr a=>r=.tup []/\a=T.set j (some (.arr 1 ((aJ5 l).map stE))):=by
 have i:xF [j] [AV.own j]=[.own 0]:=by simp[xF,Bd,TO]
 have g:GX [j] T=[some (.arr 1 (l.map stE))]:=by simp[GX,kU h,YQ]
 have c:IG PQ G aAO [.own j] T λr a=>r=.tup []/\a=T.set j (some (.arr 1 ((aJ5 l).map stE))):=by refine⟨_,aB _,.inl ⟨[j],s_,by simpa using dB h,?_⟩⟩;rw[i,g];refine(aPq l d).mono ?_;rintro r a ⟨rfl,rfl⟩;exact⟨rfl,rfl⟩
 exact λh k w b e hI f=>Ei c e hI f
def LoAt.step {n Q:Nat} {Y u Z:aK} {g:PGM} {c F E:D_} {r:V_} {q:Nat} {P:List (Id×Nat)} {bs:V_} {cl a i:Nat} {S:V_} {f:Id->List (List UInt8)} (h:LoAt n Q Y g c F E r q P bs cl a i) (G:i<F.length) (ha:11<=a) (O:TxP n Z f P bs cl) (C:∀e∈P,e.2≠a) (nd:F.Nodup)
 (k:∀i o,i∉S->Y[i]?=some (some o)->u[i]?=some (some o)) (N:∀s∈S,s=a\/(F[i],s)∈P) {b':Bool} {b:N_} {v:AV} (A:b.length=F.length)
 (B:∀j(h:j<F.length),j<i->∃v,b[j]?=some (aMn F[j] (aBE g c F[j]) v)/\((v=.v (.slice none 0 0)/\F[j]∉P.map (·.1))\/∃k,(F[j],k)∈P/\v=.own (n+k))) (z:∀j,i<=j->(h:j<F.length)->b[j]?=some (aK7 F[j]))
 (V:u[a]?=some (some (jE b' 5 (b.set i (aMn F[i] (aBE g c F[i]) v))))) (T:(v=.v (.slice none 0 0)/\F[i]∉P.map (·.1))\/∃k,(F[i],k)∈P/\v=.own (n+k)) (U:∀k,(F[i],k)∈P->u[k]?=some (some (.arr 1 ((aJ5 (aBB g c F[i])).map stE)))):
 LoAt n Q u g c F E r q P bs cl a (i+1):=by
 have J:∀s∈S,11<=s:=λs m=>(N s m).elim (λe=>o_) λe=>(O.at' _ e).1;have d:∀i o,i<11->Y[i]?=some (some o)->u[i]?=some (some o):=λi o hi=>k i o λm=>by have:=J i m;omega
 refine⟨⟨d _ _ d_ h.fx.x0,d _ _ d_ h.fx.x5,d _ _ d_ h.fx.x6,d _ _ d_ h.fx.x7⟩,d _ _ d_ h.out,d _ _ d_ h.era,d _ _ d_ h.m,⟨b',_,V,by rw[cL];exact A,λj H W=>?_,λj X H=>?_⟩,λe w=>?_⟩;by_cases e:j=i;subst e;exact⟨v,by rw[List.getElem?_set_self o_],T⟩;rw[List.getElem?_set_ne (Ne.symm e)];exact B j H o_;rw[List.getElem?_set_ne o_];exact z j o_ H;have R:F.take (i+1)=F.take i++[F[i]]:=lB G;by_cases t:e.1=F[i];have I:(F[i],e.2)∈P:=by rw[<-t];exact w
 rw[U _ I,t,if_pos (by rw[R];exact List.mem_append_right _ (cA.2 rfl))];have h1:=h.tx e w;have e2:e.1∈F.take (i+1)↔e.1∈F.take i:=by rw[R,cG,cA];exact⟨λh=>h.resolve_right t,.inl⟩
 rw[show(if e.1∈F.take (i+1) then aJ5 (aBB g c e.1) else aBB g c e.1)=if e.1∈F.take i then aJ5 (aBB g c e.1) else aBB g c e.1 by simp only[e2]];refine k _ _ (λm=>?_) h1;rcases N _ m with h2|h2;exact C e w h2;obtain⟨y,M,rfl⟩:=List.mem_iff_getElem.1 w;obtain⟨x,L,K⟩:=List.mem_iff_getElem.1 h2;have D:=O.p;rw[Rh,QD]at D;rcases aGJ y x with l|l|l;have:=D y x (by simpa using M) (by simpa using L) l;simp only[zL,K]at this;exact this rfl;subst l;rw[K]at t;exact t rfl;have:=D x y (by simpa using L) (by simpa using M) l;simp only[zL,K]at this;exact this rfl
def aR8(n:Nat)(X:aK)(r:AV)(L:List LnM):Prop:=(L=[]/\r=.v (.slice none 0 0))\/∃a b c,r=.own (n+a)/\X[a]?=some (some (jE b 5 c))/\c.length=L.length/\∀i(h:i<L.length),∃v,c[i]?=some (aMn L[i].id L[i].er v)/\((v=.v (.slice none 0 0)/\L[i].re=[])\/∃k,v=.own (n+k)/\X[k]?=some (some (.arr 1 (L[i].re.map stE))))
section
variable{T:aK}{p:Nat×Nat×Nat}{g:PGM}
def aLJ (hA:AK G) (h:GAt T p g) (hg:GGood g) {l:D_} (hs:∀x∈l,x∈g.I) (hn:l.Nodup) (hl:l.length<=1000):
 aA PQ G aE5 [.ptr p.1 0,ids l] T λr T'=>∃X,T'=T++X/\aR8 T.length X r (aBA g (kW g l)):=by
 apply fT aKJ;simp only[go_sem,nY,aD,cU,eB,jC,dM];refine F4 (post:=λy T'=>y=.cl aCE [.ptr (T.length+8) 0,.ptr (T.length+9) 0]/\T'=T++aPt T p l) (aB _) (fT aJH ?_) ?_;simp only[go_sem,aPt,eB,jC,dM,dZ,sE,gQ];rintro y T' ⟨rfl,rfl⟩;simp only[go_sem];refine NX rfl (vZ aH5) λr k1 k2 hy ar=>?_;clear hy;simp only[go_sem,eB,aPt,dZ,sE,gQ,jC,dM];refine F4 (post:=λ_ T'=>aPu T p g l r (kW g l).length T') (aB _) (aMz (p:=p) hA hg hs hn hl (aPu T p g l r) ?_ ?_ ?_) ?_;rintro k T1 ⟨X,rfl,hX,x8,x9,M⟩;exact⟨h.app,by rw[aZ];exact x8,by rw[aZ];exact x9⟩
 ·rintro k hk T1 W ⟨X,rfl,hX,x8,x9,M⟩;rw[eB];apply ar _ _ _ _ _ (kU (by rw[aZ];exact aF M)) rfl;rw[cP];have C:LnAt T.length p.1 ((X++W).set 10 none) g ((kW g l).take k):=hX.kp λi o d t=>by rw[aY (Ne.symm d)];exact aF t
  have z8:((X++W).set 10 none)[8]?=some (some (.box [.ptr p.1 0])):=by rw[aY d_];exact aF x8
  have z9:((X++W).set 10 none)[9]?=some (some (.box [ids l])):=by rw[aY d_];exact aF x9
  have U:((X++W).set 10 none)[10]?=some none:=dS (aF M);clear hX x8 x9 M ar;generalize(X++W).set 10 none=Z at *
  generalize(T++(X++W)).length=R;clear X W;have bn:=hs _ (aET _ (eQ hk));have bb:(kW g l).take (k+1)=(kW g l).take k++[(kW g l)[k]]:=lB hk;have hJ:∀X',LnAt T.length p.1 X' g ((kW g l).take (k+1))->X'[8]?=some (some (.box [.ptr p.1 0]))->X'[9]?=some (some (.box [ids l]))->X'[10]?=some (some (.lp r [(8,.ptr (T.length+7) 0),(7,.ptr (T.length+6) 0),(6,.ptr (T.length+5) 0),(5,.ptr (T.length+1) 0),(2,.ptr T.length 0)]))->aPu T p g l r (k+1) (T++X'):=λX' h1 h2 h3 h4=>⟨X',rfl,h1,h2,h3,h4⟩
  rw[bb]at hJ;generalize(kW g l)[k]=x at *
  have av:((kW g l).take k).length<=1000:=by have:=aE4 (g:=g) (l:=l);rw[eC];omega
  generalize(kW g l).take k=c at *
  generalize aPu T p g l r (k+1)=J at *
  clear bb hk hs hn hl k;have w0:=λY:aK=>aF (X:=Y) C.fx.x0;have w5:=λY:aK=>aF (X:=Y) C.fx.x5;have w6:=λY:aK=>aF (X:=Y) C.fx.x6;have w7:=λY:aK=>aF (X:=Y) C.fx.x7;generalize L:(g.nd x).o=q at *
  have zl:=dB U;rcases hq1:q.Kind==6 with _|_;rotate_left;have bd:(g.nd x).o.Kind=6:=by rw[L];exact eq_of_beq hq1
  have fl:(c.filter λx=>decide ((g.nd x).o.Kind=6)).length<=1000:=uR (List.length_filter_le _ _) av;rcases C.out with⟨aw,o1⟩|⟨a,ha,o1,o2⟩
  have w1:=λY:aK=>aF (X:=Y) o1;simp only[go_sem,nY,eB,jC,dM,hq1,w1,(g_:(1:Nat)<=maxLen)];refine hJ _ (C.msg (S:=[1,10]) (a:=Z.length+3) bd (λi o d t=>?_) (λi d=>?_) o_ ?_ ?_) ?_ ?_ ?_;rw[aY (λe=>d (by simp[<-e])),aY (λe=>d (by simp[<-e]))];exact aF t;simp at d;omega;rw[aY d_];exact dS (w1 _);rw[aY o_,aY o_,aZ,aw];rfl;rw[aY d_,aY d_];exact aF z8;rw[aY d_,aY d_];exact aF z9;exact dS (by rw[aY d_];exact aF U);have w1:=λY:aK=>aF (X:=Y) o1;have wa:=λY:aK=>aF (X:=Y) o2;have az:=λY Y':aK=>aF (X:=Y') ((aY (o:=none) (o_:a≠1)).trans (w1 Y));simp only[go_sem,nY,eB,jC,dM,hq1,w1,wa,aP,(g_:(c.filter λx=>decide ((g.nd x).o.Kind=6)).length+1<=maxLen),(o_:((c.filter λx=>decide ((g.nd x).o.Kind=6)).length+1)*56<=140737488355328),az];refine hJ _ (C.msg (S:=[1,10,a]) (a:=Z.length+3) bd (λi o d t=>?_) (λi d=>?_) o_ ?_ ?_) ?_ ?_ ?_;simp only[cS,pP,or_false,not_or]at d;rw[aY (Ne.symm d.2.1),aY (Ne.symm d.1)];exact aF (by rw[aY (Ne.symm d.2.2)];exact aF t);simp only[cS,pP,or_false]at d;rcases d with rfl|rfl|rfl;exact .inl rfl;exact .inr (.inl rfl);exact .inr (.inr ⟨ha,_,o2⟩);rw[aY d_];exact dS (az _ _);rw[aY o_,aY o_,Mc s_];simp;rw[aY d_,aY d_];exact aF (by rw[aY o_];exact aF z8);rw[aY d_,aY d_];exact aF (by rw[aY o_];exact aF z9);exact dS (by rw[aY d_];exact aF (by rw[aY o_];exact aF U))
  ·rcases hq2:q.Kind==8 with _|_;rotate_left;have bi:(g.nd x).o.Kind=8:=by rw[L];exact eq_of_beq hq2
   obtain⟨E,bs,cl,e1,e2⟩:=C.era;have w2:=λY:aK=>aF (X:=Y) e1;have hf:eR [.int .i64,.int .i64,.int .u64] [.int .i64 q.Of.a,.int .i64 q.Of.b,.int .u64 q.Of.c] (E.map Id.K) 0=_:=qH q.Of E 0;have ac:∀(W:aK)(E':D_)(bs':V_)(cl':Nat),(∀y,y∈E'↔aBE g c y=true\/y=q.Of) ->
    J (T++((Z++W).set 2 (some (.map true (E'.map Id.K) (E'.map λ_=>.v (.bool true)) bs' cl'))).set 10 (some (.lp r [(8,.ptr (T.length+7) 0),(7,.ptr (T.length+6) 0),(6,.ptr (T.length+5) 0),(5,.ptr (T.length+1) 0),(2,.ptr T.length 0)]))):=by
    intro W E' bs' cl' bm;refine hJ _ (C.era' (bs:=bs') (cl:=cl') (E:=E') bi (λi o d t=>?_) ?_ (by rw[L];exact bm)) ?_ ?_ ?_;simp only[cS,pP,or_false,not_or]at d;rw[aY (Ne.symm d.2),aY (Ne.symm d.1)];exact aF t;rw[aY d_];exact dS (w2 _);rw[aY d_,aY d_];exact aF z8;rw[aY d_,aY d_];exact aF z9;exact dS (by rw[aY d_];exact aF U)
   by_cases Q:q.Of∈E;obtain⟨j,j1,j2⟩:=aLR Q;rw[j1]at hf;simp only[go_sem,nY,eB,jC,dM,hq1,hq2,w6,w5,w2,hf,aOU];refine ac _ _ _ _ λy=>?_;rw[e2];refine⟨.inl,λh=>h.elim id λe=>?_⟩;rw[e,<-e2];exact Q;rw[aMA Q]at hf;simp only[go_sem,nY,eB,jC,dM,hq1,hq2,w6,w5,w2,hf];have:=ac [some (.box [iv x.a,iv x.b,.v (.int .u64 x.c)]),some (.box q.A)] (E++[q.Of]) (bs++[cl]) (cl+1) λy=>by rw[cG,cA,e2]
   rw[bZ,bZ]at this;exact this;rcases hq3:q.Kind==7 with _|_;simp only[go_sem,nY,eB,jC,dM,hq1,hq2,hq3];refine hJ _ (C.oth (by rw[L];simpa using hq1) (.inl (by rw[L];simpa using hq3)) (by rw[L];simpa using hq2) (λi o d t=>?_)) ?_ ?_ ?_;rw[aY (λe=>d (by simp[<-e]))];exact aF t;rw[aY d_];exact aF z8;rw[aY d_];exact aF z9;exact dS (aF U);have af:(g.nd x).o.Kind=7:=by rw[L];exact eq_of_beq hq3
   have bk:=λX=>aQ4 (G:=G) (h.app (X:=X)) hg.ok q.By;simp only[go_sem,nY,eB,jC,dM,hq1,hq2,hq3,w0];apply cI (bk _);obtain⟨be,ad,e3⟩:=C.had;have w3:=λY:aK=>aF (X:=Y) e3;have bo:aJF g q=(q.Of,(gM g.cards q.By).1.Member,aQa q):=rfl;have hf:eR [.int .i64,.int .i64,.int .u64,.int .i64,.str] [.int .i64 q.Of.a,.int .i64 q.Of.b,.int .u64 q.Of.c,.int .i64 (gM g.cards q.By).1.Member,.string ⟨(q.Body.map UInt8.ofNat).toArray⟩] ((aH9 g c).map rkK) 0=_:=aNU (aJF g q) (aH9 g c) 0;have bh:(ByteArray.mk (q.Body.map UInt8.ofNat).toArray).toList=q.Body.map UInt8.ofNat:=aNT _;by_cases hH:aJF g q∈aH9 g c;obtain⟨j,j1,j2⟩:=aLR hH;rw[j1]at hf;have hv:((aH9 g c).map λ_=>AV.v (.bool true))[j]?=some (.v (.bool true)):=by rw[gE,j2];rfl
   simp only[go_sem,nY,eB,jC,dM,FX,CardM.A,w3,w6,hf,hv,aOU];refine hJ _ (C.oth (by rw[L];simpa using hq1) (.inr ka) (by rw[L];simpa using hq2) (λi o d t=>?_)) ?_ ?_ ?_;rw[aY (λe=>d (by simp[<-e]))];by_cases i3:i=3;subst i3;rw[e3]at t;rw[<-t];exact dS (w3 _);rw[aY (Ne.symm i3)];exact aF t;rw[aY d_,aY d_];exact aF z8;rw[aY d_,aY d_];exact aF z9;exact dS (by rw[aY d_];exact aF U);rw[aMA hH]at hf;obtain⟨P,bs,cl,D⟩:=C.tx;have l3:3<Z.length:=o_;have l4:4<Z.length:=o_;have l6:6<Z.length:=o_;have l7:7<Z.length:=o_;have O:eR [.int .i64,.int .i64,.int .u64] [.int .i64 q.Of.a,.int .i64 q.Of.b,.int .u64 q.Of.c] (P.map λe=>e.1.K) 0=some (((P.map (·.1)).findIdx? λy=>decide (y=q.Of)).map (· + 0)):=by have:=qH q.Of (P.map (·.1)) 0;rw[rI]at this;exact this
   by_cases Q:q.Of∈P.map (·.1);obtain⟨j,j1,j2⟩:=aLR Q;rw[j1]at O;have an:j<P.length:=by have:=(sV.1 j2).1;simpa using this
   obtain⟨⟨y,a⟩,hj⟩:∃e,P[j]?=some e:=⟨_,jN an⟩
   rw[gE,hj]at j2;have hy:y=q.Of:=by simpa using j2
   subst hy;obtain⟨ha,o2⟩:=D.at' _ (Kd hj);have bf:j<bs.length:=by rw[D.bl];exact an
   have hb:bs[j]?=some bs[j]:=jN bf;have hv:(P.map λe=>AV.own (T.length+e.2))[j]?=some (.own (T.length+a)):=by rw[gE,hj];rfl
   have d:=aR6 D.b bf;have rl:=aKH g c q.Of;have la:=dB o2;have n3:a≠3:=o_;have n4:a≠4:=o_;have n6:a≠6:=o_;have n7:a≠7:=o_;have ba:a≠10:=o_;simp only[go_sem,nY,eB,jC,dM,FX,CardM.A,aJI,aIW,cL,mY,List.getElem?_set_ne,ne_eq,not_false_eq_true,e3,D.m,C.fx.x6,C.fx.x7,o2,l3,l4,l6,l7,la,n3,n4,n6,n7,ba,hf,O,hv,hb,d,aP,(g_:(aBB g c q.Of).length+1<=maxLen),(o_:((aBB g c q.Of).length+1)*16<=140737488355328)];refine hJ _ (C.rea (S:=[3,4,10,a]) af ka (λi o d t=>?_) (λi d=>?_) (bs:=be++[ad]) (cl:=ad+1) ?_ ⟨_,_,_,D.upd (S:=[3,4,10,a]) (a':=Z.length+5) hj (λi o d t=>?_) (λi d=>?_) o_ (λe he=>?_) ?_ ?_ λz aq=>?_⟩) ?_ ?_ ?_;simp only[cS,pP,or_false,not_or]at d;rw[aY (Ne.symm d.2.2.1)];exact aF dx;simp only[cS,pP,or_false]at d;rcases d with rfl|rfl|rfl|rfl;exact .inl rfl;exact .inr (.inl rfl);exact .inr (.inr (.inl rfl));exact .inr (.inr (.inr ⟨ha,_,o2⟩));rw[aY d_,L];exact aF (dS (by rw[aY d_,aY n3];exact e3));simp only[cS,pP,or_false,not_or]at d;rw[aY (Ne.symm d.2.2.1)];exact aF dx;simp only[cS,pP,or_false]at d;omega;have:=dB (D.at' e he).2;omega;rw[aY d_];exact aF (by rw[aY d_];exact dS (by rw[aY n4];exact D.m));rw[aY o_,aIW (by simp only[cL]),reU af ka,L,if_pos rfl,bZ];rfl;rw[reU af ka,L,if_neg (Ne.symm aq),jO];rw[aY d_];exact aF (by rw[aY d_,aY d_,aY o_];exact z8);rw[aY d_];exact aF (by rw[aY d_,aY d_,aY o_];exact z9);exact dS (aF (by rw[aY d_,aY d_,aY ba];exact U));rw[aMA Q]at O;have d:(bs++[cl]).findIdx? (λb:Nat=>(b:Int)==(cl:Int))=some P.length:=by have:=aR6 (l:=bs++[cl]) (j:=bs.length) (vQ.2 ⟨D.b,s_,λu hu v hv e=>by have:=D.bc u hu;rw[cA]at hv;omega⟩) s_;rw[<-D.bl];simpa using this
   simp only[go_sem,nY,eB,jC,dM,FX,CardM.A,aJI,aIW,cL,mY,List.getElem?_set_ne,ne_eq,not_false_eq_true,e3,D.m,C.fx.x6,C.fx.x7,List.getElem?_set_self,List.set_set,aOT,aP,l3,l4,l6,l7,hf,O,d,(g_:(1:Nat)<=maxLen)];refine hJ _ (C.rea (S:=[3,4,10]) af ka (λi o d t=>?_) (λi d=>?_) (bs:=be++[ad]) (cl:=ad+1) ?_ ⟨_,_,_,D.add (S:=[3,4,10]) (a':=Z.length+5) Q (λi o d t=>?_) (λi d=>?_) o_ (λe he=>?_) ?_ ?_ λz aq=>?_⟩) ?_ ?_ ?_;simp only[cS,pP,or_false,not_or]at d;rw[aY (Ne.symm d.2.2)];exact aF (by rw[aY (Ne.symm d.1),aY (Ne.symm d.2.1)];exact t);simp only[cS,pP,or_false]at d;omega;rw[aY d_,L];exact aF (dS (by rw[aY d_];exact e3));simp only[cS,pP,or_false,not_or]at d;rw[aY (Ne.symm d.2.2)];exact aF (by rw[aY (Ne.symm d.1),aY (Ne.symm d.2.1)];exact t);simp only[cS,pP,or_false]at d;omega;have:=dB (D.at' e he).2;omega;rw[aY d_];exact aF (by rw[aY d_];exact dS D.m);rw[aY o_,aIW (by simp only[cL]),reU af ka,L,if_pos rfl,D.no _ Q];rfl;rw[reU af ka,L,if_neg (Ne.symm aq),jO];rw[aY d_];exact aF (by rw[aY d_,aY d_];exact z8);rw[aY d_];exact aF (by rw[aY d_,aY d_];exact z9);exact dS (aF (by rw[aY d_,aY d_];exact U))
 exact⟨_,rfl,⟨⟨rfl,rfl,rfl,rfl⟩,.inl ⟨rfl,rfl⟩,⟨[],[],0,rfl,by simp[aBE]⟩,⟨[],0,rfl⟩,⟨[],[],0,rfl,s_,s_,s_,rfl,s_,s_,λ_ _=>rfl⟩⟩,rfl,rfl,rfl⟩;rintro y T' ⟨X,rfl,hX,x8,x9,M⟩;have C:LnAt T.length p.1 (X.set 10 none) g (kW g l):=by rw[dE]at hX;exact hX.kp λi o d t=>by rw[aY (Ne.symm d)];exact t
 have bt:cR (T++X) (T.length+10)=some (.lp r [(8,.ptr (T.length+7) 0),(7,.ptr (T.length+6) 0),(6,.ptr (T.length+5) 0),(5,.ptr (T.length+1) 0),(2,.ptr T.length 0)]):=kU (by rw[aZ];exact M);have ap:(aPt T p l).length=10:=rfl;clear ar hX x8 x9;have zl:=dB (dS (o:=none) M);generalize hY:X.set 10 none=Z at *
 have nd:((kW g l).filter λx=>decide ((g.nd x).o.Kind=6)).Nodup:=(aK1 hn).filter _;have av:(kW g l).length<=1000:=uR aE4 hl;have fl:((kW g l).filter λx=>decide ((g.nd x).o.Kind=6)).length<=1000:=uR (List.length_filter_le _ _) av;rcases C.out with⟨aw,o1⟩|⟨a,ha,o1,o2⟩
 simp only[go_sem,aFa,ap,M,k1,k2,cP,aZ,hY,o1];apply kL (λn st=>st=⟨T.length,aKU T 0 0 (.v (.slice none 0 0)),T++Z⟩) 0 rfl;rintro n st rfl;simp only[go_sem,aKU,o1,aZ];exact⟨Z,rfl,.inl ⟨by unfold aBA;rw[aw];rfl,rfl⟩⟩
 ·simp only[go_sem,aFa,ap,M,k1,k2,cP,aZ,hY,o1,o2,aP];generalize hF:(kW g l).filter (λx=>decide ((g.nd x).o.Kind=6))=F at *
  generalize br:kW g l=c at *
  obtain⟨E,ay,ax,e1,e2⟩:=C.era;obtain⟨P,bs,cl,D⟩:=C.tx;refine kL (λn st=>∃i,i<=F.length/\n=F.length-i/\∃Y,LoAt T.length p.1 Y g c F E ay ax P bs cl a i/\st=⟨T.length,aKU T i F.length (.own (T.length+a)),T++Y⟩) F.length ⟨0,pR _,rfl,Z,?_,rfl⟩ ?_;refine⟨C.fx,o1,e1,D.m,⟨true,_,o2,by rw[aP],λj _ h=>absurd h o_,λj _ h=>aO _ F j h⟩,λe he=>?_⟩;rw[uQ,if_neg s_];exact(D.at' e he).2;have al:∀e∈P,e.2≠a:=λe he h=>by have:=(D.at' e he).2;rw[h,o2]at this;simp at this
  rintro n st ⟨i,d,bp,Y,f,rfl⟩;rcases eD i F.length with w|bq;rotate_left;obtain rfl:i=F.length:=o_;obtain⟨b,V,hr,aj,ak,ai⟩:=f.rows;simp only[go_sem,aKU,aS (bP _),f.out,aZ];refine⟨Y,rfl,.inr ⟨a,b,V,rfl,hr,by rw[aBA,hF,aP];exact aj,λj hj=>?_⟩⟩;have au:j<F.length:=by rw[aBA,hF,aP]at hj;exact hj
  have e3:(aBA g c)[j]=⟨F[j],aBE g c F[j],aJ5 (aBB g c F[j])⟩:=by simp only[aBA,hF,zL]
  obtain⟨v,v1,v2⟩:=ak j au au;refine⟨v,by rw[e3];exact v1,?_⟩;rw[e3];rcases v2 with⟨v3,v4⟩|⟨k,v3,v4⟩
  exact .inl ⟨v3,by show aJ5 (aBB g c F[j])=[];rw[D.no _ v4];exact List.mergeSort_nil⟩;refine .inr ⟨k,v4,?_⟩;have:=f.tx _ v3;rw[if_pos (by rw[dE];exact eQ au)]at this;exact this;have ws:=fQ i o_;obtain⟨b,V,hr,aj,ak,ai⟩:=f.rows;have aa:=ai i (cN _) w;have ab:i<V.length:=o_;have ao:eR [.int .i64,.int .i64,.int .u64] [.int .i64 F[i].a,.int .i64 F[i].b,.int .u64 F[i].c] (E.map Id.K) 0=_:=qH F[i] E 0;have O:eR [.int .i64,.int .i64,.int .u64] [.int .i64 F[i].a,.int .i64 F[i].b,.int .u64 F[i].c] (P.map λe=>e.1.K) 0=some (((P.map (·.1)).findIdx? λy=>decide (y=F[i])).map (· + 0)):=by have:=qH F[i] (P.map (·.1)) 0;rw[rI]at this;exact this
  have bg:(eR [.int .i64,.int .i64,.int .u64] [.int .i64 F[i].a,.int .i64 F[i].b,.int .u64 F[i].c] (E.map Id.K) 0=some none/\aBE g c F[i]=false)\/∃j,eR [.int .i64,.int .i64,.int .u64] [.int .i64 F[i].a,.int .i64 F[i].b,.int .u64 F[i].c] (E.map Id.K) 0=some (some j)/\(E.map λ_=>AV.v (.bool true))[j]?=some (.v (.bool true))/\aBE g c F[i]=true:=by by_cases Q:F[i]∈E;obtain⟨j,j1,j2⟩:=aLR Q;rw[j1]at ao;exact .inr ⟨j,ao,by rw[gE,j2];rfl,(e2 _).1 Q⟩;rw[aMA Q]at ao;exact .inl ⟨ao,by rw[e2]at Q;simpa using Q⟩
  have ah:(eR [.int .i64,.int .i64,.int .u64] [.int .i64 F[i].a,.int .i64 F[i].b,.int .u64 F[i].c] (P.map λe=>e.1.K) 0=some none/\F[i]∉P.map (·.1))\/∃j k,eR [.int .i64,.int .i64,.int .u64] [.int .i64 F[i].a,.int .i64 F[i].b,.int .u64 F[i].c] (P.map λe=>e.1.K) 0=some (some j)/\(P.map λe=>AV.own (T.length+e.2))[j]?=some (.own (T.length+k))/\(F[i],k)∈P:=by
   by_cases Q:F[i]∈P.map (·.1);obtain⟨j,j1,j2⟩:=aLR Q;rw[j1]at O;have an:j<P.length:=by have:=(sV.1 j2).1;simpa using this
   obtain⟨⟨y,k⟩,hj⟩:∃e,P[j]?=some e:=⟨_,jN an⟩
   rw[gE,hj]at j2;have hy:y=F[i]:=by simpa using j2
   exact .inr ⟨j,k,O,by rw[gE,hj];rfl,hy ▸ Kd hj⟩;rw[aMA Q]at O;exact .inl ⟨O,Q⟩
  have la:=dB hr;have l7:=dB f.fx.x7;have l1:1<Y.length:=o_;have l2:2<Y.length:=o_;have l4:4<Y.length:=o_;have l5:5<Y.length:=o_;have n1:a≠1:=o_;have n2:a≠2:=o_;have n4:a≠4:=o_;have n5:a≠5:=o_;have n7:a≠7:=o_;have ac:∀(W:aK)(b':Bool),F[i]∉P.map (·.1)->LoAt T.length p.1 (Y.set a (some (jE b' 5 (V.set i (aMn F[i] (aBE g c F[i]) (.v (.slice none 0 0))))))++W) g c F E ay ax P bs cl a (i+1):=λW b' h=>by refine f.step (S:=[a]) w ha D al nd (λj o hj ho=>?_) (λs hs=>.inl (by simpa using hs)) aj ak ai (v:=.v (.slice none 0 0)) (b':=b') (aF (dS hr)) (.inl ⟨rfl,h⟩) λk hk=>absurd (dF.2 ⟨_,hk,rfl⟩) h;exact aF (by rw[aY (λe=>hj az)];exact ho)
  have ae:∀(W:aK)(b':Bool)(k:Nat),(F[i],k)∈P->LoAt T.length p.1 (((Y.set a (some (jE b' 5 (V.set i (aMn F[i] (aBE g c F[i]) (.own (T.length+k)))))))++W).set k (some (.arr 1 ((aJ5 (aBB g c F[i])).map stE)))) g c F E ay ax P bs cl a (i+1):=λW b' k hk=>by
   have am:=al _ hk;have t:=f.tx _ hk;refine f.step (S:=[a,k]) w ha D al nd (λj o hj ho=>?_) (λs hs=>?_) aj ak ai (v:=.own (T.length+k)) (b':=b') ?_ (.inr ⟨k,hk,rfl⟩) λk' bj=>?_;simp only[cS,pP,or_false,not_or]at hj;rw[aY (Ne.symm hj.2)];exact aF (by rw[aY (Ne.symm hj.1)];exact ho);simp only[cS,pP,or_false]at hs;exact hs.imp id λe=>by rw[e];exact hk
   rw[aY am];exact aF (dS hr);obtain rfl:k'=k:=D.fn bj hk;exact dS (aF (by rw[aY (Ne.symm am)];exact t))
  have B:∀(W:aK)(o:Option AObj)(k:Nat),(F[i],k)∈P->aA PQ G aAO [.own (T.length+k)] (T++(Y.set a o++W)) λr T'=>r=.tup []/\T'=T++(Y.set a o++W).set k (some (.arr 1 ((aJ5 (aBB g c F[i])).map stE))):=λW o k hk=>by have am:=al _ hk;have t:=f.tx _ hk;rw[if_neg (aOY nd w)]at t;have:=aPv (G:=G) (T:=T++(Y.set a o++W)) (j:=T.length+k) (l:=aBB g c F[i]) (by rw[aZ];exact aF (by rw[aY (Ne.symm am)];exact t)) (by have:=aKH g c F[i];omega);rwa[cP]at this
  rcases bg with⟨q1,q2⟩|⟨j,q1,q3,q2⟩
  cases b;simp only[jE]at hr;rcases ah with⟨p1,N⟩|⟨j,k,p1,p3,N⟩
  simp only[go_sem,aKU,nY,aT w,aJI,aIW,aIK,cL,mY,List.getElem?_set_ne,List.getElem?_set_self,List.set_set,ne_eq,not_false_eq_true,hr,ab,aa,la,l1,l2,l4,l5,l7,n1,n2,n4,n5,n7,f.out,f.fx.x5,f.fx.x7,f.era,f.m,q1,p1];apply cI aJM;simp only[go_sem,ws];have H:=ac [some (.box (aK7 F[i]))] false N;rw[q2]at H;exact⟨_,(by omega:F.length-(i+1)<n),i+1,o_,rfl,_,H,rfl⟩;simp only[go_sem,aKU,nY,aT w,aJI,aIW,aIK,cL,mY,List.getElem?_set_ne,List.getElem?_set_self,List.set_set,ne_eq,not_false_eq_true,hr,ab,aa,la,l1,l2,l4,l5,l7,n1,n2,n4,n5,n7,f.out,f.fx.x5,f.fx.x7,f.era,f.m,q1,p1,p3];apply jA (B _ _ k N);rintro y T' ⟨rfl,rfl⟩;simp only[go_sem,ws];have H:=ae [some (.box (aK7 F[i]))] false k N;rw[q2]at H;exact⟨_,(by omega:F.length-(i+1)<n),i+1,o_,rfl,_,H,rfl⟩;simp only[jE]at hr;rcases ah with⟨p1,N⟩|⟨j,k,p1,p3,N⟩
  simp only[go_sem,aKU,nY,aT w,aJI,aIW,aIK,cL,mY,List.getElem?_set_ne,List.getElem?_set_self,List.set_set,ne_eq,not_false_eq_true,hr,ab,aa,la,l1,l2,l4,l5,l7,n1,n2,n4,n5,n7,f.out,f.fx.x5,f.fx.x7,f.era,f.m,q1,p1];apply cI aJM;simp only[go_sem,ws];have H:=ac [some (.box (aK7 F[i]))] true N;rw[q2]at H;exact⟨_,(by omega:F.length-(i+1)<n),i+1,o_,rfl,_,H,rfl⟩;simp only[go_sem,aKU,nY,aT w,aJI,aIW,aIK,cL,mY,List.getElem?_set_ne,List.getElem?_set_self,List.set_set,ne_eq,not_false_eq_true,hr,ab,aa,la,l1,l2,l4,l5,l7,n1,n2,n4,n5,n7,f.out,f.fx.x5,f.fx.x7,f.era,f.m,q1,p1,p3];apply jA (B _ _ k N);rintro y T' ⟨rfl,rfl⟩;simp only[go_sem,ws];have H:=ae [some (.box (aK7 F[i]))] false k N;rw[q2]at H;exact⟨_,(by omega:F.length-(i+1)<n),i+1,o_,rfl,_,H,rfl⟩;cases b;simp only[jE]at hr;rcases ah with⟨p1,N⟩|⟨j,k,p1,p3,N⟩
  simp only[go_sem,aKU,nY,aT w,aJI,aIW,aIK,cL,mY,List.getElem?_set_ne,List.getElem?_set_self,List.set_set,ne_eq,not_false_eq_true,hr,ab,aa,la,l1,l2,l4,l5,l7,n1,n2,n4,n5,n7,f.out,f.fx.x5,f.fx.x7,f.era,f.m,q1,q3,p1];apply cI aJM;simp only[go_sem,ws];have H:=ac [some (.box (aK7 F[i]))] false N;rw[q2]at H;exact⟨_,(by omega:F.length-(i+1)<n),i+1,o_,rfl,_,H,rfl⟩;simp only[go_sem,aKU,nY,aT w,aJI,aIW,aIK,cL,mY,List.getElem?_set_ne,List.getElem?_set_self,List.set_set,ne_eq,not_false_eq_true,hr,ab,aa,la,l1,l2,l4,l5,l7,n1,n2,n4,n5,n7,f.out,f.fx.x5,f.fx.x7,f.era,f.m,q1,q3,p1,p3];apply jA (B _ _ k N);rintro y T' ⟨rfl,rfl⟩;simp only[go_sem,ws];have H:=ae [some (.box (aK7 F[i]))] false k N;rw[q2]at H;exact⟨_,(by omega:F.length-(i+1)<n),i+1,o_,rfl,_,H,rfl⟩;simp only[jE]at hr;rcases ah with⟨p1,N⟩|⟨j,k,p1,p3,N⟩
  simp only[go_sem,aKU,nY,aT w,aJI,aIW,aIK,cL,mY,List.getElem?_set_ne,List.getElem?_set_self,List.set_set,ne_eq,not_false_eq_true,hr,ab,aa,la,l1,l2,l4,l5,l7,n1,n2,n4,n5,n7,f.out,f.fx.x5,f.fx.x7,f.era,f.m,q1,q3,p1];apply cI aJM;simp only[go_sem,ws];have H:=ac [some (.box (aK7 F[i]))] true N;rw[q2]at H;exact⟨_,(by omega:F.length-(i+1)<n),i+1,o_,rfl,_,H,rfl⟩;simp only[go_sem,aKU,nY,aT w,aJI,aIW,aIK,cL,mY,List.getElem?_set_ne,List.getElem?_set_self,List.set_set,ne_eq,not_false_eq_true,hr,ab,aa,la,l1,l2,l4,l5,l7,n1,n2,n4,n5,n7,f.out,f.fx.x5,f.fx.x7,f.era,f.m,q1,q3,p1,p3];apply jA (B _ _ k N);rintro y T' ⟨rfl,rfl⟩;simp only[go_sem,ws];have H:=ae [some (.box (aK7 F[i]))] false k N;rw[q2]at H;exact⟨_,(by omega:F.length-(i+1)<n),i+1,o_,rfl,_,H,rfl⟩
end
def aBF(L:List LnM):D_:=(L.filter λx=>!x.er).map (·.id)
def aOZ(L:D_)(n:Int):D_:=L.drop (L.length-(min (max n 0) (L.length:Int)).toNat)
def aLS{L:List LnM}{i:Nat}(h:i<L.length):aBF (L.take (i+1))=if L[i].er then aBF (L.take i) else aBF (L.take i)++[L[i].id]:=by rw[aBF,lB h,Mf,bZ];cases e:L[i].er;rw[(az:[L[i]].filter (λx=>!x.er)=[L[i]])];simp[aBF];rw[(az:[L[i]].filter (λx=>!x.er)=[])];simp[aBF]
def aHe(L:List LnM):(aBF L).length<=L.length:=by rw[aBF,aP];exact List.length_filter_le _ _
def aIX(g:PGM)(l:D_):(aBA g l).length<=l.length:=by rw[aBA,aP];exact List.length_filter_le _ _
def aR9(s:List (Nat×AV))(i n:Nat)(r v:AV):Prop:=s=[(12,iv i),(11,iv n),(10,r),(5,v)]\/s=[(12,iv i),(5,v),(11,iv n),(10,r)]
section
variable{T:aK}{p:Nat×Nat×Nat}{g:PGM}
def aP0 (hA:AK G) (h:GAt T p g) (hg:GGood g) {l:D_} (Z:∀x∈l,x∈g.I) (hn:l.Nodup) (S:l.length<=1000):
 aA PQ G aHf [.ptr p.1 0,ids l] T λr P=>r=ids (aBF (aBA g (kW g l)))/\P=T:=by
 refine(aA.keepLs (q:=λk V=>k=3/\V=(aBF (aBA g (kW g l))).map Id.A) (fT aLP ?_)).mono ?_;rotate_left;rintro r P ⟨⟨k,V,⟨rfl,rfl⟩,rfl⟩,rfl⟩;exact⟨rfl,rfl⟩;have aa:(aBA g (kW g l)).length<=1000:=uR (aIX _ _) (uR aE4 S);simp only[go_sem];apply jA (aLJ hA h.app hg Z hn S);rintro y P ⟨X,rfl,hL⟩;generalize aBA g (kW g l)=L at *
 rcases hL with⟨rfl,rfl⟩|⟨a,b,d,rfl,U,H,z⟩
 simp only[go_sem];apply kL (λn w=>w=⟨T.length,[(12,iv 0),(11,iv 0),(10,.v (.slice none 0 0)),(5,.own T.length)],T++[some (.arr 3 [])]++X⟩) 0 rfl;rintro n w rfl;simp only[go_sem];exact⟨s_,T.length,3,[],rfl,cN _,s_,rfl,rfl⟩;rw[eB,List.singleton_append];have R:∀i(h:i<L.length),∃v,d[i]?=some (aMn L[i].id L[i].er v)/\(v=.v (.slice none 0 0)\/∃k,v=.own k):=λi h=>by obtain⟨v,W,v2⟩:=z i h;exact⟨v,W,v2.imp (·.1) λ⟨k,h,_⟩=>⟨_,h⟩⟩
 have f:(some (AObj.arr 3 [])::X)[a+1]?=some (some (jE b 5 d)):=U;rw[show(T++[some (AObj.arr 3 [])]).length+a=T.length+(a+1) by rw[dZ,GT];omega];have B:d.length=L.length:=H;have Q:(some (AObj.arr 3 [])::X)[0]?=some (some (.arr 3 [])):=rfl;generalize some (AObj.arr 3 [])::X=Y at *
 clear U z H X;cases b
 ·simp only[jE]at f;simp only[go_sem,nY,fF,f,B];refine kL (λn w=>∃i,i<=L.length/\n=L.length-i/\∃Y k s,Y[a+1]?=some (some (.arf 5 d))/\k≠a+1/\Y[k]?=some (some (.arr 3 ((aBF (L.take i)).map Id.A)))/\aR9 s i L.length (.own (T.length+(a+1))) (.own (T.length+k))/\w=⟨T.length,s,T++Y⟩) L.length ⟨0,pR _,rfl,Y,0,_,f,o_,Q,.inl rfl,rfl⟩ ?_;rintro n w ⟨i,hi,N,Y,k,s,f,e,o,C,rfl⟩;rcases eD i L.length with m|O;rotate_left
  ·obtain rfl:i=L.length:=o_;rw[dE]at o;rcases C with rfl|rfl<;>simp only[go_sem,aS (bP _)]
   all_goals exact⟨s_,T.length+k,3,_,rfl,o_,by rw[aZ];exact o,rfl,rfl⟩
  have D:=fQ i o_;obtain⟨v,j,t⟩:=R i m;have u:i<d.length:=o_;have E:=dB o;have F:=dB f;have c:=aLS m;have M:=uR (aHe (L.take i)) (List.length_take_le i L);cases J:L[i].er
  ·rw[J]at j c;rw[if_neg d_]at c;rcases C with rfl|rfl<;>rcases t with rfl|⟨K,rfl⟩<;>simp only[go_sem,nY,aT m,f,u,j,aJI,aIW,aIK,cL,mY,List.getElem?_set_ne,ne_eq,not_false_eq_true,E,F,o,Ne.symm e,e,aP,D,(g_:(aBF (L.take i)).length+1<=maxLen),(o_:((aBF (L.take i)).length+1)*24<=140737488355328)]
   all_goals exact⟨_,(by omega:L.length-(i+1)<n),i+1,o_,rfl,_,Y.length+2,_,aF (by rw[aY e];exact f),o_,by rw[c,bZ,aIW s_];rfl,.inr rfl,rfl⟩
  ·rw[J]at j c;rw[if_pos rfl]at c;rcases C with rfl|rfl<;>rcases t with rfl|⟨K,rfl⟩<;>simp only[go_sem,nY,aT m,f,u,j,aJI,aIW,aIK,cL,mY,List.getElem?_set_ne,ne_eq,not_false_eq_true,E,F,D]
   all_goals first
    |exact⟨_,(by omega:L.length-(i+1)<n),i+1,o_,rfl,_,k,_,aF f,e,by rw[c];exact aF o,.inl rfl,rfl⟩|exact⟨_,(by omega:L.length-(i+1)<n),i+1,o_,rfl,_,k,_,aF f,e,by rw[c];exact aF o,.inr rfl,rfl⟩
 ·simp only[jE]at f;simp only[go_sem,nY,fF,f,B];refine kL (λn w=>∃i,i<=L.length/\n=L.length-i/\∃Y k s,Y[a+1]?=some (some (.arr 5 d))/\k≠a+1/\Y[k]?=some (some (.arr 3 ((aBF (L.take i)).map Id.A)))/\aR9 s i L.length (.own (T.length+(a+1))) (.own (T.length+k))/\w=⟨T.length,s,T++Y⟩) L.length ⟨0,pR _,rfl,Y,0,_,f,o_,Q,.inl rfl,rfl⟩ ?_;rintro n w ⟨i,hi,N,Y,k,s,f,e,o,C,rfl⟩;rcases eD i L.length with m|O;rotate_left
  ·obtain rfl:i=L.length:=o_;rw[dE]at o;rcases C with rfl|rfl<;>simp only[go_sem,aS (bP _)]
   all_goals exact⟨s_,T.length+k,3,_,rfl,o_,by rw[aZ];exact o,rfl,rfl⟩
  have D:=fQ i o_;obtain⟨v,j,t⟩:=R i m;have u:i<d.length:=o_;have E:=dB o;have F:=dB f;have c:=aLS m;have M:=uR (aHe (L.take i)) (List.length_take_le i L);cases J:L[i].er
  ·rw[J]at j c;rw[if_neg d_]at c;rcases C with rfl|rfl<;>rcases t with rfl|⟨K,rfl⟩<;>simp only[go_sem,nY,aT m,f,u,j,aJI,aIW,aIK,cL,mY,List.getElem?_set_ne,ne_eq,not_false_eq_true,E,F,o,Ne.symm e,e,aP,D,(g_:(aBF (L.take i)).length+1<=maxLen),(o_:((aBF (L.take i)).length+1)*24<=140737488355328)]
   all_goals exact⟨_,(by omega:L.length-(i+1)<n),i+1,o_,rfl,_,Y.length+2,_,aF (by rw[aY e];exact f),o_,by rw[c,bZ,aIW s_];rfl,.inr rfl,rfl⟩
  ·rw[J]at j c;rw[if_pos rfl]at c;rcases C with rfl|rfl<;>rcases t with rfl|⟨K,rfl⟩<;>simp only[go_sem,nY,aT m,f,u,j,aJI,aIW,aIK,cL,mY,List.getElem?_set_ne,ne_eq,not_false_eq_true,E,F,D]
   all_goals first
    |exact⟨_,(by omega:L.length-(i+1)<n),i+1,o_,rfl,_,k,_,aF f,e,by rw[c];exact aF o,.inl rfl,rfl⟩|exact⟨_,(by omega:L.length-(i+1)<n),i+1,o_,rfl,_,k,_,aF f,e,by rw[c];exact aF o,.inr rfl,rfl⟩
end
section
variable{T:aK}{p:Nat×Nat×Nat}{g:PGM}
def aNt(i:AK G)(h:GAt T p g)(f:GGood g){l:D_}(c:∀x∈l,x∈g.I)(d:l.Nodup)(b:l.length<=1000)(n:Int):
 aA PQ G aF0 [.ptr p.1 0,ids l,iv n] T λr k=>r=ids (aOZ (aBF (aBA g (kW g l))) n)/\k=T:=by
 have e:(aBF (aBA g (kW g l))).length<=1000:=uR (aHe _) (uR (aIX _ _) (uR aE4 b));apply fT aLQ;simp only[go_sem];apply cI (aP0 i h f c d b);generalize aBF (aBA g (kW g l))=L at *
 obtain⟨q,m,a⟩:∃q:Nat,q<=L.length/\(if(L.length:Int)<(if(0:Int)>n then 0 else n) then(L.length:Int) else if(0:Int)>n then 0 else n)=q/\aOZ L n=L.drop (L.length-q):=by refine⟨(min (max n 0) (L.length:Int)).toNat,o_,?_,rfl⟩;split<;>split<;>omega
 obtain⟨a,j⟩:=a;have w1:IntKind.i64.wrap ((L.length:Int)-(q:Int))=((L.length-q:Nat):Int):=a_;simp only[go_sem,ids,aP,a,w1,(o_:L.length-q<=L.length)];rw[j,aC0]
end
def aJE(q:GK G){g:GM}(k:Reach bQ g):aA PQ G aEV [.ag g.A] [] λr T=>r=.ptr 0 0/\T=TG 0 (AM bQ g.L):=by
 have d:=k.good rY;have f:=d.ok;have v:=f.n;have b:=d.cards;have e:∀i,(AM bQ (g.L.take i)).ok:=λi=>XM rY _ λo c=>⟨f.ops _ (C8 c),d.ids _ (C8 c)⟩
 apply aC aLM;simp only[go_sem];apply kM (aKl g.Cards (by rw[b];exact rY));rw[b];simp only[go_sem,MG,uP,Mk,gQ];refine aQ g.L.length (λi=>⟨0,[(1,.ptr 0 0),(3,.ptr 1 0),(4,iv i)],some (.box g.A)::TG 1 (AM bQ (g.L.take i))⟩) (λ_=>True) ?_ trivial ?_ ?_;simp only[go_sem,TG,MG,uQ,AM,Kk,PGM.I,uP,Mk,gQ];intro i a _;have h:=fQ i o_;have s:(g.L.map OpM.A)[i]?=some g.L[i].A:=aO _ g.L i a;have c:=f.ops _ (eQ a);have j:=d.all i a;have t:AM bQ (g.L.take (i+1))=(sR (AM bQ (g.L.take i)) g.L[i]).1:=by rw[lB a,MS]
 have l:=e i;simp only[go_sem,TG,MG,aP,aT a,s];generalize AM bQ (g.L.take (i+1))=u at *
 generalize AM bQ (g.L.take i)=p at *
 generalize g.L[i]=o at *
 subst t;apply aG (T2:=TG 0 p) [1,2,3] (aB _) d_ s_ rfl y_ (aIe q p o l c);rintro r x ⟨rfl,m⟩;rw[j];rcases m with⟨rfl,w⟩|rfl;simp only[go_sem,TG,MG,h];simp only[go_sem,TG,TH,MG,h];intro _;simp only[go_sem,TG,MG,aP,aS (bP _),dE]
def aMB(n:Nat)(p:PGM):(TG 0 p).map (DC [] n)=TG n p:=y_
def aOk{o:Option AObj}{p:PGM}:GAt (o::TG 1 p) (1,2,3) p:=⟨rfl,rfl,rfl,d_,d_,d_⟩
def aM5(M:GK G)(B:AK G):aA PQ G aFc [] [] λr T=>r=.v (.bool true)/\T=[]:=by
 have i:=mR8.ggood rY JP;have O:GAt (TG 0 (AM bQ mG8.L)) (0,1,2) (AM bQ mG8.L):=⟨rfl,rfl,rfl,d_,d_,d_⟩
 have hI:(AM bQ mG8.L).I=mG8.I:=by rw[aPY];rfl
 have t:∀x∈mG8.I,x∈(AM bQ mG8.L).I:=λx F=>by rw[hI];exact F
 have u:mG8.I.Nodup:=d5;have N:aBA (AM bQ mG8.L) (kW (AM bQ mG8.L) mG8.I)=[⟨mI5,true,[[97]]⟩]:=by rw[aPY,aR1,aR2]
 apply aC aLN;simp only[go_sem];apply cX aOi;simp only[go_sem];apply kM (aJE M mR8);have s:mG8.I.length=8:=rfl;simp only[go_sem,aMB,aP,s];have h0:(some (AObj.box mG8.A)::TG 1 (AM bQ mG8.L))[0]?=some (some (.box mG8.A)):=rfl;have z:=aLJ B (aOk (o:=some (AObj.box mG8.A))) i t u d_;have w:=λ(X:aK) n=>aNt B ((aOk (o:=some (AObj.box mG8.A))).app (X:=X)) i t u d_ n;rw[N]at z w;generalize some (AObj.box mG8.A)::TG 1 (AM bQ mG8.L)=T at *
 apply jA z;rintro y D ⟨X,rfl,J⟩;rcases J with⟨h,_⟩|⟨a,b,c,rfl,p,m,e⟩
 simp at h;obtain⟨v,E,v2⟩:=e 0 d_;rcases v2 with⟨_,h⟩|⟨k,rfl,K⟩
 simp at h;have q:aA PQ G aF0 [.ptr 1 0,ids mG8.I,iv 3] (T++X) λr D=>r=ids []/\D=T++X:=w X 3;have j:=aF (X:=X) h0;have l:((ByteArray.mk ([97]:List UInt8).toArray).toList==(bs [97]).toList)=true:=by rw[show bs [97]=ByteArray.mk ([97]:List UInt8).toArray from rfl];exact beq_self_eq_true _
 have f:c.length=1:=m;have H:0<c.length:=o_;have C:(mG8.I.map Id.A)[4]?=some mI5.A:=rfl;have d:c[0]?=some (aMn mI5 true (.own (T.length+k))):=E;have g:X[k]?=some (some (.arr 1 [stE [97]])):=K;cases b
 all_goals (
  simp only[jE]at p
  simp only[go_sem,nY,j,p,f,d,g,s,aP,C,l,Id.A_def]
  repeat (refine aL (λ_=>?_) (λh=>absurd (l.symm.trans h) d_);simp only[go_sem,nY,j,p,f,d,g,s,aP,C,Id.A_def])
  apply cI q
  simp only[go_sem,aE3,uP]
  repeat (refine aL (λ_=>?_) (λh=>absurd (l.symm.trans h) d_);simp only[go_sem,aE3,uP])
  try exact congrArg (λb=>AV.v (.bool b)) l)
def aMC{A:D_}{n:Int}(h:(A.length:Int)<=n):aOZ A n=A:=by rw[aOZ,(o_:A.length-(min (max n 0) (A.length:Int)).toNat=0),TZ]
def aPw {g:PGM} {l:D_} {x:Id} (b:∀x∈l,x∈g.I) (a:x∈l):(Gk g l (zH l) x==0)=decide (x∈kW g l):=by by_cases h:x∈kW g l;rw[Xy b h,decide_eq_true h];rfl;rw[decide_eq_false h,beq_eq_false_iff_ne];have c:x∉mW g (sU g (eO g l) (zH l)) (eO g l):=h;unfold Gk;rw[if_neg (by simp[b x a,a])];split;decide;split;decide;split;decide;assumption
def aK8(g:PGM)(C:D_):(aBA g C).map (·.id)=C.filter λx=>decide ((g.nd x).o.Kind=6):=by rw[aBA,rI];exact List.map_id _
def aQj(T:aK)(r:AV)(L:List LnM):Prop:=(L=[]/\r=.v (.slice none 0 0))\/∃a b c,r=.own a/\T[a]?=some (some (jE b 5 c))/\c.length=L.length/\∀i(h:i<L.length),∃v,c[i]?=some (aMn L[i].id L[i].er v)/\((v=.v (.slice none 0 0)/\L[i].re=[])\/∃k,v=.own k/\T[k]?=some (some (.arr 1 (L[i].re.map stE))))
def aQj.app{T Y:aK}{r:AV}{L:List LnM}(h:aQj T r L):aQj (T++Y) r L:=by
 rcases h with h|⟨a,b,c,h1,h2,h3,j⟩
 exact .inl h;refine .inr ⟨_,b,c,h1,aF h2,h3,λi g=>?_⟩;obtain⟨v,d,v2⟩:=j i g;exact⟨v,d,v2.imp id λ⟨k,f,e⟩=>⟨_,f,aF e⟩⟩
section
variable{T:aK}
end
end Hud
