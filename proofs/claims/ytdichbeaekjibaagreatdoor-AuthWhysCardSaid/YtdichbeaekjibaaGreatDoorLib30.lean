import Derived.Test.YtdichbeaekjibaaGreatDoorLib29
import Derived.WalkKit
import Derived.WalkSpells
import Derived.Deep.RegionLaw
import Derived.Lib.SlicesDelete
import Derived.Lib.SliceRun
import Derived.Shelf.RegionOpenPlain
set_option linter.all false
set_option maxHeartbeats 40000000
namespace Hud
open Go
variable{G:L_}
def aM1(g:GM)(l:LD):D_:=(aCW g l).map λk=>g.I.getD k default
def aQ1(g:GM)(l:LD)(ss:D_)(x:Id):Int :=
 if x∈ss then if l.f.getD (aW g.I x).toNat false=true then 13 else if(aW g.I x).toNat∈aCW g l then 0 else if(aCW g l).any (λy=>aE4 g y (aW g.I x).toNat)=true then 15 else if mT (aE2 g (aCW g l) (aW g.I x).toNat) (g.L.getD (aW g.I x).toNat default)=0 then 15 else mT (aE2 g (aCW g l) (aW g.I x).toNat) (g.L.getD (aW g.I x).toNat default) else 4
def aQ2{g:GM}{ss:D_}{l:LD}(h:aA PQ G aBF [.ag g.A,ids ss] [] λr T=>r=.ag [.own 0,.own 1,.own 2,.own 3]/\T=LT4 l):aA PQ G aBF [.ag g.A,ids ss] [] λr T=>r=.ag l.A/\T=[]:=by refine h.fin [0,1,2,3] ?_;rintro r a ⟨rfl,rfl⟩;simp only[go_sem,LT4,LD.A,gQ]
def aPb(g:GM)(h:g.ok)(ss:D_)(l:LD)(c:l.ok g)(q:l.row.length<=900)(b:∀i j,(aE2 g ((l.row.take i).foldl (aE3 g l.v) []) j).need)(w:aA PQ G aBF [.ag g.A,ids ss] [] λr T=>r=.ag l.A/\T=[]):
 aA PQ G aEV [.ag g.A,ids ss] [] λr T=>r=ids (aM1 g l)/\T=[]:=by
 have C:=h.n;have e:=h.i;have u:=aOL (G:=G) g h l c q b;have s:(aCW g l).length<=1000:=by have:=aIK (g:=g) (v:=l.v) l.row [];have:=c.n;unfold aCW;simp only[gQ]at *;omega
 have f:∀k∈aCW g l,k<g.L.length:=λk d=>c.row k ((aLs _ _ d).resolve_left s_);unfold aM1;generalize aCW g l=o at *
 refine aA.fin (p:=λr T=>r=.own 0/\T=[some (.arr 3 ((o.map λk=>g.I.getD k default).map Id.A))]) (aC aMn ?_) [0] ?_;rotate_left;rintro r D ⟨rfl,rfl⟩;simp only[go_sem,ids,gQ,rI];simp only[go_sem];apply cX w;simp only[go_sem];apply cX u;simp only[go_sem];refine aQ o.length (λi=>⟨0,[(2,.ptr 0 0),(5,.own 1),(6,pls o),(7,iv i)],[some (.box g.A),some (.arr 3 (((o.take i).map λk=>g.I.getD k default).map Id.A))]⟩) (λ_=>True) ?_ trivial ?_ ?_;simp only[go_sem,uQ,uP];intro i a _;have m:=fQ i o_;have d:=f _ (eQ a);have z:(o.map λ(k:Nat)=>[iv (k:Int)])[i]?=some [iv (o[i]:Int)]:=aO _ o i a;have y:(g.I.map Id.A)[o[i]]?=some (g.I.getD o[i] default).A:=w_;have B:((o.take (i+1)).map λk=>g.I.getD k default)=((o.take i).map λk=>g.I.getD k default)++[g.I.getD o[i] default]:=by rw[lB a,bZ];rfl
 rw[B];have t:((o.take i).map λk=>g.I.getD k default).length<=1000:=by rw[aP,eC];omega
 generalize((o.take i).map λk=>g.I.getD k default)=R at *
 generalize g.I.getD o[i] default=x at *
 simp only[go_sem,aP,aT a,a,z,d,e,y,m,bZ,fG,uP,(o_:(R.length+1)*24<=140737488355328),(g_:R.length+1<=maxLen)];intro _;rw[dE];simp only[go_sem,aP,aS (bP _)]
def aQp(g:GM)(c:g.ok)(ss:D_)(X:ss.length<=1000)(C:∀x∈ss,x∈g.I)(l:LD)(D:l.ok g)(u:l.f.length=g.L.length)(R:l.row.length<=900)(q:∀i J,(aE2 g ((l.row.take i).foldl (aE3 g l.v) []) J).need)(B:aA PQ G aBF [.ag g.A,ids ss] [] λr T=>r=.ag l.A/\T=[])(x:Id):
 aA PQ G aKI [.ag g.A,ids ss,.ag x.A] [] λr T=>r=iv (aQ1 g l ss x)/\T=[]:=by
 have Y:=c.n;have m:=c.i;have z:=aOL (G:=G) g c l D R q;simp only[LD.A]at z B;have hI:=uJ (G:=G) ss x g_;have d:=Dt (G:=G) g x c;unfold aQ1;by_cases t:x∈ss;rotate_left;rw[decide_eq_false t]at hI;rw[if_neg t];apply aC aIE;simp only[go_sem];apply cX hI;simp only[go_sem];rw[decide_eq_true t]at hI;rw[if_pos t];have S:=(Cz g.I x).2 (C x t);have a:(aW g.I x).toNat<g.L.length:=by rw[<-m];exact(sV.1 (aIW S)).1
 rw[(o_:aW g.I x=(((aW g.I x).toNat:Nat):Int))]at d;generalize(aW g.I x).toNat=k at *
 have s:=aOr u a;have w:=aI8 (G:=G) (aCW g l) k (by have:=aIK (g:=g) (v:=l.v) l.row [];have:=D.n;unfold aCW;simp only[gQ]at *;omega);have E:(aCW g l).length<=900:=by have:=aIK (g:=g) (v:=l.v) l.row [];unfold aCW;simp only[gQ]at *;omega
 have p:∀k∈aCW g l,k<g.L.length:=λk a=>D.row k ((aLs _ _ a).resolve_left s_);have F:=aQn (G:=G) g c _ p E k a;have K:=aPi (G:=G) (aE2 g (aCW g l) k) (g.L.getD k default) (g.I.getD k default) ((aM0 c _ k (RB.new c) p).ok o_) (c.ops (g.L.getD k default) (by rw[rH,jN a];exact eQ _)) (by have:=q l.row.length k;rwa[dE]at this);have M:(g.L.map OpM.A)[k]?=some (g.L.getD k default).A:=by rw[gE,rH,jN a];rfl
 have N:(g.I.map Id.A)[k]?=some (g.I.getD k default).A:=w_;have U:=λy Q=>aM9 (G:=G) g c y k (p y Q) a;generalize aCW g l=o at *
 generalize mT (aE2 g o k) (g.L.getD k default)=e at *
 generalize aE2 g o k=r at *
 cases c1:l.f.getD k false;rotate_left;rw[c1]at s;rw[if_pos rfl];apply aC aIE;simp only[go_sem];apply cX hI;simp only[go_sem];apply cX B;simp only[go_sem];apply cX z;simp only[go_sem];apply cX d;simp only[go_sem,LD.A,aP,u,a,s];rw[c1]at s;rw[if_neg d_];by_cases c2:k∈o;rw[decide_eq_true c2]at w;rw[if_pos c2];apply aC aIE;simp only[go_sem];apply cX hI;simp only[go_sem];apply cX B;simp only[go_sem];apply cX z;simp only[go_sem];apply cX d;simp only[go_sem,LD.A,aP,u,a,s];apply cX w;simp only[go_sem];rw[decide_eq_false c2]at w;rw[if_neg c2];apply aC aIE;simp only[go_sem];apply cX hI;simp only[go_sem];apply cX B;simp only[go_sem];apply cX z;simp only[go_sem];apply cX d;simp only[go_sem,LD.A,aP,u,a,s];apply cX w;simp only[go_sem];refine aQ o.length (λi=>⟨0,[(3,.ptr 0 0),(8,pls o),(9,iv k),(10,iv i)],[some (.box g.A)]⟩) (λi=>(o.take i).any (λy=>aE4 g y k)=false) ?_ s_ ?_ ?_;simp only[go_sem];intro i j b;have P:=fQ i o_;have O:(o.map λ(k:Nat)=>[iv (k:Int)])[i]?=some [iv (o[i]:Int)]:=aO _ o i j;have h:=U _ (eQ j);have V:(o.take (i+1)).any (λy=>aE4 g y k)=aE4 g o[i] k:=by rw[lB j,List.any_append,b];simp
 rw[V];cases c3:aE4 g o[i] k;rw[c3]at h;simp only[go_sem,aP,aT j,j,O];apply cX h;simp only[go_sem,P];rw[c3]at h;rw[if_pos (CX.2 ⟨_,eQ j,c3⟩)];simp only[go_sem,aP,aT j,j,O];apply cX h;simp only[go_sem];intro b;rw[dE]at b;rw[if_neg (by simp[b])];simp only[go_sem,aP,aS (bP _),a,m,M,N];apply cX F;simp only[go_sem,RM.A_def,rG,aP,a,m,M,N]at K⊢;apply cX K;by_cases H:e=0;subst H;simp only[go_sem];rw[if_neg H];have W:(e==0)=false:=by simp[H]
 simp only[go_sem,W]
section
variable{T:aK}
def aEF(f:Nat)(cs:O_)(m:Id->Bool)(l:D_)(n:l.length<2^63-1)(h:∀x∈l,aA PQ G f (.ag x.A::cs) T λr d=>r=.v (.bool (m x))/\d=T):
 aA PQ G bB [ids l,.cl f cs] T λr d=>r=iv (qX m l)/\d=T:=by
 apply eH cJ;simp only[go_sem,aP,ids];refine O7 l.length (λi=>⟨T.length,[(8,iv i),(7,iv l.length),(0,ids l),(1,.cl f cs)],T⟩) (λi=>∀j(a:j<l.length),j<i->m l[j]=false) ?_ U_ ?_ ?_;rfl;intro i b c;have k:(l.map Id.A)[i]?=some l[i].A:=aO _ l i b;have e:=h _ (eQ b);rw[Id.A_def]at e;simp only[go_sem,aT b,k,ids,Id.A_def];apply cI e
 cases g:m l[i]with
 |false=>
  simp only[go_sem,fQ i o_];grind
 |true=>
  simp only[go_sem];rw[mC b c g];simp
 intro c;simp only[go_sem,aS (bP _)];rw[lD λj a=>c j a a];simp
def Vc(f:Nat)(cs:O_)(m:Id->Bool)(l:D_)(b:l.length<2^63-1)(h:∀x∈l,aA PQ G f (.ag x.A::cs) T λr a=>r=.v (.bool (m x))/\a=T):
 aA PQ G bD [ids l,.cl f cs] T λr a=>r=.v (.bool (l.any m))/\a=T:=by
 apply eH gK;simp only[go_sem];apply cI (aEF f cs m l b h);simp only[go_sem,ge_iff_le,mN];simp
end
def B7(g:PGM)(row:D_)(x y:Id):Bool:=!decide (x=y)&&row.any λz=>(decide (z=x)||oH g z x)&&lA g y z
section
variable{T:aK}{p:Nat×Nat×Nat}{g:PGM}{l v f:Nat}{row V F:D_}
def aEG(h:GAt T p g)(b:g.ok)(j:LAt T l v f p row V F){bx bl by':Nat}{x y:Id}(h1:T[bx]?=some (some (.box x.A)))(h2:T[bl]?=some (some (.box [.ptr l 0])))(h3:T[by']?=some (some (.box y.A)))(z:Id):
 aA PQ G nD [.ag z.A,.ptr bx 0,.ptr bl 0,.ptr by' 0] T λr k=>r=.v (.bool ((decide (z=x)||oH g z x)&&lA g y z))/\k=T:=by
 apply eH D1;have e:=λX:aK=>aF (X:=X) h1;have d:=λX:aK=>aF (X:=X) h2;have c:=λX:aK=>aF (X:=X) h3;have i:=λX:aK=>aF (X:=X) j.box;have a:=Id.beq z x;rw[Id.A_def]at e c;cases c1:decide (z=x);simp only[go_sem,i,e,d,aD,a,c1,Id.A_def];apply cI (JO h.app b z x);cases c2:oH g z x;simp only[go_sem,aH,undef,Bool.or_self,lR];simp only[go_sem,i,d,c,aD];apply cI (GQ h.app b y z);simp only[go_sem,aH,Ed,mF];simp only[go_sem,i,e,d,c,aD,a,c1,Id.A_def,undef];apply cI (GQ h.app b y z);simp only[go_sem,aH,EI]
def Zd(h:GAt T p g)(d:g.ok)(b:LAt T l v f p row V F)(j:row.length<=1000)(x y:Id):
 aA PQ G qF [.ptr l 0,.ag x.A,.ag y.A] T λr i=>r=.v (.bool (B7 g row x y))/\i=T:=by
 apply eH Fc;have e:=λX:aK=>aF (X:=X) b.box;have a:=Id.beq x y;unfold B7;cases c1:decide (x=y);simp only[go_sem,e,aD,aR,dH,a,c1,Id.A_def,eB,jC,dM]
 have c:=Vc (G:=G) nD [.ptr (T.length+1) 0,.ptr T.length 0,.ptr (T.length+2) 0] (λz=>(decide (z=x)||oH g z x)&&lA g y z) row o_ λz _=>
  aEG (T:=T++[some (.box [.ptr l 0]),some (.box x.A),some (.box y.A)]) h.app d b.app (bx:=T.length+1) (bl:=T.length) (by':=T.length+2) aR aD dH z
 simp only[Id.A_def]at c;apply cI c;simp only[go_sem,aH];simp only[go_sem,aR,dH,a,c1,Id.A_def,eB,jC,dM,undef,aH]
end
def AO(S:List (Int×Int))(bs:V_)(a:Nat):AObj:=.map false (S.map λe=>iK e.1) (S.map λe=>iv e.2) bs a
def aBo(S:List (Int×Int))(d:Int):Int:=match S.findIdx? (λe=>d==e.1) with|some j=>(S.getD j (0,0)).2|none=>0
def KY(S:List (Int×Int))(d:Int):eR [.int .i64] (iK d) (S.map λe=>iK e.1) 0=some (S.findIdx? λe=>d==e.1):=by have:=iW d (S.map (·.1)) 0;simp_all[rI,List.findIdx?_map,Function.comp_def]
def RW(S:List (Int×Int))(d:Int):(eR [.int .i64] (iK d) (S.map λe=>iK e.1) 0=some none/\aBo S d=0)\/(∃j,eR [.int .i64] (iK d) (S.map λe=>iK e.1) 0=some (some j)/\(S.map λe=>iv e.2)[j]?=some (iv (aBo S d))):=by
 rw[KY]
 cases e:S.findIdx? (λe=>d==e.1) with
 |none=>exact .inl ⟨rfl,by rw[aBo,e]⟩|some j=>
  obtain⟨a,_⟩:=Ad.1 e;grind[aBo]
def AP(g:PGM)(row:D_)(S:List (Int×Int))(ss:D_):D_->Nat->Int->Int|[],_,b=>b|x::r,i,b=>if ss.any (λy=>B7 g row x y)=true then AP g row S ss r (i+1) (if b<0\/aBo S x.a<aBo S (ss.getD b.toNat default).a then i else b) else i
def yY(g:PGM)(row:D_)(S:List (Int×Int))(ss:D_):Int:=AP g row S ss ss 0 (-1)
section
variable{T:aK}{p:Nat×Nat×Nat}{g:PGM}{l v f:Nat}{row V F:D_}
def aGl (h:GAt T p g) (hg:g.ok) (hl:LAt T l v f p row V F) (hr:row.length<=1000) {k n:Nat} {L:D_} {sl:AV} (hk:T[k]?=some (some (.arr 3 (L.map Id.A)))) (hn:n<=L.length) (ae:n<=1000) (b:sl=.vw k 3 0 n\/(sl=.own k/\n=L.length))
    {q:Nat} {S:List (Int×Int)} {bs:V_} {cl:Nat} (s:T[q]?=some (some (AO S bs cl))):
    aA PQ G uY [.ptr l 0,sl,.mp q] T λr T'=>r=iv (yY g row S (L.take n))/\T'=T:=by
  apply eH Fb;have a0:=λX:aK=>aF (X:=X) hl.box;have ak:=λX:aK=>aF (X:=X) hk;have aq:=λX:aK=>aF (X:=X) s;unfold AO at aq;have N:∀i(hi:i<n),(L.take n)[i]'ox=L[i]:=λi hi=>List.getElem_take;have w:(L.take n).length=n:=u_;have K:(sl=.vw k 3 0 n/\0+n=n)\/(sl=.own k/\L.length=n):=b.imp (λh=>⟨h,pQ n⟩) (λh=>⟨h.1,h.2.symm⟩);clear b;rcases K with⟨b,z⟩|⟨b,z⟩
  all_goals (
    simp only[go_sem,b,hk,z,aP]
    refine kL (λm E=>∃i,i<=n/\m=n-i/\∃(d:Int)(X:aK),(d<0\/d.toNat<n)/\AP g row S (L.take n) ((L.take n).drop i) i d=yY g row S (L.take n) /\
      ∃O,(O=[(14,iv i),(13,iv n),(12,sl),(7,iv d),(0,.ptr l 0),(1,sl),(2,.mp q)]\/O=[(14,iv i),(7,iv d),(13,iv n),(12,sl),(0,.ptr l 0),(1,sl),(2,.mp q)])/\E=⟨T.length,O,T++X⟩) n ⟨0,pR _,rfl,-1,[],.inl d_,rfl,_,.inl rfl,by rw[jO,b];rfl⟩ ?_
    rintro m E ⟨i,hi,hm,d,X,hb,c,O,u,rfl⟩
    rcases eD i n with t|ah
    rotate_left
    · obtain rfl:i=n:=by omega
      rw[LB (by rw[w];exact cN _)]at c
      rcases u with u|u
      all_goals simp only[go_sem,u,aS (bP _),aH]
      all_goals rw[<-c];rfl
    have P:=fQ i o_
    have Z:i<L.length:=o_
    have g0:(L.map Id.A)[i]?=some L[i].A:=aO _ L i Z
    have hd:(L.take n).drop i=L[i]::(L.take n).drop (i+1):=by rw[Kc (by rw[w];exact t),N i t]
    rw[hd]at c
    have J:=λ(X:aK) y=>Zd (G:=G) (h.app (X:=X)) hg hl.app hr L[i] y
    simp only[Id.A_def]at J
    rcases u with u|u
    all_goals (
      simp only[go_sem,u,b,aT t,t,z,g0,aZ,cP,fF,iR,sW,ak,Id.A_def,eB,jC,dM,Nat.reduceAdd,aP]
      refine kL (λm2 E=>∃j,j<=n/\m2=n-j/\∃Y:aK,(∀C(W:C<n),C<j->B7 g row L[i] L[C]=false) /\
        E=⟨T.length,(21,iv j)::(20,iv n)::(19,sl)::(8,iv i)::(9,.ptr (T.length+X.length) 0)::O,T++(X++some (.box L[i].A)::Y)⟩) n ⟨0,pR _,rfl,[],λC _ W=>absurd W o_,by rw[u,b];rfl⟩ ?_
      rintro m2 E ⟨j,W,af,Y,hJ,rfl⟩
      rcases eD j n with o|ad
      rotate_left
      · obtain rfl:j=n:=by omega
        have R:(L.take j).any (λy=>B7 g row L[i] y)=false:=by rw[List.any_eq_false];intro y hy;obtain⟨C,M,rfl⟩:=List.mem_iff_getElem.1 hy;grind
        simp only[go_sem,u,aS (bP _),aH]
        rw[<-c,AP,R,if_neg d_]
      have Q:=fQ j o_
      have U:j<L.length:=o_
      have gj:(L.map Id.A)[j]?=some L[j].A:=aO _ L j U
      simp only[go_sem,u,b,aT o,o,z,gj,aZ,cP,fF,iR,oX,sW,yG,ak,Id.A_def,eB,jC,dM,Nat.reduceAdd,aP]
      apply cI (J _ L[j])
      cases I:B7 g row L[i] L[j]
      · simp only[go_sem,Q]
        refine⟨n-(j+1),o_,j+1,o_,rfl,_,λC M ac=>?_,by rw[u,b];rfl⟩
        rcases eD C j with h1|h1
        · exact hJ C M h1
        · obtain rfl:C=j:=by omega
          exact I
      · have H:(L.take n).any (λy=>B7 g row L[i] y)=true:=CX.2 ⟨L[j],List.mem_iff_getElem.2 ⟨j,by rw[w];exact o,N j o⟩,I⟩
        rw[AP,H,if_pos rfl]at c
        simp only[go_sem]
        refine aL (λe=>?_) (λe=>?_)
        rotate_left
        · have e:d<0:=by simpa using e
          rw[if_pos (.inl e)]at c
          simp only[go_sem,decide_eq_true e,undef,P]
          exact⟨n-(i+1),o_,i+1,o_,rfl,_,_,.inr (by rw[nI];exact t),c,_,.inr rfl,by rw[b]⟩
        · have e:¬d<0:=by simpa using e
          obtain⟨B,rfl⟩:∃B:Nat,d=(B:Int):=⟨d.toNat,o_⟩
          have x:B<n:=o_
          have aa:B<L.length:=o_
          have gb:(L.map Id.A)[B]?=some L[B].A:=aO _ L B aa
          have ab:(L.take n).getD (B:Int).toNat default=L[B]:=u_
          rw[ab]at c
          rcases RW S L[i].a with⟨f1,D⟩|⟨j1,f1,D⟩<;>rcases RW S L[B].a with⟨f2,v2⟩|⟨j2,f2,v2⟩
          all_goals simp only[go_sem,decide_eq_false e,z,aZ,fF,sW,ak,aq,Id.A_def,aP,P,gb,x,f1,f2,D,v2]
          all_goals first
            | (refine aL (λs=>?_) (λs=>?_)
               · have s:=of_decide_eq_true s
                 rw[if_pos (.inr (by first|exact s|(rw[D];exact s)|(rw[v2];exact s)))]at c
                 simp only[go_sem,P]
                 exact⟨n-(i+1),o_,i+1,o_,rfl,_,_,.inr (by rw[nI];exact t),c,_,.inr rfl,by rw[b]⟩
               · have s:=of_decide_eq_false s
                 rw[if_neg (not_or.2 ⟨e,by first|exact s|(rw[D];exact s)|(rw[v2];exact s)⟩)]at c
                 simp only[go_sem,P]
                 first|exact⟨n-(i+1),o_,i+1,o_,rfl,_,_,.inr (by rw[nI];exact x),c,_,.inl rfl,by rw[b]⟩|exact⟨n-(i+1),o_,i+1,o_,rfl,_,_,.inr (by rw[nI];exact x),c,_,.inr rfl,by rw[b]⟩)
            | (rw[if_neg (not_or.2 ⟨e,by rw[D,v2];decide⟩)]at c
               first|exact⟨n-(i+1),o_,i+1,o_,rfl,_,_,.inr (by rw[nI];exact x),c,_,.inl rfl,by rw[b]⟩|exact⟨n-(i+1),o_,i+1,o_,rfl,_,_,.inr (by rw[nI];exact x),c,_,.inr rfl,by rw[b]⟩)))
end
end Hud
namespace Hud
open Go Go.Proofs Go.Sort Go.Shelf Go.RowKit Go.Lib
abbrev zId:List Value:=[.int .i64 0,.int .i64 0,.int .u64 0]
def Ze:(Tryz.prog.info? 25).map (λi=>(i.zero,i.size,i.bytes))=some (some (.agg #[.int .i64 0,.int .i64 0,.int .u64 0]),3,24):=a_
def aEH:Tryz.prog.underlying 28=some (.slice 25):=a_
def aIL(w:World)(ty:TypeId)(b o c:Nat)(k:∀j,j<3->(w.cell? ⟨b,o+j,none⟩).isSome=true)(i:∀j,j<3->w.frozen? ⟨b,o+j,none⟩=false):
 (Builtin.clear_ #[28] ty #[.slice (some ⟨b,o,none⟩) 1 c]).run Tryz.prog w=.ok (.tuple #[]) (w.setCells b o zId):=by
 obtain⟨i0,h,g,f,e⟩:=info_parts Ze;have nG:=run_storeCells_cells (P:=Tryz.prog) b o zId 0 w (by simpa using k) (by simpa using i) (by intro v a;simp only[zId,cS,pP,or_false]at a;rcases a with rfl|rfl|rfl<;>rfl);simp only[mG]at nG;have d:(Builtin.zeroCells #[Value.int .i64 0,.int .i64 0,.int .u64 0] 1).toList=zId:=by simp[Builtin.zeroCells,zId];rfl
 simp_all[Builtin.clear_,Value.cells]
set_option maxRecDepth 1000000 in
def aEI (F:Array Value) (kI b n i:Nat) (w:World) (Y:F.size=n*3) (l:∀v∈F.toList,v.oneCell'=true) (p:Holds id w kI 0 F) (C:n<=b) (W:b<=2^63-1) (X:i<n):
 Calls Tryz.prog 127 #[.slice (some ⟨kI,0,none⟩) n b,.int .i64 i,.int .i64 (i+1:Nat)] w λe E=>e=.returned (.slice (some ⟨kI,0,none⟩) (n-1) b)/\E=(w.drew.setCells kI (i*3) (F.toList.drop ((i+1)*3))).setCells kI ((n-1)*3) zId:=by
 obtain⟨i0,y,K,x,J⟩:=info_parts Ze;obtain⟨a,c⟩:∃a,a=F.toList.drop ((i+1)*3):=⟨_,rfl⟩
 have m:a.length=(n-(i+1))*3:=b_;obtain⟨A,Z,k⟩:∃A:Addr,(if b=i+1 then some (⟨kI,0,none⟩:Addr) else some ⟨kI,(i+1)*3,none⟩)=some A/\Hid (∀t u,a[t]?=some u->w.drew.cell? (A.add t)=some u):=by
  by_cases h:b=i+1;refine⟨⟨kI,0,none⟩,by simp[h],λt u d=>?_⟩;simp_all;refine⟨⟨kI,(i+1)*3,none⟩,by simp[h],λt u d=>?_⟩;have B:t<a.length:=(sV.1 d).1;rw[c,Hw,Array.getElem?_toList]at d;have g:(i+1)*3+t<F.size:=o_;rw[Addr.add_lit];have z:=(p ((i+1)*3+t) g).1;simp_all
 have I:Hid (a.length=(n-(i+1))*3):=m;have H:Hid (∀u∈a,u.oneCell'=true):=λu d=>l u (by rw[c]at d;exact QG d);have G:Hid (∀t,t<a.length->(w.drew.cell? ⟨kI,0+i*3+t,none⟩).isSome=true/\w.drew.frozen? ⟨kI,0+i*3+t,none⟩=false):=by
  intro t B;have g:i*3+t<F.size:=o_;have z:=p (i*3+t) g;simp_all
 obtain⟨f,o⟩:∃f,f=w.drew.setCells kI (i*3) a:=⟨_,rfl⟩
 have T:∀r,(Builtin.clear_ #[28] r #[.slice (some ⟨kI,(i+(n-(i+1)))*3,none⟩) (n-(i+(n-(i+1)))) (b-(i+(n-(i+1))))]).run Tryz.prog f=.ok (.tuple #[]) (f.setCells kI ((n-1)*3) zId):=λr=>by
  rw[(o_:i+(n-(i+1))=n-1),(o_:n-(n-1)=1)];have g:∀j,j<3->(n-1)*3+j<F.size:=λj q=>o_;have z:=λj q=>p ((n-1)*3+j) (g j q);simp only[pQ]at z;refine aIL f r kI _ _ (λj q=>?_) λj q=>?_;rw[o];have V:∀t,t<a.length->(w.drew.cell? ⟨kI,i*3+t,none⟩).isSome=true:=λt B=>by have h8:=(p (i*3+t) o_).1;simp_all
  by_cases R:(n-1)*3+j<i*3+a.length;omega;rw[World.cell?_setCells_out kI a (i*3) w.drew _ (λ_ _=>.inr (by show i*3+a.length<=(n-1)*3+j;omega))];simp_all;simp_all[World.frozen?_setCells]
 have D:Hid (f=w.drew.setCells kI (0+i*3) a):=u_;have U:Hid (a=F.toList.drop ((i+1)*3)):=c;have S:i<=b:=o_;have Q:i+1<=b:=o_;have P:i+1<=n:=o_;have O:¬i=i+1:=o_;have N:(0:Int)<=(i:Int)+1:=o_;have M:(i:Int)+1<=(n:Int):=o_;have L:((i:Int)+1).toNat=i+1:=o_;have s:Tryz.prog.follows Departure.mixedOrders=true:=a_;clear p o c;go_enter Tryz.func127,Tryz.ntmps127;go_wp2_with fail;go_region_law_o (refine step_append_room rfl (.tmp 22) (.tmp 25) 28 rfl 25 i0 3 aEH y x kI 0 i b (by simp[Act.eval,Act.put]) A (n-(i+1)) (b-(i+1)) a (by simp[Act.eval,Act.put]) I.out k.out H.out o_ G.out ?_;rw[<-D.out]);go_wp2;go_ret;have h1:=D.out;rw[pQ,U.out]at h1;simp_all;omega
section
variable{h:GH}{φ:Nat->Value}{w:World}{T:aK}
def TC:∀(M:D_),∀v∈M.flatMap Id.K,v.oneCell'=true:=by intro M v b;obtain⟨x,_,a⟩:=H7.1 b;simp only[Id.K,cS,pP,or_false]at a;rcases a with rfl|rfl|rfl<;>rfl
def aGm(M:D_):(M.flatMap Id.K).length=M.length*3:=MF (enc:=Id.K) (k:=3) (λ_=>rfl) M
def Vd(M:D_):(M.map Id.A).flatten=(M.flatMap Id.K).map .v:=HZ Id.K M
def aEJ(L:D_):∀d∈L.map Id.A,d.length=3/\∀c∈d,aX c=true:=by intro d b;obtain⟨x,_,rfl⟩:=dF.1 b;refine⟨rfl,λc a=>?_⟩;simp only[Id.A,cS,pP,or_false]at a;rcases a with rfl|rfl|rfl<;>rfl
def Zf(hI:Inv h φ w T){k g c o:Nat}{L M:D_}{a:Array Value}{E:TypeId}(B:T[k]?=some (some (.arr 3 (L.map Id.A))))(m:φ k=.slice (some ⟨g,0,none⟩) L.length (c+1))(l:w.heap[g]?=some (.cells a E (0,0)))(H:L.length<=c+1)(G:c+1<=maxLen)(y:a.size=(c+1)*3)(D:h g=none)
 (z:cK h (L.map Id.A).flatten (a.toList.take (L.length*3))) (I:o+M.length<=L.length):
 (Inv h φ (w.setCells g (o*3) (M.flatMap Id.K)) (T.set k (some (.arr 3 ((L.take o++M++L.drop (o+M.length)).map Id.A))))/\Evo h φ T w h φ (T.set k (some (.arr 3 ((L.take o++M++L.drop (o+M.length)).map Id.A)))) (w.setCells g (o*3) (M.flatMap Id.K))) /\
  ∃f,(w.setCells g (o*3) (M.flatMap Id.K)).heap[g]?=some (.cells f E (0,0))/\f.size=(c+1)*3/\cK h ((L.take o++M++L.drop (o+M.length)).map Id.A).flatten (f.toList.take ((L.take o++M++L.drop (o+M.length)).length*3)):=by
 have s:=aGm M;have t:o*3+(M.flatMap Id.K).length<=a.size:=by rw[s,y];omega
 have x:=run_storeCells_at Tryz.prog g (o*3) E (M.flatMap Id.K) 0 a w l J_ (TC M);have u:=run_storeCells_cells (P:=Tryz.prog) g (o*3) (M.flatMap Id.K) 0 w (λj C=>by rw[(Iu l).1,Ri o_];rfl) (λj C=>(Iu (o:=o*3+0+j) l).2) (TC M);simp only[mG]at x u;have e:w.setCells g (o*3) (M.flatMap Id.K)=w.setRow g (a.toList.take (o*3)++M.flatMap Id.K++a.toList.drop (o*3+(M.flatMap Id.K).length)).toArray:=by have:=u.symm.trans x;injection this
 rw[e];have b:(L.take o++M++L.drop (o+M.length)).length=L.length:=kr;have r:a.toList.length=(c+1)*3:=by rw[GV,y]
 have q:∀d∈L.map Id.A,d.length=3:=λd F=>(aEJ L d F).1;have i:((L.take o++M++L.drop (o+M.length)).map Id.A).flatten=(L.map Id.A).flatten.take (o*3)++(M.flatMap Id.K).map .v++(L.map Id.A).flatten.drop (o*3+M.length*3):=by rw[bZ,bZ,Kf,Kf,Vd M,QN,aC0,Fz q,Fy q,xE]
 have p:cK h ((L.take o++M++L.drop (o+M.length)).map Id.A).flatten ((a.toList.take (o*3)++M.flatMap Id.K++a.toList.drop (o*3+(M.flatMap Id.K).length)).take (L.length*3)):=by rw[i,s,Mz a.toList (M.flatMap Id.K) (o*3) (M.length*3) (L.length*3) o_ o_ s];exact((z.take _).app (Ru h _)).app (z.drop _)
 have n:(a.toList.take (o*3)++M.flatMap Id.K++a.toList.drop (o*3+(M.flatMap Id.K).length)).toArray.size=(c+1)*3:=by rw[Gn];simp only[dZ,eC,vY,r];omega
 refine⟨Lt hI B l (by rw[m];rfl) ⟨aEJ _,.inr ⟨g,c,_,E,by rw[aP,b];exact m,setRow_heap w g a _ E _ l,by rw[aP,b];exact H,G,n,D,by rw[aP,b];exact p⟩⟩,_,setRow_heap w g a _ E _ l,n,by rw[b];exact p⟩
def aIM(L:D_)(n i:Nat):D_ :=
 let M:=(L.take n).drop (i+1)
 let a:=L.take i++M++L.drop (i+M.length)
 a.take (n-1)++[⟨0,0,0⟩]++a.drop (n-1+([⟨0,0,0⟩]:D_).length)
def aBp{G:L_}{k n i:Nat}{L:D_}{sl:AV}(F:T[k]?=some (some (.arr 3 (L.map Id.A))))(hn:n<=L.length)(ae:sl=.vw k 3 0 n\/(sl=.own k/\n=L.length))(hi:i<n):
 aA PQ G fR [sl,iv i,iv (i+1:Nat)] T λr T'=>r=.vw k 3 0 (n-1)/\T'=T.set k (some (.arr 3 ((aIM L n i).map Id.A))):=by
 intro h z w m hG hI S;refine .inl ⟨Go.Proofs.enters_of Tryz.func127 a_ rfl _ _,?_⟩;simp only[cC]at S;obtain⟨u0,ac,ad,af,u1,ab,rfl,y,u2,aa,rfl,x,rfl⟩:=S;simp only[Rp]at y x;subst y x;obtain rfl:m=#[u0,.int .i64 i,.int .i64 (i+1:Nat)]:=m_;have q:k<T.length:=(sV.1 F).1;obtain⟨hc,f⟩:=hI.obj k _ F;rw[aP]at f;rcases f with⟨A0,D,P⟩|⟨g,c,a,E,D,C,B,V,e4,U,J⟩
 simp_all;have hu:∃d,u0=.slice (some ⟨g,0,none⟩) n d/\n<=d/\d<=maxLen:=by grind[Rp,Value.slice.injEq]
 obtain⟨d,rfl,u,p⟩:=hu;have Q:n*3<=a.toList.length:=b_;have j:a.toList.take (L.length*3)=L.flatMap Id.K:=by rw[Vd]at J;exact SV J
 have s:a.toList.take (n*3)=(L.take n).flatMap Id.K:=by
  have h1:(a.toList.take (L.length*3)).take (n*3)=a.toList.take (n*3):=m_;rw[<-h1,j];have:=MF (enc:=Id.K) (k:=3) (λ_=>rfl) (L.take n)
  conv=>lhs;rw[<-LC n L]
  grind
 have R:(a.toList.take (n*3)).toArray.size=n*3:=m_;refine(aEI (a.toList.take (n*3)).toArray g d n i w R (λv O=>by rw[s]at O;exact TC _ v (by simpa using O)) ?_ u (by unfold maxLen at p;omega) hi).mono ?_;intro t ht;rw[R]at ht;obtain⟨c1,c2⟩:=Iu (o:=0+t) C;grind;rintro e w' ⟨rfl,rfl⟩;have hd:(a.toList.take (n*3)).toArray.toList.drop ((i+1)*3)=((L.take n).drop (i+1)).flatMap Id.K:=by
  show(a.toList.take (n*3)).drop ((i+1)*3)=_;rw[s]
  conv=>lhs;rw[<-LC (i+1) (L.take n)]
  have:=MF (enc:=Id.K) (k:=3) (λ_=>rfl) ((L.take n).take (i+1));rw[List.flatMap_append,aGG (by rw[this,eC,eC];omega),LB (by rw[this,eC,eC];omega),dM]
 rw[hd];have I:Inv h z w.drew T:=⟨hI.gh,hI.obj,hI.dis⟩
 have H:((L.take n).drop (i+1)).length=n-(i+1):=by rw[vY,eC];omega
 obtain⟨⟨i1,Z⟩,W,w1,X,p1⟩:=Zf I (M:=(L.take n).drop (i+1)) (o:=i) F D C B V e4 U J (by rw[H];omega);have l:(L.take i++(L.take n).drop (i+1)++L.drop (i+((L.take n).drop (i+1)).length)).length=L.length:=kr;obtain⟨⟨N,v2⟩,_⟩:=Zf i1 (M:=[⟨0,0,0⟩]) (o:=n-1) (by rw[List.getElem?_set_self q]) (by rw[l];exact D) w1 (by rw[l];exact B) V X U p1 (by rw[l];simp;omega);rw[List.set_set]at N v2;have Y:Evo h z T w h z T w.drew:=⟨rfl,rfl,rfl,cN _,λ_ _ _=>rfl,CA.refl _,λb cs e=>.inl e,λ_ _=>rfl,λi o b C B=>.inr ⟨i,o,C,B⟩,cN _,Kl _⟩
 refine⟨_,rfl,.vw k 3 0 (n-1),_,h,z,⟨rfl,rfl⟩,(Y.trans Z).trans v2,N,?_⟩;simp only[Rp,cL];refine⟨q,some ⟨g,0,none⟩,d,rfl,o_,p,.inr ⟨g,_,_,D,by rw[Nat.zero_mul],o_⟩⟩
def RX{G:L_}{k n i:Nat}{L:D_}{sl:AV}(g:T[k]?=some (some (.arr 3 (L.map Id.A))))(f:n<=L.length)(b:sl=.vw k 3 0 n\/(sl=.own k/\n=L.length))(h:i<n):
 aA PQ G fR [sl,iv i,iv (i+1:Nat)] T λr e=>∃d:D_,d.length=L.length/\d.take (n-1)=(L.take n).eraseIdx i/\r=.vw k 3 0 (n-1)/\e=T.set k (some (.arr 3 (d.map Id.A))):=by
 refine(aBp g f b h).mono λr e ⟨h1,h2⟩=>⟨_,?_,?_,h1,h2⟩
 simp only[aIM,dZ,eC,vY,sE,gQ];omega;have a:((L.take n).drop (i+1)).length=n-(i+1):=by rw[vY,eC];omega
 have c:(L.take i++(L.take n).drop (i+1)++L.drop (i+((L.take n).drop (i+1)).length)).length=L.length:=kr;unfold aIM;dsimp only;rw[eB,Rf (by rw[eC,c];omega),Mj,Nat.min_self,List.eraseIdx_eq_take_drop_succ,Mj,Kj o_,Rf (by rw[dZ,eC,a];omega),sG (by rw[dZ,eC,a];omega)]
end
end Hud
namespace Hud
open Go
variable{G:L_}
section
variable{T:aK}
def aEK (f:Nat) (cs:O_) (m:Id->Bool) {k n:Nat} {L:D_} {sl:AV} (y:T[k]?=some (some (.arr 3 (L.map Id.A)))) (D:n<=L.length) (B:n<=1000) (a:sl=.vw k 3 0 n\/(sl=.own k/\n=L.length))
 (h:∀x∈L.take n,aA PQ G f (.ag x.A::cs) T λr t=>r=.v (.bool (m x))/\t=T):
 aA PQ G bB [sl,.cl f cs] T λr t=>r=iv (qX m (L.take n))/\t=T:=by
 apply eH cJ;have w:(L.take n).length=n:=u_;have b:∀i(p:i<n),(L.take n)[i]'ox=L[i]:=λi p=>List.getElem_take;have d:(sl=.vw k 3 0 n/\0+n=n)\/(sl=.own k/\L.length=n):=a.imp (λh=>⟨h,pQ n⟩) (λh=>⟨h.1,h.2.symm⟩);clear a;rcases d with⟨a,c⟩|⟨a,c⟩
 all_goals (
  simp only[go_sem,a,y,c,aP]
  refine O7 n (λi=>⟨T.length,[(8,iv i),(7,iv n),(0,sl),(1,.cl f cs)],T⟩) (λi=>∀j(o:j<n),j<i->m L[j]=false) ?_ (by intro j o h;omega) ?_ ?_
  rw[a];rfl
  intro i p q
  have s:i<L.length:=o_
  have C:(L.map Id.A)[i]?=some L[i].A:=aO _ L i s
  have e:L[i]∈L.take n:=m_
  have z:=h _ e
  rw[Id.A_def]at z
  simp only[go_sem,aT p,C,a,y,c,aP,p,Id.A_def]
  apply cI z
  cases u:m L[i]with
  | false=>
   simp only[go_sem,fQ i o_]
   refine⟨by rw[a],?_⟩
   intro j o g
   rcases eD j i with h2|h2
   exact q j o h2
   obtain rfl:j=i:=o_
   exact u
  |true=>
   simp only[go_sem]
   rw[mC (l:=L.take n) (i:=i) o_ (λj o g=>by rw[b j o_];exact q j o_ g) (by rw[b i p];exact u)]
   exact⟨rfl,dE⟩
  intro q
  simp only[go_sem,aS (bP _)]
  rw[lD (l:=L.take n) λj o=>by rw[b j o_];exact q j o_ o_]
  exact⟨rfl,dE⟩)
def aO1(T:aK)(k:Nat)(b:Nat)(M:D_)(r:AV)(T':aK):Prop:=∃(a:D_)(X:aK),a.length=b/\a.take M.length=M/\T'=T.set k (some (.arr 3 (a.map Id.A)))++X/\(r=.vw k 3 0 M.length\/(r=.own k/\M.length=a.length))
def Ve (f:Nat) (cs:O_) (m:Id->Bool) {k n:Nat} {L:D_} {sl:AV} (hk:T[k]?=some (some (.arr 3 (L.map Id.A)))) (hn:n<=L.length) (Y:n<=1000) (a:sl=.vw k 3 0 n\/(sl=.own k/\n=L.length))
 (h:∀(L':D_)(X:aK),∀x∈L.take n,aA PQ G f (.ag x.A::cs) (T.set k (some (.arr 3 (L'.map Id.A)))++X) λr T'=>r=.v (.bool (m x))/\T'=T.set k (some (.arr 3 (L'.map Id.A)))++X):
 aA PQ G bE [sl,.cl f cs] T (aO1 T k L.length ((L.take n).filter λx=>!m x)):=by
 have t:T.set k (some (.arr 3 (L.map Id.A)))=T:=by refine EW λj=>?_;grind
 have h0:=λx E=>h L [] x E;rw[t,jO]at h0;apply fT iD;have g:(L.take n).length=n:=u_;have aj:∀i(O:i<n),(L.take n)[i]'ox=L[i]:=λi O=>List.getElem_take;have u:(sl=.vw k 3 0 n/\0+n=n)\/(sl=.own k/\L.length=n):=a.imp (λh=>⟨h,pQ n⟩) (λh=>⟨h.1,h.2.symm⟩);simp only[go_sem];apply cI (aEK f cs m hk hn Y a h0);clear a;have C:(qX m (L.take n)=-1/\∀x∈L.take n,m x=false)\/∃c,c<n/\∃S:c<L.length,qX m (L.take n)=(c:Int)/\m L[c]=true/\∀j(S:j<L.length),j<c->m L[j]=false:=by
  rcases Int.lt_or_le (qX m (L.take n)) 0 with af|d;left;have b:∀x∈L.take n,m x=false:=by have:=mN m (L.take n);grind
  exact⟨lD λj S=>b _ (eQ S),b⟩;right;unfold qX at d⊢
  cases e:(L.take n).findIdx? m with
  |none=>rw[e]at d;exact absurd d d_|some c=>
   obtain⟨h1,h2,h3⟩:=Ad.1 e;grind
 rcases C with⟨O,b⟩|⟨c,ah,ab,O,ad,b⟩
 have P:(L.take n).filter (λx=>!m x)=L.take n:=Gm.2 λx E=>by rw[b x E];rfl
 rw[O,P];rcases u with⟨a,l⟩|⟨a,l⟩
 simp only[go_sem,a];exact⟨L,[],rfl,by rw[g],by rw[t,jO],.inl (by rw[g])⟩;simp only[go_sem,a];exact⟨L,[],rfl,by rw[g],by rw[t,jO],.inr ⟨rfl,o_⟩⟩
 ·have e1:((c:Int)==-1)=false:=Y_;rw[O];rcases u with⟨a,l⟩|⟨a,l⟩
  all_goals (
   simp only[go_sem,e1,fQ c o_]
   refine kL (λq st=>∃(i j:Nat)(M:D_)(X:aK),q=n-j/\i<j/\j<=n/\M.length=L.length/\M.take i=((L.take j).filter λx=>!m x)/\M.drop j=L.drop j/\st=⟨T.length,[(6,iv j),(5,iv i),(0,sl),(1,.cl f cs)],T.set k (some (.arr 3 (M.map Id.A)))++X⟩) (n-(c+1))
    ⟨c,c+1,L,[],rfl,o_,o_,rfl,?_,rfl,by rw[t,jO]⟩ ?_
   rw[lB ab,Mf,Gm.2 (λx E=>?_)]
   simp[ad]
   obtain⟨j',ac,rfl⟩:=List.mem_iff_getElem.1 E
   rw[eC]at ac
   rw[List.getElem_take,b j' o_ o_]
   rfl
   rintro q st ⟨i,j,M,X,rfl,ai,S,hM,V,hd,rfl⟩
   have p:(T.set k (some (.arr 3 (M.map Id.A))))[k]?=some (some (.arr 3 (M.map Id.A))):=dS hk
   have Z:(T.set k (some (.arr 3 (M.map Id.A)))).length=T.length:=cL
   have F:∀N:D_,(T.set k (some (.arr 3 (M.map Id.A)))).set k (some (.arr 3 (N.map Id.A)))=T.set k (some (.arr 3 (N.map Id.A))):=λN=>List.set_set ..
   have s:=λX=>h M X
   rw[<-Z]
   generalize ae:T.set k (some (.arr 3 (M.map Id.A)))=U at *
   have D:=λX:aK=>aF (X:=X) p
   by_cases z:j<n
   have aa:j<M.length:=o_
   have K:i<M.length:=o_
   have w:j<L.length:=o_
   have R:M[j]=L[j]:=by
    have h1:(M.drop j)[0]?=(L.drop j)[0]?:=by rw[hd]
    grind
   have Q:M.drop (j+1)=L.drop (j+1):=by have:=congrArg (List.drop 1) hd;grind[List.drop_drop]
   have H:M[j]∈L.take n:=m_
   have s:=λX=>s X M[j] H
   rw[Id.A_def]at s
   have g0:(M.map Id.A)[j]?=some M[j].A:=aO _ M j aa
   have B:=dB p
   have y:=l
   simp only[go_sem,a,aP,hM,y,aT z,z,g0,D,nY]
   apply cI (s _)
   cases hm:m M[j]
   simp only[go_sem,a,aP,hM,y,(o_:i<n),aO Id.A M i K,D,nY]
   rw[fQ i o_,fQ j o_,List.set_append_left _ _ B,<-Id.A_def,<-Ba,F]
   refine⟨_,(by omega:n-(j+1)<n-j),i+1,j+1,M.set i M[j],_,rfl,o_,o_,by rw[cL];omega,?_,?_,rfl⟩
   rw[lB (by simpa using K),lB w,Mf,<-V,YC,List.take_set_of_le (cN i),<-R,List.filter_cons,hm]
   rfl
   rw[List.drop_set_of_lt o_,Q]
   simp only[go_sem,a]
   rw[fQ j o_]
   refine⟨_,(by omega:n-(j+1)<n-j),i,j+1,M,_,rfl,o_,o_,o_,?_,Q,by rw[ae]⟩
   rw[lB w,Mf,<-V,<-R,List.filter_cons,hm]
   simp
   obtain rfl:j=n:=o_
   have B:=dB p
   have J:i<=j:=o_
   have W:=λo:Option AObj=>aF (X:=X) (dS (o:=o) p)
   have e9:i+(j-i)=j:=o_
   have e8:i+(j-i)<=L.length:=o_
   have e7:i+(j-i)<=j:=o_
   simp only[go_sem,a,aP,hM,l,aS z,J,e7,e8,W,(o_:i<=min i j+(j-i+(j-(i+(j-i))))),D,List.set_append_left _ _ B,dZ,QE,eC,vY,nY]
   have I:((L.take j).filter λx=>!m x).length=i:=m_
   have hZ:M.take i++(List.replicate (j-i) (⟨0,0,0⟩:Id)++M.drop (i+(j-i)))=M.take i++(List.replicate (j-i) (⟨0,0,0⟩:Id)++M.drop (i+(j-i))):=rfl
   refine⟨M.take i++(List.replicate (j-i) (⟨0,0,0⟩:Id)++M.drop (i+(j-i))),X,?_,?_,?_,.inl (by rw[I])⟩
   simp only[dZ,QE,eC,vY]
   omega
   rw[I,<-V,Rf ox,Mj,Nat.min_self]
   rw[<-F]
   simp only[bZ,QN,YH,aC0,Id.A_zero])
end
def jM(o:OpM):Bool:=o.Kind==3||o.Kind==13||o.Kind==12
section
variable{T:aK}{p:Nat×Nat×Nat}{g:PGM}{l v f:Nat}{row V F:D_}
def GAt.set{i:Nat}{o:Option AObj}(h:GAt T p g)(h1:i≠p.1)(h2:i≠p.2.1)(h3:i≠p.2.2):GAt (T.set i o) p g :=
 h.mono λj a=>aY (by rcases a with rfl|rfl|rfl<;>assumption)
def LAt.set{i:Nat}{o:Option AObj}(h:LAt T l v f p row V F)(h1:i≠l)(h2:i≠v)(h3:i≠f):LAt (T.set i o) l v f p row V F :=
 ⟨by rw[aY h1];exact h.box,let⟨b,c,x,y⟩:=h.vo;⟨b,c,by rw[aY h2];exact x,y⟩,let⟨b,c,x,y⟩:=h.fo;⟨b,c,by rw[aY h3];exact x,y⟩,h.ne⟩
def LAt.setV{V':D_}{bs:V_}{a:Nat}(h:LAt T l v f p row V F)(d:Bs V'.length bs a):LAt (T.set v (some (qC V' bs a))) l v f p row V' F :=
 ⟨by rw[aY (Ne.symm h.ne.1)];exact h.box,⟨bs,a,let⟨_,_,x,_⟩:=h.vo;dS x,d⟩,let⟨b,c,x,y⟩:=h.fo;⟨b,c,by rw[aY h.ne.2.2.1];exact x,y⟩,h.ne⟩
def LAt.gset{o:Option AObj}(h:LAt T l v f p row V F)(a:GAt T p g):GAt (T.set v o) p g:=a.set h.ne.2.2.2.1 h.ne.2.2.2.2.1 h.ne.2.2.2.2.2
def aEM(o:OpM):aA PQ G CG [iv o.Kind] T λr a=>r=.v (.bool (jM o))/\a=T:=by refine eH KD ?_;cases h1:o.Kind==3;cases h2:o.Kind==13;simp only[go_sem,h1,h2];simp_all[jM];simp only[go_sem,h1,h2];simp_all[jM];simp only[go_sem,h1];simp_all[jM]
def aBr(h:GAt T p g)(j:g.ok)(i:LAt T l v f p row V F){b:Nat}(k:T[b]?=some (some (.box [.ptr l 0])))(x:Id)(e:x∈g.I):
 aA PQ G mL [.ag x.A,.ptr b 0] T λr c=>r=.v (.bool (!jM (g.nd x).o))/\c=T:=by
 apply eH Cw;have n:=λX:aK=>aF (X:=X) i.box;have m:=λX:aK=>aF (X:=X) k;have d:=λX=>S5 (G:=G) (h.app (X:=X)) j x e;simp only[Id.A_def]at d;simp only[go_sem,n,m,nY];refine⟨?_,?_⟩
 all_goals refine jA (d _) ?_
 all_goals rintro r c ⟨rfl,a⟩
 all_goals obtain rfl:=a.symm
 all_goals simp only[go_sem,nY]
 all_goals refine jA (aEM _) ?_
 all_goals rintro r c ⟨rfl,a⟩
 all_goals obtain rfl:=a.symm
 all_goals simp only[go_sem,aH]
def aBs(h:LAt T l v f p row V F){b:Nat}(o:T[b]?=some (some (.box [.ptr l 0])))(x:Id):
 aA PQ G mM [.ag x.A,.ptr b 0] T λr t=>r=.v (.bool (decide (x∈V)))/\t=T:=by
 apply eH Cx;have k:=λX:aK=>aF (X:=X) h.box;have i:=λX:aK=>aF (X:=X) o;obtain⟨bs,w,m,n⟩:=h.vo;have g:=λX:aK=>aF (X:=X) m;unfold qC at g;have d:eR [.int .i64,.int .i64,.int .u64] [.int .i64 x.a,.int .i64 x.b,.int .u64 x.c] (V.map Id.K) 0=some ((V.findIdx? λy=>decide (y=x)).map (· + 0)):=qH x V 0;by_cases e:x∈V;obtain⟨j,s,u,_⟩:=dG e;rw[s]at d;simp only[iX,mG]at d;have q:(V.map λ_=>AV.v (.bool true))[j]?=some (.v (.bool true)):=u_;simp only[go_sem,k,i,g,d,q,nY,e,decide_true,aH];rw[eG e]at d;simp only[xD]at d;simp only[go_sem,k,i,g,d,nY,e,decide_false,aH]
end
def nZ(S:List (Int×Int))(d x:Int):List (Int×Int):=match S.findIdx? (λe=>d==e.1) with|some j=>S.set j (d,x)|none=>S++[(d,x)]
def Xt{S:List (Int×Int)}{d x:Int}:(nZ S d x).length<=S.length+1:=by grind[nZ]
def TF(S:List (Int×Int))(d x:Int){bs:V_}{a:Nat}(g:Bs S.length bs a):
 (∃j,eR [.int .i64] [.int .i64 d] (S.map λe=>iK e.1) 0=some (some j)/\j<S.length/\AObj.map false (S.map λe=>iK e.1) ((S.map λe=>iv e.2).set j (iv x)) bs a=AO (nZ S d x) bs a/\Bs (nZ S d x).length bs a) \/
 (eR [.int .i64] [.int .i64 d] (S.map λe=>iK e.1) 0=some none/\AObj.map false ((S.map λe=>iK e.1)++[[.int .i64 d]]) ((S.map λe=>iv e.2)++[iv x]) (bs++[a]) (a+1)=AO (nZ S d x) (bs++[a]) (a+1)/\Bs (nZ S d x).length (bs++[a]) (a+1)):=by
 have b:=KY S d;rw[show iK d=[.int .i64 d] from rfl]at b
 cases e:S.findIdx? (λe=>d==e.1) with
 |none=>
  rw[e]at b;have f:nZ S d x=S++[(d,x)]:=by rw[nZ,e]
  refine .inr ⟨b,?_,?_⟩;simp_all[AO,iK];rw[f,dZ];exact g.suc
 | some j=>
  rw[e]at b;obtain⟨c,i,_⟩:=Ad.1 e;have f:nZ S d x=S.set j (d,x):=by rw[nZ,e]
  have h:j<bs.length:=by rw[g.len];exact c
  refine .inl ⟨j,b,c,?_,?_⟩;rw[f,AO,Ba,Ba];congr 1;have k:iK d=iK S[j].1:=u_;show _=(S.map λe=>iK e.1).set j (iK d);rw[k];exact(BE (λe:Int×Int=>iK e.1) S j c).symm;simp_all
def KZ(cs:List CardM):List (Int×Int):=cs.foldl (λS c=>nZ S c.Device 12) []
def Xu:Nat->B_->List (Int×Int)->List (Int×Int)|_,[],S=>S|i,d::r,S=>Xu (i+1) r (nZ S d i)
def aBt(g:PGM)(row:D_):List (Int×Int):=Xu 0 (BQ g row) (KZ g.cards)
def AQ(V:D_)(y:Id):D_:=if y∈V then V else V++[y]
def Mb(g:PGM)(row:D_)(x:Id)(left V:D_):D_:=row.foldl (λV y=>if(lA g x y||(decide (y∈left)&&B7 g row x y))=true then AQ V y else V) V
def uL(g:PGM)(row:D_)(S:List (Int×Int)):Nat->D_->D_->D_
 |0,V,_=>V
 | n+1,V,left=>
  let a:=left.filter λx=>!decide (x∈V)
  if a=[] then V else
   let i:=(yY g row S a).toNat
   let x:=a.getD i default
   if x∈mW g V row then uL g row S n (Mb g row x (a.eraseIdx i) V) (a.eraseIdx i) else uL g row S n (AQ V x) (a.eraseIdx i)
def sU(g:PGM)(row V:D_):D_:=uL g row (aBt g row) row.length V (row.filter λx=>jM (g.nd x).o)
def Vg(V:D_)(z:Id){bs:V_}{e:Nat}(h:Bs V.length bs e):
 (∃j,eR [.int .i64,.int .i64,.int .u64] [.int .i64 z.a,.int .i64 z.b,.int .u64 z.c] (V.map Id.K) 0=some (some j)/\AObj.map true (V.map Id.K) ((V.map λ_=>AV.v (.bool true)).set j (.v (.bool true))) bs e=qC (AQ V z) bs e/\Bs (AQ V z).length bs e) \/
 (eR [.int .i64,.int .i64,.int .u64] [.int .i64 z.a,.int .i64 z.b,.int .u64 z.c] (V.map Id.K) 0=some none/\AObj.map true (V.map Id.K++[[.int .i64 z.a,.int .i64 z.b,.int .u64 z.c]]) ((V.map λ_=>AV.v (.bool true))++[.v (.bool true)]) (bs++[e]) (e+1)=qC (AQ V z) (bs++[e]) (e+1)/\Bs (AQ V z).length (bs++[e]) (e+1)):=by
 have d:eR [.int .i64,.int .i64,.int .u64] [.int .i64 z.a,.int .i64 z.b,.int .u64 z.c] (V.map Id.K) 0=some ((V.findIdx? λy=>decide (y=z)).map (· + 0)):=qH z V 0;by_cases f:z∈V;obtain⟨j,k,i,_⟩:=dG f;rw[k]at d;simp only[iX,mG]at d;have g:AQ V z=V:=by rw[AQ,if_pos f]
 refine .inl ⟨j,d,?_,by rw[g];exact h⟩;rw[g,qC];congr 1;exact BE (λ_:Id=>AV.v (.bool true)) V j i;rw[eG f]at d;simp only[xD]at d;have g:AQ V z=V++[z]:=by rw[AQ,if_neg f]
 refine .inr ⟨d,?_,?_⟩;grind[qC,Id.K];rw[g,dZ];exact h.suc
def PJ{g:PGM}{row:D_}{S:List (Int×Int)}{ss:D_}:∀(r:D_)(i:Nat)(a:Int),i+r.length=ss.length->a<ss.length->(0<=a\/r≠[])->0<=AP g row S ss r i a/\AP g row S ss r i a<ss.length
 |[],i,a,b,c,h=>by
  grind[AP]
 | x::r,i,a,b,c,h=>by rw[sE]at b;rw[AP];split;refine PJ r (i+1) _ o_ ?_ ?_;split<;>omega;omega;omega
def RY{g:PGM}{row:D_}{S:List (Int×Int)}{ss:D_}(h:ss≠[]):0<=yY g row S ss/\yY g row S ss<ss.length :=
 PJ ss 0 (-1) o_ o_ (.inr h)
section
variable{T:aK}{p:Nat×Nat×Nat}{g:PGM}{l v f:Nat}{row V F:D_}
def aO2(T:aK)(v:Nat)(V:D_)(T':aK):Prop:=∃(bs:V_)(a:Nat)(X:aK),T'=T.set v (some (qC V bs a))++X/\Bs V.length bs a
def Vh (hK:AK G) (h:GAt T p g) (hg:GGood g) (hl:LAt T l v f p row V F) (hs:∀x∈row,x∈g.I) (hn:row.Nodup):
 aA PQ G oO [.ptr l 0] T λ_ T'=>aO2 T v (sU g row V) T':=by
 have dn:row.length<=200:=by have:=List.Nodup.length_le_of_subset hn hs;have h2:=hg.ok.n;simp only[PGM.I,aP]at this;omega
 apply fT ES;have a0:=λX:aK=>aF (X:=X) hl.box;simp only[go_sem,a0,nY];apply cI (S4 h.app hg.ok);simp only[go_sem,aP]
 refine kL (λn st=>∃i,i<=g.cards.length/\n=g.cards.length-i/\∃(Y:aK)(bs:V_)(z:Nat),Bs (KZ (g.cards.take i)).length bs z /\
  st=⟨T.length,[(19,iv i),(18,iv g.cards.length),(17,.ls 5 (g.cards.map CardM.A)),(2,.mp (T.length+1)),(1,.ptr T.length 0)],T++some (.box [.ptr l 0])::some (AO (KZ (g.cards.take i)) bs z)::Y⟩) g.cards.length ⟨0,pR _,rfl,[],[],0,⟨rfl,s_,s_⟩,rfl⟩ ?_
 rintro n st ⟨i,hi,bg,Y,bs,z,hb,rfl⟩;rcases eD i g.cards.length with w|av;have g0:(g.cards.map CardM.A)[i]?=some g.cards[i].A:=aO _ g.cards i w;have ws:=pC (show i<(2^63-1) by have:=hg.ok.cn;omega);have ft:KZ (g.cards.take (i+1))=nZ (KZ (g.cards.take i)) g.cards[i].Device 12:=by rw[lB w,KZ,Hy];rfl
 rw[show AO (KZ (g.cards.take i)) bs z=AObj.map false ((KZ (g.cards.take i)).map λe=>iK e.1) ((KZ (g.cards.take i)).map λe=>iv e.2) bs z from rfl];rcases TF (KZ (g.cards.take i)) g.cards[i].Device 12 hb with⟨j,hj,db,he,s⟩|⟨hj,he,s⟩
 simp only[go_sem,nY,aT w,g0,CardM.A,hj,ws];exact⟨_,(by omega:g.cards.length-(i+1)<n),i+1,o_,rfl,_,_,_,by rw[ft];exact s,by rw[ft,<-he]⟩;simp only[go_sem,nY,aT w,g0,CardM.A,hj,ws];exact⟨_,(by omega:g.cards.length-(i+1)<n),i+1,o_,rfl,_,_,_,by rw[ft];exact s,by rw[ft,<-he]⟩;obtain rfl:i=g.cards.length:=o_;rw[dE]at hb⊢;simp only[go_sem,a0,nY,aS (bP _)];clear bg av;apply cI (aBq h.app hg.ok row hs hn o_);simp only[go_sem,aP];have cc:(BQ g row).length<=1000:=by have:=TD (g:=g) (eO g row) [];rw[(mE g row).length_eq]at this;simp only[gQ]at this;unfold BQ;omega
 have aj:aBt g row=Xu 0 (BQ g row) (KZ g.cards):=rfl;have bb:sU g row V=uL g row (aBt g row) row.length V (row.filter λx=>jM (g.nd x).o):=rfl;rw[bb];generalize KZ g.cards=S0 at *
 generalize BQ g row=o at *
 simp only[go_sem,rG]
 refine kL (λn st=>∃i,i<=o.length/\n=o.length-i/\∃(S:List (Int×Int))(Y:aK)(bs:V_)(z:Nat),Xu i (o.drop i) S=aBt g row/\Bs S.length bs z /\
  ∃Sl,(Sl=[(36,iv o.length),(35,rG o),(37,iv i),(2,.mp (T.length+1)),(1,.ptr T.length 0)]\/Sl=[(37,iv i),(36,iv o.length),(35,rG o),(2,.mp (T.length+1)),(1,.ptr T.length 0)])/\st=⟨T.length,Sl,T++some (.box [.ptr l 0])::some (AO S bs z)::Y⟩) o.length ⟨0,pR _,rfl,S0,Y,bs,z,aj.symm,hb,_,.inl rfl,rfl⟩ ?_
 clear hb aj bs z Y n;rintro n st ⟨i,hi,bg,S,Y,bs,z,hS,hb,Sl,ae,rfl⟩;rcases eD i o.length with w|av
 ·have g0:(o.map λn=>[iv n])[i]?=some [iv o[i]]:=by rw[gE,jN w];rfl
  have ws:=fQ i o_;rw[Kc w,Xu]at hS;rw[show AO S bs z=AObj.map false (S.map λe=>iK e.1) (S.map λe=>iv e.2) bs z from rfl];rcases TF S o[i] i hb with⟨j,hj,db,he,s⟩|⟨hj,he,s⟩
  all_goals rcases ae with rfl|rfl
  all_goals simp only[go_sem,rG,nY,aT w,g0,hj,ws]
  all_goals exact⟨_,(by omega:o.length-(i+1)<n),i+1,o_,rfl,_,_,_,_,hS,s,_,.inr rfl,by rw[<-he]⟩
 obtain rfl:i=o.length:=o_;rw[LB (cN _),Xu]at hS;subst hS;clear bg av hi;generalize aBt g row=S at *
 refine'(λ(ah:(_:Prop))=>?_) ?_;rotate_left;rcases ae with ae|ae;simp only[go_sem,ae,rG,a0,nY,aS (bP _)];exact ah;simp only[go_sem,ae,rG,a0,nY,aS (bP _)];exact ah
 all_goals (
  apply kM (MO row o_)
  simp only[go_sem,nY]
  have cm:∀(L':D_)(X:aK),∀x∈row.take row.length,aA PQ G mL [.ag x.A,.ptr T.length 0] ((T++some (.box [.ptr l 0])::some (AO S bs z)::(Y++[some (.arr 3 (row.map Id.A))])).set (T.length+(Y.length+2)) (some (.arr 3 (L'.map Id.A)))++X) λr T'=>r=.v (.bool (!jM (g.nd x).o))/\T'=(T++some (.box [.ptr l 0])::some (AO S bs z)::(Y++[some (.arr 3 (row.map Id.A))])).set (T.length+(Y.length+2)) (some (.arr 3 (L'.map Id.A)))++X:=by intro L' X x hx;rw[cP];exact aBr h.app.app hg.ok hl.app.app (aF (by rw[fF];rfl)) x (hs x (C8 hx))
  apply jA (Ve _ _ _ (by rw[aZ];simp) (cN _) o_ (.inr ⟨rfl,rfl⟩) cm)
  rintro y T' ⟨L,X,dh,M,rfl,t⟩
  rw[cP]
  simp only[Bool.not_not]at M t
  rw[dE]at M t
  have z0:((some (AObj.box [AV.ptr l 0])::some (AO S bs z)::(Y++[some (AObj.arr 3 (row.map Id.A))])).set (Y.length+2) (some (.arr 3 (L.map Id.A)))++X)[0]?=some (some (.box [.ptr l 0])):=rfl
  have z1:((some (AObj.box [AV.ptr l 0])::some (AO S bs z)::(Y++[some (AObj.arr 3 (row.map Id.A))])).set (Y.length+2) (some (.arr 3 (L.map Id.A)))++X)[1]?=some (some (AO S bs z)):=rfl
  have zk:((some (AObj.box [AV.ptr l 0])::some (AO S bs z)::(Y++[some (AObj.arr 3 (row.map Id.A))])).set (Y.length+2) (some (.arr 3 (L.map Id.A)))++X)[Y.length+2]?=some (some (.arr 3 (L.map Id.A))):=by refine aF ?_;rw[List.getElem?_set_self s_]
  rw[eB]
  generalize(some (AObj.box [AV.ptr l 0])::some (AO S bs z)::(Y++[some (AObj.arr 3 (row.map Id.A))])).set (Y.length+2) (some (.arr 3 (L.map Id.A)))++X=Z at *
  have ac:2<=Y.length+2:=o_
  generalize Y.length+2=k at *
  obtain⟨bv,cv,bu,K⟩:=hl.vo
  have aq:∀x∈row.filter (λx=>jM (g.nd x).o),x∈row:=λx hx=>(gR.1 hx).1
  have au:(row.filter λx=>jM (g.nd x).o).length<=row.length:=List.length_filter_le ..
  have ar:(row.filter λx=>jM (g.nd x).o).Nodup:=hn.sublist List.filter_sublist
  clear bb
  generalize hD:uL g row S row.length V (row.filter λx=>jM (g.nd x).o)=D at *
  generalize row.filter (λx=>jM (g.nd x).o)=left at *
  simp only[go_sem]
  refine kL (λn st=>∃(left V':D_)(fuel:Nat)(bv:V_)(cv:Nat)(L:D_)(Z:aK)(k:Nat)(sl:AV),left.length=n/\left.length<=row.length/\(∀x∈left,x∈row)/\left.Nodup/\uL g row S fuel V' left=D/\left.length<=fuel/\Bs V'.length bv cv /\
   Z[0]?=some (some (.box [.ptr l 0]))/\Z[1]?=some (some (AO S bs z))/\Z[k]?=some (some (.arr 3 (L.map Id.A)))/\2<=k/\L.take left.length=left/\(sl=.vw (T.length+k) 3 0 left.length\/(sl=.own (T.length+k)/\left.length=L.length)) /\
   st=⟨T.length,[(7,sl),(2,.mp (T.length+1)),(1,.ptr T.length 0)],T.set v (some (qC V' bv cv))++Z⟩) left.length ⟨left,V,row.length,bv,cv,L,Z,k,y,rfl,au,aq,ar,hD,au,K,z0,z1,zk,ac,M,t,by rw[JN bu]⟩ ?_
  clear z0 z1 zk ac M t aq au ar hD K bu cm dh
  rintro n st ⟨left,V',fuel,bv,cv,L,Z,k,sl,dp,au,aq,ar,hD,dq,K,z0,z1,zk,ac,M,t,rfl⟩
  have an:=LAt.setV (V':=V') hl K
  have cj:=LAt.gset (o:=some (qC V' bv cv)) hl h
  have aw:(T.set v (some (qC V' bv cv))).length=T.length:=cL
  have cz:∀o,(T.set v (some (qC V' bv cv))).set v o=T.set v o:=λo=>List.set_set ..
  rw[<-aw]at t⊢
  generalize hU:T.set v (some (qC V' bv cv))=C at *
  have da:left.length<=L.length:=by have:=congrArg List.length M;rw[eC]at this;omega
  have ck:∀(L':D_)(X:aK),∀x∈L.take left.length,aA PQ G mM [.ag x.A,.ptr C.length 0] ((C++Z).set (C.length+k) (some (.arr 3 (L'.map Id.A)))++X) λr T'=>r=.v (.bool (decide (x∈V')))/\T'=(C++Z).set (C.length+k) (some (.arr 3 (L'.map Id.A)))++X:=by intro L' X x hx;rw[cP];exact aBs an.app.app (aF (by rw[fF,aY o_];exact z0)) x
  simp only[go_sem]
  apply jA (Ve (L:=L) (n:=left.length) _ _ (λx=>decide (x∈V')) (by rw[aZ];exact zk) da o_ t ck)
  rintro y T' ⟨J,X1,dt,B,rfl,bf⟩
  rw[cP,eB]
  rw[M]at B bf
  have af:(Z.set k (some (.arr 3 (J.map Id.A)))++X1)[0]?=some (some (.box [.ptr l 0])):=aF (by rw[aY o_];exact z0)
  have be:(Z.set k (some (.arr 3 (J.map Id.A)))++X1)[1]?=some (some (AO S bs z)):=aF (by rw[aY o_];exact z1)
  have E:(Z.set k (some (.arr 3 (J.map Id.A)))++X1)[k]?=some (some (.arr 3 (J.map Id.A))):=aF (dS zk)
  generalize Z.set k (some (.arr 3 (J.map Id.A)))++X1=Q at *
  clear M t ck z0 z1 zk
  have P:(left.filter λx=>!decide (x∈V')).Sublist left:=List.filter_sublist
  have cd:=ar.sublist P
  have ba:∀x∈left.filter (λx=>!decide (x∈V')),x∈row:=λx hx=>aq x (P.subset hx)
  have dk:=P.length_le
  have dj:(left.filter λx=>!decide (x∈V'))=[]->D=V':=by
   intro e;rw[<-hD]
   cases fuel with
   |zero=>rfl|succ m=>rw[uL,if_pos e]
  have di:(left.filter λx=>!decide (x∈V'))≠[]->∃m,fuel=m+1/\D=(if((left.filter λx=>!decide (x∈V')).getD (yY g row S (left.filter λx=>!decide (x∈V'))).toNat default)∈mW g V' row then uL g row S m (Mb g row ((left.filter λx=>!decide (x∈V')).getD (yY g row S (left.filter λx=>!decide (x∈V'))).toNat default) ((left.filter λx=>!decide (x∈V')).eraseIdx (yY g row S (left.filter λx=>!decide (x∈V'))).toNat) V') ((left.filter λx=>!decide (x∈V')).eraseIdx (yY g row S (left.filter λx=>!decide (x∈V'))).toNat)
   else uL g row S m (AQ V' ((left.filter λx=>!decide (x∈V')).getD (yY g row S (left.filter λx=>!decide (x∈V'))).toNat default)) ((left.filter λx=>!decide (x∈V')).eraseIdx (yY g row S (left.filter λx=>!decide (x∈V'))).toNat)):=by
   intro e
   cases fuel with
   |zero=>exact absurd (Ae o_) e|succ m=>exact⟨m,rfl,by rw[<-hD,uL,if_neg e]⟩
  generalize(left.filter λx=>!decide (x∈V'))=c at *
  have am:c.length<=J.length:=by have:=congrArg List.length B;rw[eC]at this;omega
  by_cases U:c=[]
  have ax:=dj U
  subst U
  rcases bf with hy|⟨hy,ab⟩
  simp only[go_sem,hy,gQ]
  exact⟨bv,cv,Q,by rw[ax,hU],ax ▸ K⟩
  simp only[go_sem,hy,E,aP,<-ab,gQ,nY]
  exact⟨bv,cv,Q,by rw[ax,hU],ax ▸ K⟩
  ·obtain⟨m,hm,N⟩:=di U
   obtain⟨de,dr⟩:=RY (g:=g) (row:=row) (S:=S) U
   obtain⟨i,ch⟩:=Int.eq_ofNat_of_zero_le de
   have H:i<c.length:=o_
   have dc:i<J.length:=o_
   have az:((c.length:Int)==0)=false:=by rw[beq_eq_false_iff_ne];omega
   rw[ch,nI]at N
   have hx:c.getD i default=J[i]:=by rw[rH,jN H];show c[i]=J[i];have h8:=List.getElem_take (xs:=J) (j:=c.length) (i:=i) (h:=by rw[B];exact H);rw[<-h8];congr 1;exact B.symm
   rw[hx]at N
   have g0:(J.map Id.A)[i]?=some J[i].A:=aO _ J i dc
   have dl:J[i]∈row:=by rw[<-hx,rH,jN H];exact ba _ (eQ H)
   have ws:=fQ i o_
   have cr:(C++Q)[C.length+k]?=some (some (.arr 3 (J.map Id.A))):=by rw[aZ];exact E
   have bo:∀X:aK,(C++(Q++X))[C.length+k]?=some (some (.arr 3 (J.map Id.A))):=λX=>by rw[aZ];exact aF E
   have cb:(C++Q)[C.length+1]?=some (some (AO S bs z)):=by rw[aZ];exact be
   have aa:=λ(sl:AV) cc=>aGl (G:=G) (T:=C++Q) cj.app hg.ok an.app o_ (sl:=sl) (n:=c.length) cr am o_ cc cb
   rw[B,ch]at aa
   have bh:=dB E
   have bj:∀(o b:Option AObj)(X:aK),(Q.set k o++b::X)[Q.length]?=some b:=λo b X=>by rw[Mc (by rw[cL];exact cN _),cL,YN];rfl
   have bk:∀(o:Option AObj)(X:aK),(Q.set k o++X)[0]?=some (some (.box [.ptr l 0])):=λo X=>aF (by rw[aY o_];exact af)
   refine'(λ(ah:(_:Prop))=>?_) ?_
   rotate_left
   rcases bf with hy|⟨hy,ab⟩
   simp only[go_sem,hy,az,af,nY]
   apply cI (aa _ (.inl rfl))
   simp only[go_sem,H,g0,ws,E,pQ,nY]
   apply jA (RX (L:=J) (n:=c.length) (i:=i) (bo _) am (.inl rfl) H)
   rintro r T' ⟨R,cq,u,rfl,rfl⟩
   rw[cP,List.set_append_left _ _ bh]
   simp only[go_sem,bj,bk,nY]
   revert R
   exact ah
   simp only[go_sem,hy,az,E,af,aP,<-ab,nY]
   apply cI (aa _ (.inr ⟨rfl,ab⟩))
   simp only[go_sem,H,g0,ws,E,aP,<-ab,nY]
   apply jA (RX (L:=J) (n:=c.length) (i:=i) (bo _) am (.inr ⟨rfl,ab⟩) H)
   rintro r T' ⟨R,cq,u,rfl,rfl⟩
   rw[cP,List.set_append_left _ _ bh]
   simp only[go_sem,bj,bk,nY]
   revert R
   exact ah
   rotate_left
   intro R cq u
   rw[B]at u
   have dg:(Q.set k (some (.arr 3 (R.map Id.A)))).length=Q.length:=cL
   have O:(Q.set k (some (.arr 3 (R.map Id.A))))[0]?=some (some (.box [.ptr l 0])):=by rw[aY o_];exact af
   have bd:(Q.set k (some (.arr 3 (R.map Id.A))))[1]?=some (some (AO S bs z)):=by rw[aY o_];exact be
   have ao:(Q.set k (some (.arr 3 (R.map Id.A))))[k]?=some (some (.arr 3 (R.map Id.A))):=dS E
   rw[<-dg]
   clear bj bk bo cr aa cb E af be bh
   generalize Q.set k (some (.arr 3 (R.map Id.A)))=Z2 at *
   generalize J[i]=x at *
   have df:(c.eraseIdx i).length=c.length-1:=Rg H
   have al:=cd.sublist (List.eraseIdx_sublist c i)
   have ak:∀y∈c.eraseIdx i,y∈row:=λy hy=>ba y ((List.eraseIdx_sublist c i).subset hy)
   generalize c.eraseIdx i=a at *
   rw[<-df]at u⊢
   have br:∀(o:Option AObj)(X:aK),(C++X).set v o=T.set v o++X:=λo X=>by rw[List.set_append_left _ _ (by rw[aw];obtain⟨_,_,x,_⟩:=hl.vo;exact dB x),cz]
   have dd:(mW g V' row).length<=1000000:=by have:=(Aa (g:=g) (V:=V') row []).length_le;rw[dM]at this;unfold mW;omega
   have bq:=λX:aK=>aF (X:=X) an.box
   apply cI (Xr hK cj.app hg an.app hs hn)
   simp only[go_sem,nY]
   apply iJ (aB _) rfl rfl (Dx (mW g V' row) x dd)
   by_cases ai:x∈mW g V' row
   ·rw [if_pos ai]at N
    simp only[go_sem,ai,decide_true,bq,aF O,nY]
    have ct:Mb g row x a V'=row.foldl (λV y=>if(lA g x y||(decide (y∈a)&&B7 g row x y))=true then AQ V y else V) V':=rfl
    rw[ct]at N
    generalize bz:(λ(V:D_)(y:Id)=>if(lA g x y||(decide (y∈a)&&B7 g row x y))=true then AQ V y else V)=d at *
    simp only[ids]
    refine kL (λq st=>∃(j:Nat)(bw:V_)(cw:Nat)(Y:aK),j<=row.length/\q=row.length-j/\Bs ((row.take j).foldl d V').length bw cw /\
     st=⟨C.length,[(87,iv j),(86,iv row.length),(85,ids row),(7,.vw (C.length+k) 3 0 a.length),(9,.ptr (C.length+Z2.length) 0),(2,.mp (C.length+1)),(1,.ptr C.length 0)],T.set v (some (qC ((row.take j).foldl d V') bw cw))++(Z2++some (.box x.A)::Y)⟩) row.length ⟨0,bv,cv,[],pR _,rfl,K,by rw[uQ,Kk,hU];rfl⟩ ?_
    rintro q st ⟨j,bw,cw,Y3,hj,hq,ad,rfl⟩
    rcases eD j row.length with w|av
    ·have ce:=LAt.setV (V':=(row.take j).foldl d V') hl ad
     have ci:=LAt.gset (o:=some (qC ((row.take j).foldl d V') bw cw)) hl h
     have cp:(T.set v (some (qC ((row.take j).foldl d V') bw cw))).length=C.length:=by rw[aw];exact cL
     have ca:∀o,(T.set v (some (qC ((row.take j).foldl d V') bw cw))).set v o=T.set v o:=λo=>List.set_set ..
     have cu:v<T.length:=by obtain⟨_,_,x,_⟩:=hl.vo;exact dB x
     have cx:(T.set v (some (qC ((row.take j).foldl d V') bw cw)))[v]?=some (some (qC ((row.take j).foldl d V') bw cw)):=by obtain⟨_,_,x,_⟩:=hl.vo;exact dS x
     have ft:(row.take (j+1)).foldl d V'=d ((row.take j).foldl d V') row[j]:=by rw[lB w,Hy];rfl
     have g0:(row.map Id.A)[j]?=some row[j].A:=aO _ row j w
     have ws:=fQ j o_
     generalize(row.take j).foldl d V'=W at *
     rw[<-cp]
     generalize co:T.set v (some (qC W bw cw))=T3 at *
     have ay:∀(o:Option AObj)(X:aK),(T3++X).set v o=T.set v o++X:=λo X=>by rw[List.set_append_left _ _ (by rw[cp,aw];exact cu),ca]
     have bp:=λX:aK=>aF (X:=X) ce.box
     have bm:=λX:aK=>aF (X:=X) cx
     unfold qC at bm
     have cg:=λX=>GQ (G:=G) (ci.app (X:=X)) hg.ok x row[j]
     have bt:=λX=>Zd (G:=G) (ci.app (X:=X)) hg.ok ce.app o_ x row[j]
     simp only[Id.A_def]at cg bt
     have bc:∀X:aK,xG (T3++(Z2++X)) [.vw (T3.length+k) 3 0 a.length,.ag row[j].A]=[ids a,.ag row[j].A]:=λX=>by
      have e1:cR (T3++(Z2++X)) (T3.length+k)=some (.arr 3 (R.map Id.A)):=kU (by rw[aZ];exact aF ao);have e2:0+a.length<=(R.map Id.A).length:=I_;simp only[xG,tB,e1,e2,and_self,if_true,TZ,Id.A_def,<-QN,u,ids]
     have nG:d W row[j]=if(lA g x row[j]||(decide (row[j]∈a)&&B7 g row x row[j]))=true then AQ W row[j] else W:=by rw[<-bz]
     have ap:=λX:aK=>aF (X:=X) O
     simp only[Id.A_def]at bc
     rcases Vg W row[j] ad with⟨j2,bi,he,s⟩|⟨bi,he,s⟩
     all_goals (
      simp only[go_sem,ids,aT w,g0,bp,ap,nY]
      apply cI (cg _)
      cases c1:lA g x row[j]
      rw[c1,EH]at nG
      simp only[go_sem,nY]
      apply iJ (aB _) (bc _) rfl (Dx a row[j] o_)
      by_cases c2:row[j]∈a
      rw[decide_eq_true c2,mF]at nG
      simp only[go_sem,c2,decide_true,ap,nY]
      apply cI (bt _)
      cases c3:B7 g row x row[j]
      rw[c3,if_neg d_]at nG
      simp only[go_sem,ws,nY]
      exact⟨row.length-(j+1),o_,j+1,bw,cw,_,o_,rfl,by rw[ft,nG];exact ad,by rw[ft,nG,co]⟩
      rw[c3,if_pos rfl]at nG
      simp only[go_sem,bp,ap,bm,bi,ay,ws,nY]
      exact⟨row.length-(j+1),o_,j+1,_,_,_,o_,rfl,by rw[ft,nG];exact s,by rw[ft,nG,<-he]⟩
      rw[decide_eq_false c2,lR,if_neg d_]at nG
      simp only[go_sem,c2,decide_false,ws,nY]
      exact⟨row.length-(j+1),o_,j+1,bw,cw,_,o_,rfl,by rw[ft,nG];exact ad,by rw[ft,nG,co]⟩
      rw[c1,EI,if_pos rfl]at nG
      simp only[go_sem,bp,ap,bm,bi,ay,ws,undef,nY]
      exact⟨row.length-(j+1),o_,j+1,_,_,_,o_,rfl,by rw[ft,nG];exact s,by rw[ft,nG,<-he]⟩)
    obtain rfl:j=row.length:=o_
    rw[dE]at ad⊢
    simp only[go_sem,aS (bP _)]
    exact⟨a.length,o_,a,row.foldl d V',m,bw,cw,R,_,k,_,rfl,o_,ak,al,N.symm,o_,ad,aF O,aF bd,aF ao,ac,u,.inl rfl,rfl⟩
   rw[if_neg ai]at N
   obtain⟨dv,du,dm,ds⟩:=an.vo
   have cy:C[v]?=some (some (qC V' bv cv)):=by rw[<-hU];obtain⟨_,_,x,_⟩:=hl.vo;exact dS x
   have bn:=λX:aK=>aF (X:=X) cy
   unfold qC at bn
   rcases Vg V' x K with⟨j,hj,he,s⟩|⟨hj,he,s⟩
   simp only[go_sem,ai,decide_false,bq,aF O,bn,hj,br,nY]
   exact⟨a.length,o_,a,AQ V' x,m,_,_,R,_,k,_,rfl,o_,ak,al,N.symm,o_,s,aF O,aF bd,aF ao,ac,u,.inl rfl,by rw[<-he]⟩
   simp only[go_sem,ai,decide_false,bq,aF O,bn,hj,br,nY]
   exact⟨a.length,o_,a,AQ V' x,m,_,_,R,_,k,_,rfl,o_,ak,al,N.symm,o_,s,aF O,aF bd,aF ao,ac,u,.inl rfl,by rw[<-he]⟩)
end
def aA.keepL{P:Program}{G:L_}{f:FuncId}{args:O_}{T:aK}{q:Nat->N_->Prop}(E:aA P G f args T λr g=>g.take T.length=T/\∃k c,r=.ls k c/\q k c):
 aA P G f args T λr g=>(∃k c,q k c/\r=.ls k c)/\g=T:=by
 have s:∀{h:GH}{φ:Nat->Value}{w w':World}{v:Value},Inv h φ w T->CS h φ T w (λr g=>g.take T.length=T/\∃k c,r=.ls k c/\q k c) v w'->CS h φ T w (λr g=>(∃k c,q k c/\r=.ls k c)/\g=T) v w':=by
  rintro h φ w w' v hI ⟨r,g,J,p,⟨z,k,c,rfl,B⟩,d,l,A⟩;have n:∀i o,T[i]?=some (some o)->g[i]?=some (some o):=λi o e=>by
   have C:i<T.length:=(sV.1 e).1;have h3:(g.take T.length)[i]?=some (some o):=by rw[z];exact e
   rwa[List.getElem?_take_of_lt C]at h3
  refine⟨.ls k c,T,J,p,⟨⟨k,c,B,rfl⟩,rfl⟩,?_,?_,by simpa only[Rp]using A⟩;exact⟨d.os,d.tape,d.output,d.size,d.frame,d.le,d.gfr,d.phi,λi o b D F=>d.org i o b (n i o D) F,cN _,d.drawn⟩;exact⟨l.gh,λi o e=>GP (l.obj i o (n i o e)) (hI.obj i o e),λi j y x b u t=>l.dis i j y x b (n i y u) (n j x t)⟩
 intro h φ w m H hI I;rcases E h φ w m H hI I with⟨a,b⟩|⟨v,w',a,b⟩
 exact .inl ⟨a,b.mono λe w' ⟨v,u,t⟩=>⟨v,u,s hI t⟩⟩;grind
def B8(l:D_)(x:Id):Bool:=l.any λy=>l.any λz=>!decide (y=z)&&(y.a==x.a&&(z.a==x.a&&(y.b==z.b&&decide (y.b<=x.b))))
def TI(G:L_):Prop:=∀(T:aK)(p:Nat×Nat×Nat)(g:PGM)(l:D_),GAt T p g->GGood g->l.Nodup->(∀x∈l,x∈g.I) ->
 aA PQ G Bh [.ptr p.1 0,ids l] T λr a=>(∃V:D_,(∀x,x∈V↔x∈l/\B8 l x=true)/\V.Nodup/\r=ids V)/\a=T
section
variable{T:aK}{p:Nat×Nat×Nat}{g:PGM}
def aO3(T:aK)(p:Nat×Nat×Nat)(g:PGM)(l:D_)(r:AV)(T':aK):Prop:=∃(a v f:Nat)(V:D_),r=.ptr a 0/\(∃X,T'=T++X)/\T.length<=v/\LAt T' a v f p (eO g l) V V/\∀x,x∈V↔x∈l/\B8 l x=true
def aKM(J:TI G)(h:GAt T p g)(r:GGood g){l:D_}(u:∀x∈l,x∈g.I)(q:l.Nodup):
 aA PQ G F6 [.ptr p.1 0,ids l] T (aO3 T p g l):=by
 have D:l.length<=200:=by have:=List.Nodup.length_le_of_subset q u;have h2:=r.ok.n;grind[PGM.I,List.length_map]
 apply fT Sv;simp only[go_sem,nY];apply cI (aG9 h r.ok l q o_);simp only[go_sem,nY];apply jA (J _ _ _ _ h.app r q u);rintro y P ⟨⟨V,k,s,rfl⟩,w⟩;obtain rfl:=w.symm;have H:V.length<=200:=by have:=List.Nodup.length_le_of_subset s (λx C=>((k x).1 C).1);omega
 simp only[go_sem,ids,aP]
 refine kL (λn t=>∃(i:Nat)(bs:V_)(d:Nat)(Y:aK),i<=V.length/\n=V.length-i/\Bs (V.take i).length bs d /\
  t=⟨T.length,[(20,iv i),(19,iv V.length),(18,ids V),(5,.ptr (T.length+2) 0)],T++some (qC (V.take i) bs d)::some (qC (V.take i) bs d)::some (.box [.ptr p.1 0,ids (eO g l),.mp T.length,.mp (T.length+1)])::Y⟩) V.length ⟨0,[],0,[],pR _,rfl,⟨rfl,s_,s_⟩,rfl⟩ ?_
 clear w;rintro n t ⟨i,bs,d,Y,O,E,j,rfl⟩;rcases eD i V.length with f|F;have M:(V.map Id.A)[i]?=some V[i].A:=aO _ V i f;have z:=fQ i o_;have N:V.take (i+1)=V.take i++[V[i]]:=lB f;have o:V[i]∉V.take i:=by grind[List.nodup_append]
 have e:eR [.int .i64,.int .i64,.int .u64] [.int .i64 V[i].a,.int .i64 V[i].b,.int .u64 V[i].c] ((V.take i).map Id.K) 0=some (((V.take i).findIdx? λy=>decide (y=V[i])).map (· + 0)):=qH V[i] (V.take i) 0;rw[eG o]at e;simp only[xD]at e;have m:∀(W:D_)(x:Id) bs d,AObj.map true (W.map Id.K++[[.int .i64 x.a,.int .i64 x.b,.int .u64 x.c]]) ((W.map λ_=>AV.v (.bool true))++[.v (.bool true)]) bs d=qC (W++[x]) bs d:=λW x bs d=>by simp[qC,Id.K]
 have fl:=MV j.lt;have B:=λy:AV=>JM (x:=AV.v (.bool false)) (y:=y) (show((V.take i).map λ_=>AV.v (.bool true)).length=bs.length by rw[aP,j.len]);rw[show qC (V.take i) bs d=AObj.map true ((V.take i).map Id.K) ((V.take i).map λ_=>AV.v (.bool true)) bs d from rfl];simp only[go_sem,ids,aT f,M,e,fl,B,z,nY];rw[m,<-N];have L:min (i+1) V.length=(V.take i).length+1:=b_;exact⟨_,(by omega:V.length-(i+1)<n),i+1,_,_,_,o_,rfl,by rw[L];exact j.suc,rfl⟩;obtain rfl:i=V.length:=o_;rw[dE]at j⊢;simp only[go_sem,aS (bP _)];refine⟨T.length+2,T.length,T.length+1,V,rfl,⟨_,rfl⟩,cN _,⟨?_,⟨bs,d,?_,j⟩,⟨bs,d,?_,j⟩,?_⟩,k⟩;rw[aZ];rfl;rw[fF];rfl;rw[aZ];rfl;have:=dB h.a;have:=dB h.b;have:=dB h.c;omega
def aEN(u:AK G)(B:TI G)(h:GAt T p g)(j:GGood g){l:D_}(s:∀x∈l,x∈g.I)(t:l.Nodup):
 aA PQ G pN [.ptr p.1 0,ids l] T λr n=>(∃V:D_,(∀x,x∈V↔x∈l/\B8 l x=true)/\r=ids (mW g (sU g (eO g l) V) (eO g l)))/\n=T:=by
 have b:∀x∈eO g l,x∈g.I:=λx w=>s x ((mE g l).mem_iff.1 w);have c:(eO g l).Nodup:=(mE g l).nodup_iff.2 t;refine(aA.keepL (q:=λk C=>k=3/\∃V:D_,(∀x,x∈V↔x∈l/\B8 l x=true)/\C=(mW g (sU g (eO g l) V) (eO g l)).map Id.A) (fT KA ?_)).mono ?_;rotate_left;simp_all;simp only[go_sem,nY];apply jA (aKM B h j s t);rintro y n ⟨a,v,f,V,rfl,⟨X,rfl⟩,E,e,m⟩;simp only[go_sem,nY];apply jA (Vh u h.app j e b c);rintro y n ⟨bs,D,Y,rfl,z⟩;have d:=(e.setV z).app (X:=Y);have i:=(e.gset (o:=some (qC (sU g (eO g l) V) bs D)) h.app).app (X:=Y);simp only[go_sem,nY];apply cI (Xr u i j d b c);simp only[go_sem];refine⟨?_,3,_,rfl,rfl,V,m,rfl⟩;simp_all
def Xv(l:B_)(c:l.length<=maxLen):aA PQ G tX [ints l] [] λr T=>r=iv (nF l)/\T=[]:=by refine aC ET ?_;unfold maxLen at c;simp only[go_sem,aP];refine aQ l.length (λi=>⟨0,[(3,iv 0),(6,ints l),(7,iv l.length),(8,iv i)],[]⟩) (λi=>∀j,j<i->l.getD j 0=0) ?_ s_ ?_ ?_;rfl;intro i b a;simp only[go_sem,aT b,aO I1 l i b,aPJ];refine aL (λh=>?_) (λh=>?_)<;>simp only[go_sem,fQ i o_];rw[Iv a b y_];grind;intro a;simp only[go_sem,aS (bP _),Iw a]
def Gk(g:PGM)(l V:D_)(x:Id):Int :=
 if x∉g.I\/x∉l then 4 else if x∈V then 13 else if x∈mW g (sU g (eO g l) V) (eO g l) then 0 else if(mW g (sU g (eO g l) V) (eO g l)).any (λy=>lA g y x)=true then 15
 else if mT (Lo g (mW g (sU g (eO g l) V) (eO g l)) x) (g.nd x).o=0 then 15 else mT (Lo g (mW g (sU g (eO g l) V) (eO g l)) x) (g.nd x).o
def aIO(h:GAt T p g)(e:g.ok){b c:Nat}{x:Id}(i:T[b]?=some (some (.box [.ptr p.1 0])))(f:T[c]?=some (some (.box x.A)))(y:Id):
 aA PQ G DM [.ag y.A,.ptr b 0,.ptr c 0] T λr k=>r=.v (.bool (lA g y x))/\k=T:=by
 apply eH Lc;have j:=λX:aK=>aF (X:=X) i;have d:=λX:aK=>aF (X:=X) f;have a:=λX=>GQ (G:=G) (h.app (X:=X)) e y x;simp only[Id.A_def]at a d;simp only[go_sem,j,d,nY];apply cI (a _);simp only[go_sem,aH]
def aKN (hK:AK G) (hV:TI G) (h:GAt T p g) (u:GGood g) {l:D_} (hs:∀x∈l,x∈g.I) (hn:l.Nodup) (x:Id):
 aA PQ G wB [.ptr p.1 0,ids l,.ag x.A] T λr B=>(∃V:D_,(∀x,x∈V↔x∈l/\B8 l x=true)/\r=iv (Gk g l V x))/\B=T:=by
 have E:∀x∈eO g l,x∈g.I:=λx D=>hs x ((mE g l).mem_iff.1 D);have H:(eO g l).Nodup:=(mE g l).nodup_iff.2 hn;refine(aA.keep (q:=λw=>∃V:D_,(∀x,x∈V↔x∈l/\B8 l x=true)/\w=.int .i64 (Gk g l V x)) ((fT P2 (post:=λr B=>B.take T.length=T/\∃V:D_,(∀x,x∈V↔x∈l/\B8 l x=true)/\r=iv (Gk g l V x)) ?_).mono ?_)).mono ?_;rotate_left;rintro r B ⟨ht,V,aa,rfl⟩;exact⟨⟨B.drop T.length,by have:=(LC T.length B).symm;rwa[ht]at this⟩,_,rfl,V,aa,rfl⟩;simp_all;simp only[go_sem,nY];apply jA (aKM hV h.app u hs hn);rintro y B ⟨a,v,f,V,rfl,⟨X,rfl⟩,hv,hl,aa⟩;have O:GAt (T++[some (AObj.box [.ptr p.1 0]),some (AObj.box [iv x.a,iv x.b,.v (.int .u64 x.c)])]++X) p g:=h.app.app;have ac:(T++[some (AObj.box [.ptr p.1 0]),some (AObj.box [iv x.a,iv x.b,.v (.int .u64 x.c)])]++X).take T.length=T:=s_;have u0:(T++[some (AObj.box [.ptr p.1 0]),some (AObj.box [iv x.a,iv x.b,.v (.int .u64 x.c)])]++X)[T.length]?=some (some (.box [.ptr p.1 0])):=s_;have u1:(T++[some (AObj.box [.ptr p.1 0]),some (AObj.box [iv x.a,iv x.b,.v (.int .u64 x.c)])]++X)[T.length+1]?=some (some (.box x.A)):=by rw[eB,aZ];rfl
 have ad:T.length+2<=v:=u_;generalize T++[some (AObj.box [.ptr p.1 0]),some (AObj.box [iv x.a,iv x.b,.v (.int .u64 x.c)])]++X=U at *
 simp only[go_sem];apply jA (Vh hK O u hl E H);rintro y B ⟨bs,cl,Y,rfl,hb⟩;have ab:T.length<=U.length:=m_;have L:=(hl.setV hb).app (X:=Y);have t:=(hl.gset (o:=some (qC (sU g (eO g l) V) bs cl)) O).app (X:=Y);have al:(U.set v (some (qC (sU g (eO g l) V) bs cl))++Y).take T.length=T:=by rw[Rf (by rw[cL];exact ab),List.take_set_of_le o_];exact ac
 have w0:(U.set v (some (qC (sU g (eO g l) V) bs cl))++Y)[T.length]?=some (some (.box [.ptr p.1 0])):=aF (by rw[aY o_];exact u0);have w1:(U.set v (some (qC (sU g (eO g l) V) bs cl))++Y)[T.length+1]?=some (some (.box x.A)):=aF (by rw[aY o_];exact u1);generalize U.set v (some (qC (sU g (eO g l) V) bs cl))++Y=W at *
 clear u0 u1 ac O hl hb hv ad ab;simp only[go_sem];apply cI (Xr hK t u L E H);have F:(mW g (sU g (eO g l) V) (eO g l)).Sublist (eO g l):=by have:=Aa (g:=g) (V:=sU g (eO g l) V) (eO g l) [];rwa[dM]at this
 have M:∀y∈mW g (sU g (eO g l) V) (eO g l),y∈g.I:=λy hy=>E y (F.subset hy);have N:(mW g (sU g (eO g l) V) (eO g l)).Nodup:=H.sublist F;clear F;have ai:(mW g (sU g (eO g l) V) (eO g l)).length<=200:=by have:=List.Nodup.length_le_of_subset N M;have h2:=u.ok.n;grind[PGM.I,List.length_map]
 have ah:l.length<=200:=by have:=List.Nodup.length_le_of_subset hn hs;have h2:=u.ok.n;grind[PGM.I,List.length_map]
 have e:Gk g l V x=Gk g l V x:=rfl
 conv at e=>rhs;unfold Gk
 generalize mW g (sU g (eO g l) V) (eO g l)=d at *
 simp only[go_sem];apply cI (Vc _ _ (λy=>lA g y x) d o_ (λy _=>aIO t u.ok w0 w1 y));have a0:=λX:aK=>aF (X:=X) L.box;have b0:=λX:aK=>aF (X:=X) w0;have P:=λX:aK=>aF (X:=X) w1;simp only[Id.A_def]at P w1;have ak:∀X:aK,(W++X).take T.length=T:=λX=>m_;simp only[go_sem,w0,w1,nY];by_cases D:x∈g.I;have Q:=S5 (G:=G) t u.ok x D;simp only[Id.A_def]at Q;apply cI Q;simp only[go_sem,P,nY];apply iJ (aB _) rfl rfl (Dx l x o_);by_cases k:x∈l;obtain⟨bf,cf,hf,aj⟩:=L.fo;have af:=λX:aK=>aF (X:=X) hf;unfold qC at af;have i:eR [.int .i64,.int .i64,.int .u64] [.int .i64 x.a,.int .i64 x.b,.int .u64 x.c] (V.map Id.K) 0=some ((V.findIdx? λy=>decide (y=x)).map (· + 0)):=qH x V 0;rw[if_neg (by simp[D,k])]at e;by_cases z:x∈V;obtain⟨j,e1,lj,_⟩:=dG z;rw[e1]at i;simp only[iX,mG]at i;have gv:(V.map λ_=>AV.v (.bool true))[j]?=some (.v (.bool true)):=u_;rw[if_pos z]at e;simp only[go_sem,k,decide_true,a0,af,i,gv,P,nY];grind;rw [eG z]at i;simp only[xD]at i;rw[if_neg z]at e;simp only[go_sem,k,decide_true,a0,af,i,P,nY];apply iJ (aB _) rfl rfl (Dx d x o_);by_cases m:x∈d;rw[if_pos m]at e;simp only[go_sem,m,decide_true];grind;rw[if_neg m]at e;cases S:d.any (λy=>lA g y x);rw[S,if_neg d_]at e;simp only[go_sem,m,decide_false,P,nY];have C:=λX:aK=>aKu (G:=G) (t.app (X:=X)) u (a0 X) d M N x;simp only[Id.A_def]at C;apply jA (C _);rintro y B ⟨s,rfl,hA⟩;obtain⟨X2,Z⟩:=hA.ext;have ae:=hA.at';simp only[eB,jC,dM]at Z;subst Z;have R:=O8 (G:=G) hK ae (RV u M N x) u.cards (g.nd x).o x (by have:=(u.op D).1.gl;omega);simp only[go_sem,P,nY];apply cI R;simp only[go_sem,nY];have J:xG (W++some (AObj.box (g.nd x).o.A)::(X2++[some (AObj.arr 1 [[iv (mT (Lo g d x) (g.nd x).o)],[iv 15]])])) [.own (W.length+(X2.length+1))]=[ints [mT (Lo g d x) (g.nd x).o,15]]:=by have e1:cR (W++some (AObj.box (g.nd x).o.A)::(X2++[some (AObj.arr 1 [[iv (mT (Lo g d x) (g.nd x).o)],[iv 15]])])) (W.length+(X2.length+1))=some (.arr 1 [[iv (mT (Lo g d x) (g.nd x).o)],[iv 15]]):=kU (by rw[aZ,oX,aD]);simp only[xG,tB,e1];rfl
 apply iJ (aB _) J rfl (Xv _ (by simp[maxLen]));simp only[go_sem];grind[nF];rw[S,if_pos rfl]at e;simp only[go_sem,m,decide_false];grind;rw[if_pos (.inr k)]at e;simp only[go_sem,k,decide_false];grind;have Q:=MW (G:=G) t x D;simp only[Id.A_def]at Q;rw[if_pos (.inl D)]at e;apply cI Q;simp only[go_sem,P1,undef,nY];grind
def aQH(g:PGM)(ss:D_):RM:=ss.foldl (ZO g) (RM.new g.cards)
end
section
variable{T:aK}
def Lp(x y:Id):aA PQ G pG [.ag x.A,.ag y.A] [] λr T=>r=iv (Wi x y)/\T=[]:=by refine aC Hi ?_;simp only[go_sem,Id.A_def];apply cX (Cm x y);simp only[go_sem];refine aL (λh=>?_) (λh=>?_);simp only[go_sem,Wi,h];simp only[go_sem];apply cX (Cm y x);simp only[go_sem];refine aL (λh2=>?_) (λh2=>?_)<;>simp only[go_sem,Wi,h,h2]
def aGn(l:D_)(f:l.length<2^62):aA PQ G bK [.own 0,.cl pG []] [some (.arr 3 (l.map Id.A))] λr T=>r=.tup []/\T=[some (.arr 3 ((sQ l).map Id.A))]:=by
 have a:∀x y:Id,Go.Proofs.ltOf Wi x y=x.lt y:=by grind[Go.Proofs.ltOf,Wi]
 have:=SW (k:=3) (enc:=Id.K) Go.Proofs.Tryz.laysSort Go.Proofs.Tryz.isAgg25 Go.Proofs.Tryz.sizeOf25 (λ_=>rfl) (λx v b=>by simp[Id.K]at b;rcases b with rfl|rfl|rfl<;>rfl)
  (λx c d=>by simp[cellsOf,Id.K]at d;rcases d with rfl|rfl|rfl<;>rfl) (cf:=Wi)
  ⟨λx=>by rw[a,Id.lt_irrefl],λx y z h1 h2=>by rw[a]at *;exact Id.lt_trans h1 h2,λx y z h1 h2=>by rw[a]at *;exact Id.nlt_trans h1 h2⟩
  (λx y h1 h2=>by rw[a]at *;exact Id.lt_total h1 h2) (g:=pG) (Go.Proofs.enters_of Go.Proofs.Tryz.func172 a_ rfl) (Go.Proofs.enters_of Go.Proofs.Tryz.func71 a_ rfl) (G:=G) Lp l f
 have e:(λx y:Id=>!(Go.Proofs.ltOf Wi y x))=λx y=>!(y.lt x):=by funext x y;rw[a]
 rw[e]at this;exact this
def Zg(k:Nat):TO [k] k=some 0:=by simp[TO,List.idxOf?,List.findIdx?_cons]
def Zh{k q:Nat}{es:N_}(a:T[k]?=some (some (.arr q es))):GX [k] T=[some (.arr q es)]:=by simp only[GX,fG,uP,kU a,H6,YQ]
def G5{k:Nat}{l:D_}(a:T[k]?=some (some (.arr 3 (l.map Id.A))))(c:l.length<2^62):
 aA PQ G wN [.own k] T λr b=>r=.own k/\b=T.set k (some (.arr 3 ((sQ l).map Id.A))):=by
 apply fT KB;simp only[go_sem];apply aG [k] (aB _) s_ (by simpa using dB a) (by simp only[xF,Bd,Zg]) (Zh a) (aGn l c);rintro r b ⟨rfl,rfl⟩;simp only[go_sem,IF,DC]
def PN(l:D_)(d a b:Int):D_:=l.filter λx=>x.a==d&&(decide (a<=x.b)&&decide (x.b<=b))
def aBu (l:D_) (B:l.length<=1000) (d a b:Int):aA PQ G Jp [ids l,iv d,iv a,iv b] T λr v=>r=ids (sQ (PN l d a b))/\v=T:=by
 refine(aA.keepLs (q:=λk y=>k=3/\y=(sQ (PN l d a b)).map Id.A) (fT Sw ?_)).mono ?_;rotate_left;simp;simp only[go_sem,ids,aP]
 refine kL (λn t=>∃i,i<=l.length/\n=l.length-i/\∃(X:aK)(k:Nat),X[k]?=some (some (.arr 3 ((PN (l.take i) d a b).map Id.A))) /\
  ∃S,(S=[(14,iv i),(13,iv l.length),(12,ids l),(9,.own (T.length+k)),(1,iv d),(2,iv a),(3,iv b)]\/S=[(14,iv i),(9,.own (T.length+k)),(13,iv l.length),(12,ids l),(1,iv d),(2,iv a),(3,iv b)])/\t=⟨T.length,S,T++X⟩) l.length ⟨0,pR _,rfl,_,0,rfl,_,.inl rfl,rfl⟩ ?_
 rintro n t ⟨i,C,w,X,k,j,S,u,rfl⟩;rcases eD i l.length with c|x;rotate_left
 ·obtain rfl:i=l.length:=o_;rw[dE]at j;have h:(PN l d a b).length<2^62:=by grind[PN]
  have g:=G5 (G:=G) (T:=T++X) (k:=T.length+k) (by rw[aZ];exact j) h;rcases u with rfl|rfl
  all_goals (
   simp only[go_sem,aS (bP _)]
   apply jA g
   rintro r v ⟨rfl,rfl⟩
   simp only[go_sem,cP]
   exact⟨aH,_,3,_,rfl,o_,by rw[aZ];exact dS j,rfl,rfl⟩)
 have m:=fQ i o_;have o:(l.map Id.A)[i]?=some l[i].A:=aO _ l i c;have f:PN (l.take (i+1)) d a b=PN (l.take i) d a b++if(l[i].a==d&&(decide (a<=l[i].b)&&decide (l[i].b<=b)))=true then [l[i]] else []:=by rw[lB c,PN,Mf,List.filter_cons,List.filter_nil];rfl
 have h:(PN (l.take i) d a b).length<=1000:=by grind[List.length_take,PN]
 generalize PN (l.take i) d a b=out at *
 generalize l[i]=z at *
 have e:=λY:aK=>aF (X:=Y) j;have s:out.length+1<=maxLen:=g_;have p:(out.length+1)*24<=140737488355328:=o_;rcases u with rfl|rfl
 all_goals (
  cases c1:z.a==d
  rw[c1,lR,if_neg d_,jO]at f
  simp only[go_sem,aT c,o,c1,ids,m,undef,nY]
  exact⟨l.length-(i+1),o_,i+1,o_,rfl,_,k,by rw[f];exact e _,_,od,rfl⟩
  cases c2:decide (a<=z.b)
  rw[c1,c2,lR,Ea,if_neg d_,jO]at f
  simp only[go_sem,aT c,o,c1,c2,ge_iff_le,ids,m,undef,nY]
  exact⟨l.length-(i+1),o_,i+1,o_,rfl,_,k,by rw[f];exact e _,_,od,rfl⟩
  cases c3:decide (z.b<=b)
  rw[c1,c2,c3,Ea,Ea,if_neg d_,jO]at f
  simp only[go_sem,aT c,o,c1,c2,c3,ge_iff_le,ids,m,undef,nY]
  exact⟨l.length-(i+1),o_,i+1,o_,rfl,_,k,by rw[f];exact e _,_,od,rfl⟩
  rw[c1,c2,c3,yH,yH,if_pos rfl]at f
  simp only[go_sem,aP,aT c,o,c1,c2,c3,ge_iff_le,ids,m,undef,e,s,p,nY]
  refine⟨l.length-(i+1),o_,i+1,o_,rfl,_,X.length+2,?_,_,.inr rfl,rfl⟩
  rw[f,bZ]
  exact TB kv)
end
def RZ(S:List ((Int×Int)×Int))(bs:V_)(a:Nat):AObj:=.map true (S.map λe=>[.int .i64 e.1.1,.int .i64 e.1.2]) (S.map λe=>iv e.2) bs a
def wM(S:List ((Int×Int)×Int))(k:Int×Int):Int:=match S.findIdx? (λe=>decide (e.1=k)) with|some j=>(S.getD j default).2|none=>0
def oW(S:List ((Int×Int)×Int))(k:Int×Int)(x:Int):List ((Int×Int)×Int):=match S.findIdx? (λe=>decide (e.1=k)) with|some j=>S.set j (k,x)|none=>S++[(k,x)]
def K9(L:List (Int×Int))(x:Id):Bool:=match L.findIdx? (λe=>x.a==e.1) with|some j=>decide (x.b<(L.getD j (0,0)).2)|none=>true
def pM(s:List ((Int×Int)×Int)×List (Int×Int))(x:Id):List ((Int×Int)×Int)×List (Int×Int):=
 (oW s.1 (x.a,x.b) (wM s.1 (x.a,x.b)+1),if wM s.1 (x.a,x.b)+1<2 then s.2 else if K9 s.2 x=true then nZ s.2 x.a x.b else s.2)
def mX(l:D_):List ((Int×Int)×Int)×List (Int×Int):=l.foldl pM ([],[])
def D9(k:Int×Int):∀(S:List ((Int×Int)×Int))(i:Nat),eR [.int .i64,.int .i64] [.int .i64 k.1,.int .i64 k.2] (S.map λe=>[.int .i64 e.1.1,.int .i64 e.1.2]) i=some ((S.findIdx? λe=>decide (e.1=k)).map (· + i))
 |[],i=>rfl
 | e::S,i=>by
  simp only[fG,eR,rJ,and_self,if_true,yH,List.findIdx?_cons];have:=D9 k S (i+1);have a:(k.1==e.1.1&&k.2==e.1.2)=decide (e.1=k):=m_;by_cases h:e.1=k;simp_all;rw[decide_eq_false h]at a⊢;simp only[a,this,jJ,if_false]
  cases S.findIdx? (λe=>decide (e.1=k)) with
  |none=>rfl
  |some j=>simp;omega
def aKO{bs:V_}(h:bs.Nodup){j:Nat}(a:j<bs.length):bs.findIdx? (λb:Nat=>(b:Int)==(bs[j]:Int))=some j:=by
 rw[Ad];refine⟨a,s_,λi c=>?_⟩;have:bs[i]≠bs[j]:=λe=>by have:=(C9 (h₀:=o_) (h₁:=a) h).1 e;omega
 simp_all;omega
def aBv(S:List ((Int×Int)×Int))(k:Int×Int){bs:V_}{a:Nat}(f:Bs S.length bs a):
 (∃(j:Nat)(h:j<bs.length),eR [.int .i64,.int .i64] [.int .i64 k.1,.int .i64 k.2] (S.map λe=>[.int .i64 e.1.1,.int .i64 e.1.2]) 0=some (some j)/\(S.map λe=>iv e.2)[j]?=some (iv (wM S k))/\bs.findIdx? (λb:Nat=>(b:Int)==(bs[j]:Int))=some j /\
  (∀x,AObj.map true (S.map λe=>[.int .i64 e.1.1,.int .i64 e.1.2]) ((S.map λe=>iv e.2).set j (iv x)) bs a=RZ (oW S k x) bs a/\Bs (oW S k x).length bs a)) \/
 (eR [.int .i64,.int .i64] [.int .i64 k.1,.int .i64 k.2] (S.map λe=>[.int .i64 e.1.1,.int .i64 e.1.2]) 0=some none/\wM S k=0 /\
  (∀x,AObj.map true ((S.map λe=>[.int .i64 e.1.1,.int .i64 e.1.2])++[[.int .i64 k.1,.int .i64 k.2]]) ((S.map λe=>iv e.2)++[iv x]) (bs++[a]) (a+1)=RZ (oW S k x) (bs++[a]) (a+1)/\Bs (oW S k x).length (bs++[a]) (a+1))):=by
 have d:=D9 k S 0
 cases e:S.findIdx? (λe=>decide (e.1=k)) with
 |none=>
  rw[e]at d;refine .inr ⟨d,by rw[wM,e],λx=>?_⟩;have i:oW S k x=S++[(k,x)]:=by rw[oW,e]
  rw[i];refine⟨by simp[RZ],?_⟩;rw[dZ];exact f.suc
 | some j=>
  rw[e]at d;obtain⟨h,g,_⟩:=Ad.1 e;have c:j<bs.length:=by rw[f.len];exact h
  refine .inl ⟨j,c,d,?_,aKO f.nd c,λx=>?_⟩;grind[wM];have i:oW S k x=S.set j (k,x):=by rw[oW,e]
  rw[i,cL];refine⟨?_,f⟩;rw[RZ,Ba,Ba];congr 1;have l:k=S[j].1:=(of_decide_eq_true g).symm;rw[l];exact(BE (λe:(Int×Int)×Int=>[Value.int .i64 e.1.1,Value.int .i64 e.1.2]) S j h).symm
def aIP{S:List ((Int×Int)×Int)}{k a:Int×Int}{x:Int}{j:Nat}(h:S.findIdx? (λe=>decide (e.1=k))=some j):(S.set j (k,x)).findIdx? (λe=>decide (e.1=a))=S.findIdx? (λe=>decide (e.1=a)):=by
 obtain⟨f,d,_⟩:=Ad.1 h;have b:∀L:List ((Int×Int)×Int),L.findIdx? (λe=>decide (e.1=a))=(L.map (·.1)).findIdx? (λc=>decide (c=a)):=λL=>by rw[List.findIdx?_map];rfl
 rw[b,b,Ba];congr 1;have:=BE (λe:(Int×Int)×Int=>e.1) S j f;simp_all
def aEO (S:List ((Int×Int)×Int)) (k a:Int×Int) (x:Int):wM (oW S k x) a=if a=k then x else wM S a:=by
 cases e:S.findIdx? (λe=>decide (e.1=k)) with
 | some j=>
  obtain⟨l,f,_⟩:=Ad.1 e;have d:oW S k x=S.set j (k,x):=by rw[oW,e]
  rw[d,wM,aIP e];by_cases b:a=k;simp_all;rw[if_neg b,wM]
  cases c:S.findIdx? (λe=>decide (e.1=a)) with
  |none=>rfl|some i=>
   obtain⟨h,g,_⟩:=Ad.1 c;grind
 | none=>
  have d:oW S k x=S++[(k,x)]:=by rw[oW,e]
  rw[d,wM,List.findIdx?_append];by_cases b:a=k;grind;rw[if_neg b,wM]
  cases c:S.findIdx? (λe=>decide (e.1=a)) with
  |none=>
   grind
  |some i=>
   obtain⟨h,_,_⟩:=Ad.1 c;grind
def TJ(k:Int×Int):∀(l:D_)(s:List ((Int×Int)×Int)×List (Int×Int)),wM (l.foldl pM s).1 k=wM s.1 k+(l.countP λx=>decide ((x.a,x.b)=k):Nat)|[],s=>by simp|x::l,s=>by rw[CW,TJ k l,List.countP_cons,pM,aEO];grind
def aBw{S:List (Int×Int)}{d x:Int}(h:(S.map (·.1)).Nodup):((nZ S d x).map (·.1)).Nodup:=by
 unfold nZ
 cases e:S.findIdx? (λe=>d==e.1) with
 |none=>
  grind
 |some j=>
  obtain⟨b,a,_⟩:=Ad.1 e;grind[List.map_set]
def JU:∀(l:D_)(s:List ((Int×Int)×Int)×List (Int×Int)),(s.2.map (·.1)).Nodup->((l.foldl pM s).2.map (·.1)).Nodup|[],_,h=>h| x::l,s,h=>by rw[CW];apply JU l _;rw[pM];dsimp only;split;exact h;split;exact aBw h;exact h
def Ka:∀(l:D_)(s:List ((Int×Int)×Int)×List (Int×Int)),(l.foldl pM s).2.length<=s.2.length+l.length
 |[],_=>by simp
 | x::l,s=>by
  rw[CW,sE];have h1:=Ka l (pM s x);have h2:(pM s x).2.length<=s.2.length+1:=by rw[pM];dsimp only;split;omega;split;exact Xt;omega
  omega
def fA(f:Int×Int):O_:=[iv f.1,iv f.2]
section
variable{T:aK}{p:Nat×Nat×Nat}{g:PGM}
def aBx(x y:Int×Int):aA PQ G qT [.ag (fA x),.ag (fA y)] [] λr T=>r=iv (wG x.1 y.1)/\T=[]:=by refine aC JE ?_;simp only[go_sem,fA];apply cX (kB x.1 y.1);simp only[go_sem]
def aGo (out:List (Int×Int)) (t:(out.map (·.1)).Nodup) (C:out.length<=1000):aA PQ G jR [.own 0,.cl qT []] [some (.arr 2 (out.map fA))] λr T=>r=.tup []/\∃s:List (Int×Int),s.Perm out/\T=[some (.arr 2 (s.map fA))]:=by
 let α:={f:Int×Int // f∈out\/(out=[]/\f=(0,0))}
 have:Inhabited α:=⟨if h:out=[] then⟨(0,0),.inr ⟨h,rfl⟩⟩ else⟨out.head h,.inl (List.head_mem h)⟩⟩
 let cf:α->α->Int:=λx y=>wG x.1.1 y.1.1;have a:∀x y:α,Go.Proofs.ltOf cf x y=decide (x.1.1<y.1.1):=by intro x y;unfold Go.Proofs.ltOf;show decide (wG x.1.1 y.1.1<0)=_;rw[decide_eq_decide];exact aCX ..
 have d:=SW (α:=α) (k:=2) (enc:=λc=>[.int .i64 c.1.1,.int .i64 c.1.2]) Go.Proofs.Tryz.laysSortF Go.Proofs.Tryz.isAgg161 Go.Proofs.Tryz.sizeOf161 (λ_=>rfl) (λx v p=>by simp at p;rcases p with rfl|rfl<;>rfl)
  (λx c q=>by simp[cellsOf]at q;rcases q with rfl|rfl<;>rfl) (cf:=cf)
  ⟨λx=>by rw[a];simp,λx y z h1 h2=>by rw[a]at *;simp at *;omega,λx y z h1 h2=>by rw[a]at *;simp at *;omega⟩
  (λx y h1 h2=>by
   rw[a]at *
   simp at h1 h2;apply Subtype.ext;rcases x.2 with n|⟨n,o⟩
   rcases y.2 with b|⟨b,l⟩
   have A:x.1.1=y.1.1:=o_;obtain⟨i,w,m⟩:=List.mem_iff_getElem.1 n;obtain⟨j,u,e⟩:=List.mem_iff_getElem.1 b;have:i=j:=(C9 (xs:=out.map (·.1)) (h₀:=by simpa using w) (h₁:=by simpa using u) t).1 (by rw[zL,zL,m,e,A]);subst this;rw[<-m,<-e];exact absurd b (List.ne_nil_of_mem n);rcases y.2 with b|⟨b,l⟩
   exact absurd n (List.ne_nil_of_mem b)
   rw[o,l]) (g:=qT) (Go.Proofs.enters_of Go.Proofs.Tryz.func171 a_ rfl) (Go.Proofs.enters_of Go.Proofs.Tryz.func170 a_ rfl) (G:=G) (λx y=>aBx x.1 y.1) (out.attach.map λx=>⟨x.1,.inl x.2⟩) (by rw[aP,List.length_attach];omega)
 have B:(out.attach.map λx=>(⟨x.1,.inl x.2⟩:α)).map (cellsOf λc:α=>[.int .i64 c.1.1,.int .i64 c.1.2])=out.map fA:=by rw[rI,show((cellsOf λc:α=>[.int .i64 c.1.1,.int .i64 c.1.2])∘λx:{x // x∈out}=>(⟨x.1,.inl x.2⟩:α))=fA∘Subtype.val from rfl,<-rI,X4]
 rw[B]at d;apply d.mono;rintro r D ⟨rfl,rfl⟩;refine⟨rfl,((out.attach.map λx=>(⟨x.1,.inl x.2⟩:α)).mergeSort λx y=>!(Go.Proofs.ltOf cf) y x).map Subtype.val,?_,?_⟩;refine((H4 _ _).map Subtype.val).trans (.of_eq ?_);rw[rI,show(Subtype.val∘λx:{x // x∈out}=>(⟨x.1,.inl x.2⟩:α))=Subtype.val from rfl,X4];rw[rI];rfl
theorem aGp(hd:AV)(l:D_)(hl:l.length<=1000):aA PQ G DQ [hd,ids l] T λr T'=>(∃M:List (Int×Int),M.Perm (mX l).2/\r=.ls 2 (M.map fA))/\T'=T:=by
 refine(aA.keepLs (q:=λk es=>k=2/\∃M:List (Int×Int),M.Perm (mX l).2/\es=M.map fA) (fT Ld ?_)).mono ?_;rotate_left;simp_all;simp only[go_sem,ids,aP,nY]
 refine kL (λn Q=>∃(i:Nat)(bs c:V_)(cl f:Nat)(Y:aK),i<=l.length/\n=l.length-i/\Bs (mX (l.take i)).1.length bs cl/\Bs (mX (l.take i)).2.length c f /\
   Q=⟨T.length,[(19,iv i),(18,iv l.length),(17,ids l),(6,.mp (T.length+1)),(5,.mp T.length)],T++some (RZ (mX (l.take i)).1 bs cl)::some (AO (mX (l.take i)).2 c f)::Y⟩) l.length ⟨0,[],[],0,0,[],pR _,rfl,⟨rfl,by simp,by simp⟩,⟨rfl,by simp,by simp⟩,rfl⟩ ?_
 rintro n Q ⟨i,bs,c,cl,f,Y,hi,ah,H,g,rfl⟩;rcases eD i l.length with s|ap;have g0:(l.map Id.A)[i]?=some l[i].A:=aO _ l i s;have P:=fQ i (by omega);have u:mX (l.take (i+1))=pM (mX (l.take i)) l[i]:=by rw[lB s,mX,Hy];rfl
 have hc:0<=wM (mX (l.take i)).1 (l[i].a,l[i].b)/\wM (mX (l.take i)).1 (l[i].a,l[i].b)<=1000:=by have h1:=TJ (l[i].a,l[i].b) (l.take i) ([],[]);have h2:=List.countP_le_length (p:=λx:Id=>decide ((x.a,x.b)=(l[i].a,l[i].b))) (l:=l.take i);rw[eC]at h2;unfold mX;rw[h1];have:wM (([]:List ((Int×Int)×Int)),([]:List (Int×Int))).1 (l[i].a,l[i].b)=0:=rfl;omega
 generalize av:mX (l.take i)=s0 at *
 obtain⟨S,L⟩:=s0;simp only at H g hc;generalize l[i]=z at *
 rw[show RZ S bs cl=AObj.map true (S.map λe=>[.int .i64 e.1.1,.int .i64 e.1.2]) (S.map λe=>iv e.2) bs cl from rfl,show AO L c f=AObj.map false (L.map λe=>iK e.1) (L.map λe=>iv e.2) c f from rfl];have wc:IntKind.i64.wrap (wM S (z.a,z.b)+1)=wM S (z.a,z.b)+1:=aJ (by omega) (by omega);rcases aBv S (z.a,z.b) H with⟨j,hj,B,D,E,o⟩|⟨B,D,o⟩
 have ao:j<(S.map λe=>iv e.2).length:=by grind
 have w:∀y:AV,((S.map λe=>iv e.2).set j y)[j]?=some y:=λy=>by rw[List.getElem?_set_self ao]
 have F:bs[j]?=some bs[j]:=jN hj;by_cases h2:wM S (z.a,z.b)+1<2;have nG:pM (S,L) z=(oW S (z.a,z.b) (wM S (z.a,z.b)+1),L):=by grind[pM]
 simp only[go_sem,ids,aT s,g0,P,B,D,E,F,w,wc,h2,decide_true,nY];exact⟨_,(by omega:l.length-(i+1)<n),i+1,_,c,_,f,_,by omega,rfl,by rw[u,nG];exact(o _).2,by rw[u,nG];exact g,by rw[u,nG,<-(o _).1];rfl⟩;have t:=KY L z.a;rw[show iK z.a=[.int .i64 z.a] from rfl]at t;rcases TF L z.a z.b g with⟨R,N,az,O,I⟩|⟨N,O,I⟩
 rw[N]at t;have hf:L.findIdx? (λe=>z.a==e.1)=some R:=by simpa using t.symm
 have gv:(L.map λe=>iv e.2)[R]?=some (iv (L.getD R (0,0)).2):=by simp_all
 have al:K9 L z=decide (z.b<(L.getD R (0,0)).2):=by rw[K9,hf]
 by_cases h3:z.b<(L.getD R (0,0)).2;have nG:pM (S,L) z=(oW S (z.a,z.b) (wM S (z.a,z.b)+1),nZ L z.a z.b):=by grind[pM]
 simp only[go_sem,ids,aT s,g0,P,B,D,E,F,w,wc,h2,h3,N,gv,decide_true,decide_false,undef,nY];exact⟨_,(by omega:l.length-(i+1)<n),i+1,_,_,_,_,_,by omega,rfl,by rw[u,nG];exact(o _).2,by rw[u,nG];exact I,by rw[u,nG,<-(o _).1,<-O]⟩;have nG:pM (S,L) z=(oW S (z.a,z.b) (wM S (z.a,z.b)+1),L):=by grind[pM,Bool.false_eq_true]
 simp only[go_sem,ids,aT s,g0,P,B,D,E,F,w,wc,h2,h3,N,gv,decide_false,undef,nY];exact⟨_,(by omega:l.length-(i+1)<n),i+1,_,c,_,f,_,by omega,rfl,by rw[u,nG];exact(o _).2,by rw[u,nG];exact g,by rw[u,nG,<-(o _).1];rfl⟩;rw[N]at t;have hf:L.findIdx? (λe=>z.a==e.1)=none:=by simpa using t.symm
 have al:K9 L z=true:=by rw[K9,hf]
 have nG:pM (S,L) z=(oW S (z.a,z.b) (wM S (z.a,z.b)+1),nZ L z.a z.b):=by grind[pM]
 simp only[go_sem,ids,aT s,g0,P,B,D,E,F,w,wc,h2,N,decide_false,undef,nY];exact⟨_,(by omega:l.length-(i+1)<n),i+1,_,_,_,_,_,by omega,rfl,by rw[u,nG];exact(o _).2,by rw[u,nG];exact I,by rw[u,nG,<-(o _).1,<-O]⟩;have aq:=MV H.lt;have ae:=λy:AV=>JM (x:=AV.v (.int .i64 0)) (y:=y) (show(S.map λe=>iv e.2).length=bs.length by rw[aP,H.len]);have am:eR [.int .i64,.int .i64] [.int .i64 z.a,.int .i64 z.b] ((S.map λe=>[.int .i64 e.1.1,.int .i64 e.1.2])++[[.int .i64 z.a,.int .i64 z.b]]) 0=some (some S.length):=by have h1:=D9 (z.a,z.b) (S++[((z.a,z.b),1)]) 0;have h2:=D9 (z.a,z.b) S 0;grind
 have w:∀y:AV,((S.map λe=>iv e.2)++[y])[S.length]?=some y:=λy=>by simp
 have w1:IntKind.i64.wrap (0+1)=1:=by decide
 have nG:pM (S,L) z=(oW S (z.a,z.b) 1,L):=by grind[pM]
 simp only[go_sem,ids,aT s,g0,P,B,aq,ae,am,w,nY];exact⟨_,(by omega:l.length-(i+1)<n),i+1,_,c,_,f,_,by omega,rfl,by rw[u,nG];exact(o 1).2,by rw[u,nG];exact g,by rw[u,nG,<-(o 1).1];rfl⟩
 ·obtain rfl:i=l.length:=by omega
  rw[dE]at H g⊢;have K:=Ka l ([],[]);have J:=JU l ([],[]) (by simp);rw[show l.foldl pM ([],[])=mX l from rfl]at K J;simp only[gQ,pQ]at K;generalize mX l=s0 at *
  obtain⟨S,L⟩:=s0;simp only at H g K J;rw[show AO L c f=AObj.map false (L.map λe=>iK e.1) (L.map λe=>iv e.2) c f from rfl];simp only[go_sem,aS (bP _),nY]
  refine kL (λn Q=>∃(d:V_)(out:List (Int×Int)),d.Nodup/\(∀b∈d,b∈c)/\n=c.length-d.length/\out.Perm (((L.zip c).filter λq=>decide (q.2∈d)).map (·.1)) /\
   ∃(Z:aK)(k m:Nat),Z[1]?=some (some (AObj.map false (L.map λe=>iK e.1) (L.map λe=>iv e.2) c f))/\Z[k]?=some (some (.arr 2 (out.map fA)))/\Z[m]?=some (some (.mit (some (T.length+1)) f d f)) /\
    ∃Sl,(Sl=[(60,.ptr (T.length+m) 0),(12,.own (T.length+k))]\/Sl=[(12,.own (T.length+k)),(60,.ptr (T.length+m) 0)])/\Q=⟨T.length,Sl,T++Z⟩) c.length
   ⟨[],[],by simp,by simp,rfl,by simp,_,Y.length+2,Y.length+3,rfl,by rw[oX,oX,aD];rfl,by rw[oX,oX,aR],_,.inl rfl,rfl⟩ ?_
  clear H ah ap hi;rintro n Q ⟨d,out,ai,U,hn,hJ,Z,k,m,z1,zk,zm,Sl,au,rfl⟩;rcases au with rfl|rfl
  all_goals (
   simp only[go_sem]
   refine VD (i:=T.length+m) (j:=T.length+1) (kU (by rw[aZ];exact zm)) (kU (by rw[aZ];exact z1)) (cN _) g.lt (by simp[g.len]) (by simp[g.len]) (λaa=>?_) λe O V=>?_
   have cE:out.Perm L:=by
    refine hJ.trans (.of_eq ?_);have e1:(L.zip c).map (·.1)=L:=by rw[List.map_fst_zip];have:=g.len;omega
    conv=>rhs;rw[<-e1]
    refine congrArg _ (Gm.2 λq hq=>?_);have:q.2∈d:=aa _ (List.of_mem_zip (show(q.1,q.2)∈L.zip c from hq)).2;simp[this]
   simp only[go_sem]
   refine aG [T.length+k] (aB _) (by simp) (by simpa using dB zk) (by simp only[xF,Bd,Zg]) (Zh (by rw[aZ];exact zk)) (aGo out ((cE.map _).nodup_iff.2 J) (by rw[cE.length_eq];omega)) ?_
   rintro r T' ⟨rfl,M,t,rfl⟩
   simp only[go_sem,IF,DC,cP]
   exact⟨aH,_,2,_,rfl,by omega,by rw[aZ];exact dS zk,rfl,M,t.trans cE,rfl⟩
   have ba:e<L.length:=by have:=g.len;omega
   have ar:=VE g.nd O
   have gk:(L.map λe=>iK e.1)[e]?=some (iK L[e].1):=by simp_all
   have gv:(L.map λe=>iv e.2)[e]?=some (iv L[e].2):=by simp_all
   have ak:m≠k:=by grind
   have ax:m≠1:=by grind
   have an:k≠1:=by grind
   have y1:(Z.set m (some (.mit (some (T.length+1)) f (d++[c[e]]) f)))[1]?=some (some (AObj.map false (L.map λe=>iK e.1) (L.map λe=>iv e.2) c f)):=by simp_all
   have yk:(Z.set m (some (.mit (some (T.length+1)) f (d++[c[e]]) f)))[k]?=some (some (.arr 2 (out.map fA))):=by simp_all
   have ym:(Z.set m (some (.mit (some (T.length+1)) f (d++[c[e]]) f)))[m]?=some (some (.mit (some (T.length+1)) f (d++[c[e]]) f)):=dS zm
   generalize hY:Z.set m (some (.mit (some (T.length+1)) f (d++[c[e]]) f))=W at y1 yk ym
   have ol:out.length+1<=maxLen/\(out.length+1)*16<=140737488355328:=by have h1:=hJ.length_eq;rw[aP]at h1;have h2:=List.length_filter_le (λq:(Int×Int)×Nat=>decide (q.2∈d)) (L.zip c);rw[List.length_zip]at h2;unfold maxLen;omega
   have ab:=λX:aK=>aF (X:=X) yk
   simp only[go_sem,aZ,cP,hY,ym,y1,Ke,ar,gk,gv,iY,ab,aP,ol.1,ol.2,nY]
   have C:(d++[c[e]]).Nodup/\(∀b∈d++[c[e]],b∈c)/\c.length-(d++[c[e]]).length<n:=by
    have aj:(d++[c[e]]).Nodup:=vQ.2 ⟨ai,by simp,λx hx y hy e'=>V (by rw[cA]at hy;rw[<-hy,<-e'];exact hx)⟩;have C:∀b∈d++[c[e]],b∈c:=λb H=>(cG.1 H).elim (U b) λh=>by rw[cA.1 h];exact eQ O
    have ay:=List.Nodup.length_le_of_subset aj C;simp_all;omega
   have af:(out++[L[e]]).Perm (((L.zip c).filter λq=>decide (q.2∈d++[c[e]])).map (·.1)):=by
    have ac:(L[e],c[e])∈L.zip c:=by grind[List.mem_iff_getElem,List.length_zip]
    have ad:(L.zip c).map (·.2)=c:=by rw[List.map_snd_zip];have:=g.len;omega
    have:=(D8 (by rw[ad];exact g.nd) ac V).map (·.1);grind
   have aw:=dB ym
   refine⟨_,C.2.2,_,out++[L[e]],C.1,C.2.1,rfl,af,_,W.length+1,m,?_,?_,?_,_,.inr rfl,rfl⟩
   refine aF ?_
   rw[aY an]
   exact aF y1
   rw[bZ]
   exact TB (by simp only[cL,dZ,sE,gQ])
   refine aF ?_
   rw[aY (Ne.symm ak)]
   exact aF ym)
def aIQ(x:AV)(l:D_)(w:l.length<=1000):aA PQ G Bh [x,ids l] T λr u=>(∃a:List (Int×Int),a.Perm (mX l).2/\r=ids (sQ (a.flatMap λf=>sQ (PN l f.1 f.2 4611686018427387904))))/\u=T:=by
 refine(aA.keepLs (q:=λk L=>k=3/\∃a:List (Int×Int),a.Perm (mX l).2/\L=(sQ (a.flatMap λf=>sQ (PN l f.1 f.2 4611686018427387904))).map Id.A) (fT Oc ?_)).mono ?_;rotate_left;simp_all;simp only[go_sem,nY];apply jA (aGp x l w);rintro y u ⟨⟨a,h,rfl⟩,M⟩;obtain rfl:=M.symm;simp only[go_sem,aP];have E:a.length<=1000:=by rw[h.length_eq];have:=Ka l ([],[]);rw[show l.foldl pM ([],[])=mX l from rfl]at this;simp_all;omega
 have b:∀f:Int×Int,(sQ (PN l f.1 f.2 4611686018427387904)).length<=1000:=λf=>by grind[W9,PN]
 generalize I:(λf:Int×Int=>sQ (PN l f.1 f.2 4611686018427387904))=F at *
 have j:∀f:Int×Int,sQ (PN l f.1 f.2 4611686018427387904)=F f:=λf=>by rw[<-I]
 simp only[j]at b;have t:∀a:List (Int×Int),(a.flatMap F).length<=a.length*1000:=by
  intro a
  induction a with
  |nil=>simp|cons f a ih=>
   grind
 refine kL (λn v=>∃i,i<=a.length/\n=a.length-i/\∃(X:aK)(k:Nat),X[k]?=some (some (.arr 3 (((a.take i).flatMap F).map Id.A))) /\
  ∃S,(S=[(12,iv i),(11,iv a.length),(10,.ls 2 (a.map fA)),(5,.own (T.length+k)),(1,ids l)]\/S=[(12,iv i),(5,.own (T.length+k)),(11,iv a.length),(10,.ls 2 (a.map fA)),(1,ids l)])/\v=⟨T.length,S,T++X⟩) a.length ⟨0,pR _,rfl,_,0,rfl,_,.inl rfl,rfl⟩ ?_
 rintro n v ⟨i,N,C,X,k,m,S,z,rfl⟩;rcases eD i a.length with c|D;rotate_left
 ·obtain rfl:i=a.length:=o_;rw[dE]at m;have e:(a.flatMap F).length<2^62:=by have:=t a;omega
  have d:=G5 (G:=G) (T:=T++X) (k:=T.length+k) (by rw[aZ];exact m) e;rcases z with rfl|rfl
  all_goals (
   simp only[go_sem,aS (bP _)]
   apply jA d
   rintro r u ⟨rfl,rfl⟩
   simp only[go_sem,cP]
   exact⟨aH,_,3,_,rfl,o_,by rw[aZ];exact dS m,rfl,a,h,rfl⟩)
 have B:=fQ i o_;have J:(a.map fA)[i]?=some [iv a[i].1,iv a[i].2]:=by rw[gE,jN c];rfl
 have K:(a.take (i+1)).flatMap F=(a.take i).flatMap F++F a[i]:=by rw[lB c,List.flatMap_append];simp
 have e:((a.take i).flatMap F).length<=1000000:=m_;have g:=λX:aK=>aBu (G:=G) (T:=X) l w a[i].1 a[i].2 4611686018427387904;rw[j]at g;have H:=b a[i];generalize(a.take i).flatMap F=out at *
 have o:=λY:aK=>aF (X:=Y) m;have s:out.length+(F a[i]).length<=maxLen:=g_;have p:(out.length+(F a[i]).length)*24<=140737488355328:=o_;rcases z with rfl|rfl
 all_goals (
  simp only[go_sem,aT c,J,nY]
  apply cI (g _)
  simp only[go_sem,ids,aP,B,o,s,p,nY]
  refine⟨a.length-(i+1),o_,i+1,o_,rfl,_,X.length+1,?_,_,.inr rfl,rfl⟩
  rw[K,bZ]
  exact TB kv)
end
def Kb(l:D_)(d s:Int):Prop:=2<=l.countP λx=>decide ((x.a,x.b)=(d,s))
def aIR{L:List (Int×Int)}(h:(L.map (·.1)).Nodup){d s s':Int}(h1:(d,s)∈L)(h2:(d,s')∈L):s=s':=by obtain⟨i,b,e⟩:=List.mem_iff_getElem.1 h1;obtain⟨j,a,c⟩:=List.mem_iff_getElem.1 h2;have:i=j:=(C9 (xs:=L.map (·.1)) (h₀:=R_) (h₁:=M_) h).1 (by rw[zL,zL,e,c]);simp_all
def EA{L:List (Int×Int)}(h:(L.map (·.1)).Nodup){a s0 d s:Int}:(d,s)∈nZ L a s0↔(d=a/\s=s0)\/(d≠a/\(d,s)∈L):=by
 unfold nZ
 cases e:L.findIdx? (λe=>a==e.1) with
 |none=>
  grind
 | some j=>
  obtain⟨k,c,_⟩:=Ad.1 e;have n:a=L[j].1:=oy;show(d,s)∈L.set j (a,s0)↔_;rw[List.mem_iff_getElem?];constructor;rintro⟨i,b⟩;rw[Hx]at b;split at b;simp_all;rename_i f;have m:=Kd b;refine .inr ⟨λe=>f ?_,m⟩;obtain⟨g,l⟩:=sV.1 b;exact((C9 (xs:=L.map (·.1)) (h₀:=kp) (h₁:=by simpa using k) h).1 (by rw[zL,zL,l,<-n,e])).symm;rintro(⟨rfl,rfl⟩|⟨h1,h2⟩);exact⟨j,by rw[Hx,if_pos rfl,if_pos k]⟩;obtain⟨i,b,l⟩:=List.mem_iff_getElem.1 h2;refine⟨i,?_⟩;grind
def Ra{L:List (Int×Int)}(h:(L.map (·.1)).Nodup)(x:Id):K9 L x=true↔∀s,(x.a,s)∈L->x.b<s:=by
 unfold K9
 cases e:L.findIdx? (λe=>x.a==e.1) with
 |none=>
  grind
 |some j=>
  obtain⟨i,c,_⟩:=Ad.1 e;have k:x.a=L[j].1:=oy;have d:(x.a,L[j].2)∈L:=m_;have g:(L.getD j (0,0)).2=L[j].2:=u_;simp only[g,decide_eq_true_iff];exact⟨λh1 s f=>by rw[aIR h f d];exact h1,λh1=>h1 _ d⟩
def Rb:∀(n:Nat)(l:D_),l.length=n->(∀d s,(d,s)∈(mX l).2->Kb l d s)/\∀d s,Kb l d s->∃f,f<=s/\(d,f)∈(mX l).2
 |0,l,h=>by
  grind[mX,Kb]
 | n+1,l,h=>by
  obtain⟨c,x,rfl⟩:∃c x,l=c++[x]:=⟨l.dropLast,l.getLast (by rintro rfl;simp at h),(List.dropLast_concat_getLast _).symm⟩
  have h0:c.length=n:=y_;obtain⟨v,u⟩:=Rb n c h0;have e:=JU c ([],[]) s_;have w:=TJ (x.a,x.b) c ([],[]);rw[show c.foldl pM ([],[])=mX c from rfl]at e w;have r:wM (([]:List ((Int×Int)×Int)),([]:List (Int×Int))).1 (x.a,x.b)=0:=rfl;rw[r,Int.zero_add]at w;have E:mX (c++[x])=pM (mX c) x:=by rw[mX,Hy];rfl
  have C:∀d s,(c++[x]).countP (λx=>decide ((x.a,x.b)=(d,s)))=c.countP (λx=>decide ((x.a,x.b)=(d,s)))+if(x.a,x.b)=(d,s) then 1 else 0:=λd s=>s_
  have j:∀d s,¬(x.a,x.b)=(d,s)->(Kb (c++[x]) d s↔Kb c d s):=λd s B=>by simp_all[Kb,mG]
  have g:∀d s,Kb c d s->Kb (c++[x]) d s:=λd s m=>by grind[Kb]
  have q:Kb (c++[x]) x.a x.b↔¬wM (mX c).1 (x.a,x.b)+1<2:=by grind[Kb]
  rw[E,pM];generalize mX c=z at *
  obtain⟨S,L⟩:=z;dsimp only at *
  by_cases h2:wM S (x.a,x.b)+1<2;grind;rw [if_neg h2];by_cases h3:K9 L x=true;rw[if_pos h3];have D:=(Ra e x).1 h3;refine⟨λd s p=>?_,λd s m=>?_⟩;rcases(EA e).1 p with⟨rfl,rfl⟩|⟨_,t⟩
  exact q.2 h2;exact g _ _ (v d s t);by_cases i:(x.a,x.b)=(d,s)
  obtain⟨rfl,rfl⟩:=Prod.mk.inj i;exact⟨x.b,Int.le_refl _,(EA e).2 (.inl ⟨rfl,rfl⟩)⟩;obtain⟨f,t,y⟩:=u d s ((j d s i).1 m);by_cases k:d=x.a;subst k;have:=D f y;exact⟨x.b,o_,(EA e).2 (.inl ⟨rfl,rfl⟩)⟩;exact⟨f,t,(EA e).2 (.inr ⟨k,y⟩)⟩;rw[if_neg h3];refine⟨λd s p=>g _ _ (v d s p),λd s m=>?_⟩;by_cases i:(x.a,x.b)=(d,s)
  obtain⟨rfl,rfl⟩:=Prod.mk.inj i;rw[Ra e]at h3;apply QB;intro o;refine h3 λs A=>?_;apply QB;intro F;exact o ⟨s,o_,A⟩;exact u d s ((j d s i).1 m)
def Vi{l:D_}(p:l.Nodup){d s:Int}:Kb l d s↔∃y∈l,∃z∈l,y≠z/\(y.a,y.b)=(d,s)/\(z.a,z.b)=(d,s):=by
 unfold Kb;rw[List.countP_eq_length_filter];have f:(l.filter λx=>decide ((x.a,x.b)=(d,s))).Nodup:=p.sublist List.filter_sublist;constructor;intro h;have j:(l.filter λx=>decide ((x.a,x.b)=(d,s)))[0]∈l.filter λx=>decide ((x.a,x.b)=(d,s)):=eQ _;have i:(l.filter λx=>decide ((x.a,x.b)=(d,s)))[1]∈l.filter λx=>decide ((x.a,x.b)=(d,s)):=eQ _;refine⟨_,(gR.1 j).1,_,(gR.1 i).1,λe=>?_,of_decide_eq_true (gR.1 j).2,of_decide_eq_true (gR.1 i).2⟩;have:=(C9 (h₀:=o_) (h₁:=o_) f).1 e;omega;rintro⟨y,o,z,n,g,h1,h2⟩;have m:y∈l.filter λx=>decide ((x.a,x.b)=(d,s)):=gR.2 ⟨o,decide_eq_true h1⟩;have k:z∈l.filter λx=>decide ((x.a,x.b)=(d,s)):=gR.2 ⟨n,decide_eq_true h2⟩;have h3:[y,z].Nodup:=by simp[g]
 exact List.Nodup.length_le_of_subset h3 (λw c=>by
  rcases cS.1 c with rfl|c;exact m
  rw[cA.1 c];exact k)
def aBy{l:D_}(g:l.Nodup)(x:Id):B8 l x=true↔∃s,(x.a,s)∈(mX l).2/\s<=x.b:=by
 obtain⟨m,k⟩:=Rb _ l rfl;have n:B8 l x=true↔∃y∈l,∃z∈l,y≠z/\y.a=x.a/\z.a=x.a/\y.b=z.b/\y.b<=x.b:=by unfold B8;simp only[CX,zJ,EX,decide_eq_false_iff_not,beq_iff_eq,decide_eq_true_iff]
 rw[n];constructor;rintro⟨y,e,z,d,c,h1,h2,h3,i⟩;obtain⟨j,h,f⟩:=k x.a y.b ((Vi g).2 ⟨y,e,z,d,c,by rw[h1],by rw[h2,h3]⟩);exact⟨j,f,o_⟩;rintro⟨s,h1,h2⟩;obtain⟨y,e,z,d,c,h3,i⟩:=(Vi g).1 (m _ _ h1);obtain⟨h,f⟩:=Prod.mk.inj h3;obtain⟨p,o⟩:=Prod.mk.inj i;exact⟨y,e,z,d,c,h,p,by rw[f,o],o_⟩
def Zi{l:D_}(i:l.Nodup)(F:Int×Int->D_)(c:∀f,(F f).Perm (PN l f.1 f.2 4611686018427387904)):∀d:List (Int×Int),(d.map (·.1)).Nodup->(d.flatMap F).Nodup|[],_=>by simp|f::d,h=>by rw[fG,BU]at h;rw[List.flatMap_cons,vQ];refine⟨(c f).nodup_iff.2 (i.sublist List.filter_sublist),Zi i F c d h.2,λa m b k e=>?_⟩;subst e;obtain⟨n,j,g⟩:=H7.1 k;have h1:=(gR.1 ((c f).mem_iff.1 m)).2;have h2:=(gR.1 ((c n).mem_iff.1 g)).2;simp_all
def aEP(G:L_):TI G:=by
 intro T p g l h u j q;have k:l.length<=1000:=by have:=List.Nodup.length_le_of_subset j q;have h2:=u.ok.n;grind[PGM.I,List.length_map]
 refine(aIQ (.ptr p.1 0) l k).mono ?_;rintro r z ⟨⟨e,c,rfl⟩,rfl⟩;have o:∀f:Int×Int,(sQ (PN l f.1 f.2 4611686018427387904)).Perm (PN l f.1 f.2 4611686018427387904):=λf=>H4 _ _;have m:(e.map (·.1)).Nodup:=(c.map _).nodup_iff.2 (JU l ([],[]) s_);have t:(sQ (e.flatMap λf=>sQ (PN l f.1 f.2 4611686018427387904))).Perm (e.flatMap λf=>sQ (PN l f.1 f.2 4611686018427387904)):=H4 _ _;refine⟨⟨_,λx=>?_,t.nodup_iff.2 (Zi j _ o e m),rfl⟩,rfl⟩;rw[t.mem_iff,H7,aBy j];constructor;rintro⟨f,y,d⟩;have h1:=gR.1 ((o f).mem_iff.1 d);grind;rintro⟨d,s,h1,h2⟩;refine⟨(x.a,s),c.mem_iff.2 h1,(o _).mem_iff.2 (gR.2 ⟨d,?_⟩)⟩;have v:x.b<=2^62:=by obtain⟨w,i,rfl⟩:=dF.1 (q x d);exact u.idb _ i
 simp_all
def LA{g:PGM}{V W:D_}(h:∀x,x∈V↔x∈W)(row:D_):mW g V row=mW g W row:=by unfold mW;congr 1;grind[iS]
theorem BR{V:D_}{x y:Id}:x∈AQ V y↔x∈V\/x=y:=by grind[AQ]
def PK{V W:D_}(h:∀x,x∈V↔x∈W)(y:Id):∀x,x∈AQ V y↔x∈AQ W y:=λx=>by rw[BR,BR,h]
def Fs{p:Id->Bool}:∀(row V W:D_),(∀x,x∈V↔x∈W)->∀x,x∈row.foldl (λV y=>if p y=true then AQ V y else V) V↔x∈row.foldl (λV y=>if p y=true then AQ V y else V) W|[],_,_,h=>h|y::row,V,W,h=>by rw[CW,CW];apply Fs row _ _;split;exact PK h y;exact h
def Ft{g:PGM}{row:D_}{S:List (Int×Int)}:∀(n:Nat)(V W left:D_),(∀x,x∈V↔x∈W)->∀x,x∈uL g row S n V left↔x∈uL g row S n W left
 |0,_,_,_,h=>h
 | n+1,V,W,left,h=>by
  have a:left.filter (λx=>!decide (x∈V))=left.filter λx=>!decide (x∈W):=List.filter_congr λx _=>by simp only[h]
  rw[uL,uL,a,LA h];dsimp only;split;exact h;split;exact Ft n _ _ _ (Fs (p:=λy=>lA g _ y||(decide (y∈_)&&B7 g row _ y)) row V W h);exact Ft n _ _ _ (PK h _)
def Xw{g:PGM}{row V W:D_}(h:∀x,x∈V↔x∈W):∀x,x∈sU g row V↔x∈sU g row W:=Ft _ _ _ _ h
def zH(l:D_):D_:=l.filter (B8 l)
def kW(g:PGM)(l:D_):D_:=mW g (sU g (eO g l) (zH l)) (eO g l)
def Rc{l V:D_}(h:∀x,x∈V↔x∈l/\B8 l x=true):∀x,x∈V↔x∈zH l:=λx=>by rw[h,zH,gR]
def PL{g:PGM}{l V:D_}(h:∀x,x∈V↔x∈l/\B8 l x=true):mW g (sU g (eO g l) V) (eO g l)=kW g l:=LA (Xw (Rc h)) _
def aGq{g:PGM}{l V:D_}(h:∀x,x∈V↔x∈l/\B8 l x=true)(x:Id):Gk g l V x=Gk g l (zH l) x:=by unfold Gk;rw[PL h];have h1:mW g (sU g (eO g l) (zH l)) (eO g l)=kW g l:=rfl;rw[h1];simp only[Rc h]
section
variable{T:aK}{p:Nat×Nat×Nat}{g:PGM}
def Vj(j:AK G)(h:GAt T p g)(f:GGood g){l:D_}(c:∀x∈l,x∈g.I)(e:l.Nodup):
 aA PQ G pN [.ptr p.1 0,ids l] T λr a=>r=ids (kW g l)/\a=T :=
 (aEN j (aEP G) h f c e).mono λr a ⟨⟨V,i,d⟩,b⟩=>⟨by rw[d,PL i],b⟩
def aHg(j:AK G)(h:GAt T p g)(f:GGood g){l:D_}(c:∀x∈l,x∈g.I)(e:l.Nodup)(x:Id):
 aA PQ G wB [.ptr p.1 0,ids l,.ag x.A] T λr a=>r=iv (Gk g l (zH l) x)/\a=T :=
 (aKN j (aEP G) h f c e x).mono λr a ⟨⟨V,i,d⟩,b⟩=>⟨by rw[d,aGq i],b⟩
end
end Hud
