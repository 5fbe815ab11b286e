import Derived.Test.YtlhonkjgkfdnmaaGreatDoorLib36
set_option linter.all false
set_option maxHeartbeats 40000000
namespace Hud
open Go
variable{G:L_}
section
variable{T:aK}
def aEF(f:Nat)(cs:O_)(m:Id->Bool)(l:D_)(n:l.length<2^63-1)(h:∀x∈l,aA PQ G f (.ag x.A::cs) T λr d=>r=.v (.bool (m x))/\d=T):
 aA PQ G bB [ids l,.cl f cs] T λr d=>r=iv (qX m l)/\d=T:=by
 apply eH cJ;simp only[go_sem,aP,ids];refine O7 l.length (λi=>⟨T.length,[(8,iv i),(7,iv l.length),(0,ids l),(1,.cl f cs)],T⟩) (λi=>∀j(a:j<l.length),j<i->m l[j]=false) ?_ W_ ?_ ?_;rfl;intro i b c;have k:(l.map Id.A)[i]?=some l[i].A:=aO _ l i b;have e:=h _ (eQ b);rw[Id.A_def]at e;simp only[go_sem,aT b,k,ids,Id.A_def];apply cI e
 cases g:m l[i]with
 |false=>
  simp only[go_sem,fQ i o_];grind
 |true=>
  simp only[go_sem];rw[mC b c g];simp
 intro c;simp only[go_sem,aS (bP _)];rw[lD λj a=>c j a a];simp
def Vc(f:Nat)(cs:O_)(m:Id->Bool)(l:D_)(b:l.length<2^63-1)(h:∀x∈l,aA PQ G f (.ag x.A::cs) T λr a=>r=.v (.bool (m x))/\a=T):
 aA PQ G bD [ids l,.cl f cs] T λr a=>r=.v (.bool (l.any m))/\a=T:=by
 apply eH gK;simp only[go_sem];apply cI (aEF f cs m l b h);simp only[go_sem,ge_iff_le,mN];simp
end
def B7(g:PGM)(row:D_)(x y:Id):Bool:=!decide (x=y)&&row.any λz=>(decide (z=x)||oH g z x)&&lA g y z
section
variable{T:aK}{p:Nat×Nat×Nat}{g:PGM}{l v f:Nat}{row V F:D_}
def aEG(h:GAt T p g)(b:g.ok)(j:LAt T l v f p row V F){bx bl by':Nat}{x y:Id}(h1:T[bx]?=some (some (.box x.A)))(h2:T[bl]?=some (some (.box [.ptr l 0])))(h3:T[by']?=some (some (.box y.A)))(z:Id):
 aA PQ G nD [.ag z.A,.ptr bx 0,.ptr bl 0,.ptr by' 0] T λr k=>r=.v (.bool ((decide (z=x)||oH g z x)&&lA g y z))/\k=T:=by
 apply eH D1;have e:=λX:aK=>aF (X:=X) h1;have d:=λX:aK=>aF (X:=X) h2;have c:=λX:aK=>aF (X:=X) h3;have i:=λX:aK=>aF (X:=X) j.box;have a:=Id.beq z x;rw[Id.A_def]at e c;cases c1:decide (z=x);simp only[go_sem,i,e,d,aD,a,c1,Id.A_def];apply cI (JO h.app b z x);cases c2:oH g z x;simp only[go_sem,aH,undef,Bool.or_self,lR];simp only[go_sem,i,d,c,aD];apply cI (GQ h.app b y z);simp only[go_sem,aH,Ed,mF];simp only[go_sem,i,e,d,c,aD,a,c1,Id.A_def,undef];apply cI (GQ h.app b y z);simp only[go_sem,aH,EI]
def Zd(h:GAt T p g)(d:g.ok)(b:LAt T l v f p row V F)(j:row.length<=1000)(x y:Id):
 aA PQ G qF [.ptr l 0,.ag x.A,.ag y.A] T λr i=>r=.v (.bool (B7 g row x y))/\i=T:=by
 apply eH Fc;have e:=λX:aK=>aF (X:=X) b.box;have a:=Id.beq x y;unfold B7;cases c1:decide (x=y);simp only[go_sem,e,aD,aR,dH,a,c1,Id.A_def,eB,jC,dM]
 have c:=Vc (G:=G) nD [.ptr (T.length+1) 0,.ptr T.length 0,.ptr (T.length+2) 0] (λz=>(decide (z=x)||oH g z x)&&lA g y z) row o_ λz _=>
  aEG (T:=T++[some (.box [.ptr l 0]),some (.box x.A),some (.box y.A)]) h.app d b.app (bx:=T.length+1) (bl:=T.length) (by':=T.length+2) aR aD dH z
 simp only[Id.A_def]at c;apply cI c;simp only[go_sem,aH];simp only[go_sem,aR,dH,a,c1,Id.A_def,eB,jC,dM,undef,aH]
end
def AO(S:List (Int×Int))(bs:V_)(cl:Nat):AObj:=.map false (S.map λe=>iK e.1) (S.map λe=>iv e.2) bs cl
def aBo(S:List (Int×Int))(d:Int):Int:=match S.findIdx? (λe=>d==e.1) with|some j=>(S.getD j (0,0)).2|none=>0
def KY(S:List (Int×Int))(d:Int):eR [.int .i64] (iK d) (S.map λe=>iK e.1) 0=some (S.findIdx? λe=>d==e.1):=by have:=iW d (S.map (·.1)) 0;simp_all[rI,List.findIdx?_map,Function.comp_def]
def RW(S:List (Int×Int))(d:Int):(eR [.int .i64] (iK d) (S.map λe=>iK e.1) 0=some none/\aBo S d=0)\/(∃j,eR [.int .i64] (iK d) (S.map λe=>iK e.1) 0=some (some j)/\(S.map λe=>iv e.2)[j]?=some (iv (aBo S d))):=by
 rw[KY]
 cases e:S.findIdx? (λe=>d==e.1) with
 |none=>exact .inl ⟨rfl,by rw[aBo,e]⟩|some j=>
  obtain⟨a,_⟩:=Ad.1 e;grind[aBo]
def AP(g:PGM)(row:D_)(S:List (Int×Int))(c:D_):D_->Nat->Int->Int|[],_,b=>b|x::r,i,b=>if c.any (λy=>B7 g row x y)=true then AP g row S c r (i+1) (if b<0\/aBo S x.a<aBo S (c.getD b.toNat default).a then i else b) else i
def yY(g:PGM)(row:D_)(S:List (Int×Int))(a:D_):Int:=AP g row S a a 0 (-1)
section
variable{T:aK}{p:Nat×Nat×Nat}{g:PGM}{l v f:Nat}{row V F:D_}
def aGl (h:GAt T p g) (hg:g.ok) (hl:LAt T l v f p row V F) (hr:row.length<=1000) {k n:Nat} {L:D_} {sl:AV} (hk:T[k]?=some (some (.arr 3 (L.map Id.A)))) (hn:n<=L.length) (ae:n<=1000) (b:sl=.vw k 3 0 n\/(sl=.own k/\n=L.length))
    {q:Nat} {S:List (Int×Int)} {bs:V_} {cl:Nat} (s:T[q]?=some (some (AO S bs cl))):
    aA PQ G uY [.ptr l 0,sl,.mp q] T λr T'=>r=iv (yY g row S (L.take n))/\T'=T:=by
  apply eH Fb;have a0:=λX:aK=>aF (X:=X) hl.box;have ak:=λX:aK=>aF (X:=X) hk;have aq:=λX:aK=>aF (X:=X) s;unfold AO at aq;have N:∀i(hi:i<n),(L.take n)[i]'s6=L[i]:=λi hi=>List.getElem_take;have w:(L.take n).length=n:=h_;have K:(sl=.vw k 3 0 n/\0+n=n)\/(sl=.own k/\L.length=n):=b.imp (λh=>⟨h,pQ n⟩) (λh=>⟨h.1,h.2.symm⟩);clear b;rcases K with⟨b,z⟩|⟨b,z⟩
  all_goals (
    simp only[go_sem,b,hk,z,aP]
    refine kL (λm E=>∃i,i<=n/\m=n-i/\∃(d:Int)(X:aK),(d<0\/d.toNat<n)/\AP g row S (L.take n) ((L.take n).drop i) i d=yY g row S (L.take n) /\
      ∃O,(O=[(14,iv i),(13,iv n),(12,sl),(7,iv d),(0,.ptr l 0),(1,sl),(2,.mp q)]\/O=[(14,iv i),(7,iv d),(13,iv n),(12,sl),(0,.ptr l 0),(1,sl),(2,.mp q)])/\E=⟨T.length,O,T++X⟩) n ⟨0,pR _,rfl,-1,[],.inl d_,rfl,_,.inl rfl,by rw[jO,b];rfl⟩ ?_
    rintro m E ⟨i,hi,hm,d,X,hb,c,O,u,rfl⟩
    rcases eD i n with t|ah
    rotate_left
    · obtain rfl:i=n:=by omega
      rw[LB (by rw[w];exact cN _)]at c
      rcases u with u|u
      all_goals simp only[go_sem,u,aS (bP _),aH]
      all_goals rw[<-c];rfl
    have P:=fQ i o_
    have Z:i<L.length:=o_
    have g0:(L.map Id.A)[i]?=some L[i].A:=aO _ L i Z
    have hd:(L.take n).drop i=L[i]::(L.take n).drop (i+1):=by rw[Kc (by rw[w];exact t),N i t]
    rw[hd]at c
    have J:=λ(X:aK) y=>Zd (G:=G) (h.app (X:=X)) hg hl.app hr L[i] y
    simp only[Id.A_def]at J
    rcases u with u|u
    all_goals (
      simp only[go_sem,u,b,aT t,t,z,g0,aZ,cP,fF,iR,sW,ak,Id.A_def,eB,jC,dM,Nat.reduceAdd,aP]
      refine kL (λm2 E=>∃j,j<=n/\m2=n-j/\∃Y:aK,(∀C(W:C<n),C<j->B7 g row L[i] L[C]=false) /\
        E=⟨T.length,(21,iv j)::(20,iv n)::(19,sl)::(8,iv i)::(9,.ptr (T.length+X.length) 0)::O,T++(X++some (.box L[i].A)::Y)⟩) n ⟨0,pR _,rfl,[],λC _ W=>absurd W o_,by rw[u,b];rfl⟩ ?_
      rintro m2 E ⟨j,W,af,Y,hJ,rfl⟩
      rcases eD j n with o|ad
      rotate_left
      · obtain rfl:j=n:=by omega
        have R:(L.take j).any (λy=>B7 g row L[i] y)=false:=by rw[List.any_eq_false];intro y hy;obtain⟨C,M,rfl⟩:=List.mem_iff_getElem.1 hy;grind
        simp only[go_sem,u,aS (bP _),aH]
        rw[<-c,AP,R,if_neg d_]
      have Q:=fQ j o_
      have U:j<L.length:=o_
      have gj:(L.map Id.A)[j]?=some L[j].A:=aO _ L j U
      simp only[go_sem,u,b,aT o,o,z,gj,aZ,cP,fF,iR,oX,sW,yG,ak,Id.A_def,eB,jC,dM,Nat.reduceAdd,aP]
      apply cI (J _ L[j])
      cases I:B7 g row L[i] L[j]
      · simp only[go_sem,Q]
        refine⟨n-(j+1),o_,j+1,o_,rfl,_,λC M ac=>?_,by rw[u,b];rfl⟩
        rcases eD C j with h1|h1
        · exact hJ C M h1
        · obtain rfl:C=j:=by omega
          exact I
      · have H:(L.take n).any (λy=>B7 g row L[i] y)=true:=CX.2 ⟨L[j],List.mem_iff_getElem.2 ⟨j,by rw[w];exact o,N j o⟩,I⟩
        rw[AP,H,if_pos rfl]at c
        simp only[go_sem]
        refine aL (λe=>?_) (λe=>?_)
        rotate_left
        · have e:d<0:=by simpa using e
          rw[if_pos (.inl e)]at c
          simp only[go_sem,decide_eq_true e,undef,P]
          exact⟨n-(i+1),o_,i+1,o_,rfl,_,_,.inr (by rw[nI];exact t),c,_,.inr rfl,by rw[b]⟩
        · have e:¬d<0:=by simpa using e
          obtain⟨B,rfl⟩:∃B:Nat,d=(B:Int):=⟨d.toNat,o_⟩
          have x:B<n:=o_
          have aa:B<L.length:=o_
          have gb:(L.map Id.A)[B]?=some L[B].A:=aO _ L B aa
          have ab:(L.take n).getD (B:Int).toNat default=L[B]:=h_
          rw[ab]at c
          rcases RW S L[i].a with⟨f1,D⟩|⟨j1,f1,D⟩<;>rcases RW S L[B].a with⟨f2,v2⟩|⟨j2,f2,v2⟩
          all_goals simp only[go_sem,decide_eq_false e,z,aZ,fF,sW,ak,aq,Id.A_def,aP,P,gb,x,f1,f2,D,v2]
          all_goals first
            | (refine aL (λs=>?_) (λs=>?_)
               · have s:=of_decide_eq_true s
                 rw[if_pos (.inr (by first|exact s|(rw[D];exact s)|(rw[v2];exact s)))]at c
                 simp only[go_sem,P]
                 exact⟨n-(i+1),o_,i+1,o_,rfl,_,_,.inr (by rw[nI];exact t),c,_,.inr rfl,by rw[b]⟩
               · have s:=of_decide_eq_false s
                 rw[if_neg (not_or.2 ⟨e,by first|exact s|(rw[D];exact s)|(rw[v2];exact s)⟩)]at c
                 simp only[go_sem,P]
                 first|exact⟨n-(i+1),o_,i+1,o_,rfl,_,_,.inr (by rw[nI];exact x),c,_,.inl rfl,by rw[b]⟩|exact⟨n-(i+1),o_,i+1,o_,rfl,_,_,.inr (by rw[nI];exact x),c,_,.inr rfl,by rw[b]⟩)
            | (rw[if_neg (not_or.2 ⟨e,by rw[D,v2];decide⟩)]at c
               first|exact⟨n-(i+1),o_,i+1,o_,rfl,_,_,.inr (by rw[nI];exact x),c,_,.inl rfl,by rw[b]⟩|exact⟨n-(i+1),o_,i+1,o_,rfl,_,_,.inr (by rw[nI];exact x),c,_,.inr rfl,by rw[b]⟩)))
end
section
variable{T:aK}
def aEK (f:Nat) (cs:O_) (m:Id->Bool) {k n:Nat} {L:D_} {sl:AV} (y:T[k]?=some (some (.arr 3 (L.map Id.A)))) (D:n<=L.length) (B:n<=1000) (a:sl=.vw k 3 0 n\/(sl=.own k/\n=L.length))
 (h:∀x∈L.take n,aA PQ G f (.ag x.A::cs) T λr t=>r=.v (.bool (m x))/\t=T):
 aA PQ G bB [sl,.cl f cs] T λr t=>r=iv (qX m (L.take n))/\t=T:=by
 apply eH cJ;have w:(L.take n).length=n:=h_;have b:∀i(p:i<n),(L.take n)[i]'s6=L[i]:=λi p=>List.getElem_take;have d:(sl=.vw k 3 0 n/\0+n=n)\/(sl=.own k/\L.length=n):=a.imp (λh=>⟨h,pQ n⟩) (λh=>⟨h.1,h.2.symm⟩);clear a;rcases d with⟨a,c⟩|⟨a,c⟩
 all_goals (
  simp only[go_sem,a,y,c,aP]
  refine O7 n (λi=>⟨T.length,[(8,iv i),(7,iv n),(0,sl),(1,.cl f cs)],T⟩) (λi=>∀j(o:j<n),j<i->m L[j]=false) ?_ (by intro j o h;omega) ?_ ?_
  rw[a];rfl
  intro i p q
  have s:i<L.length:=o_
  have C:(L.map Id.A)[i]?=some L[i].A:=aO _ L i s
  have e:L[i]∈L.take n:=m_
  have z:=h _ e
  rw[Id.A_def]at z
  simp only[go_sem,aT p,C,a,y,c,aP,p,Id.A_def]
  apply cI z
  cases u:m L[i]with
  | false=>
   simp only[go_sem,fQ i o_]
   refine⟨by rw[a],?_⟩
   intro j o g
   rcases eD j i with h2|h2
   exact q j o h2
   obtain rfl:j=i:=o_
   exact u
  |true=>
   simp only[go_sem]
   rw[mC (l:=L.take n) (i:=i) o_ (λj o g=>by rw[b j o_];exact q j o_ g) (by rw[b i p];exact u)]
   exact⟨rfl,dE⟩
  intro q
  simp only[go_sem,aS (bP _)]
  rw[lD (l:=L.take n) λj o=>by rw[b j o_];exact q j o_ o_]
  exact⟨rfl,dE⟩)
def aO1(T:aK)(k:Nat)(b:Nat)(M:D_)(r:AV)(T':aK):Prop:=∃(a:D_)(X:aK),a.length=b/\a.take M.length=M/\T'=T.set k (some (.arr 3 (a.map Id.A)))++X/\(r=.vw k 3 0 M.length\/(r=.own k/\M.length=a.length))
def Ve (f:Nat) (cs:O_) (m:Id->Bool) {k n:Nat} {L:D_} {sl:AV} (hk:T[k]?=some (some (.arr 3 (L.map Id.A)))) (hn:n<=L.length) (Y:n<=1000) (a:sl=.vw k 3 0 n\/(sl=.own k/\n=L.length))
 (h:∀(L':D_)(X:aK),∀x∈L.take n,aA PQ G f (.ag x.A::cs) (T.set k (some (.arr 3 (L'.map Id.A)))++X) λr T'=>r=.v (.bool (m x))/\T'=T.set k (some (.arr 3 (L'.map Id.A)))++X):
 aA PQ G bE [sl,.cl f cs] T (aO1 T k L.length ((L.take n).filter λx=>!m x)):=by
 have t:T.set k (some (.arr 3 (L.map Id.A)))=T:=by refine EW λj=>?_;grind
 have h0:=λx E=>h L [] x E;rw[t,jO]at h0;apply fT iD;have g:(L.take n).length=n:=h_;have aj:∀i(O:i<n),(L.take n)[i]'s6=L[i]:=λi O=>List.getElem_take;have u:(sl=.vw k 3 0 n/\0+n=n)\/(sl=.own k/\L.length=n):=a.imp (λh=>⟨h,pQ n⟩) (λh=>⟨h.1,h.2.symm⟩);simp only[go_sem];apply cI (aEK f cs m hk hn Y a h0);clear a;have C:(qX m (L.take n)=-1/\∀x∈L.take n,m x=false)\/∃c,c<n/\∃S:c<L.length,qX m (L.take n)=(c:Int)/\m L[c]=true/\∀j(S:j<L.length),j<c->m L[j]=false:=by
  rcases Int.lt_or_le (qX m (L.take n)) 0 with af|d;left;have b:∀x∈L.take n,m x=false:=by have:=mN m (L.take n);grind
  exact⟨lD λj S=>b _ (eQ S),b⟩;right;unfold qX at d⊢
  cases e:(L.take n).findIdx? m with
  |none=>rw[e]at d;exact absurd d d_|some c=>
   obtain⟨h1,h2,h3⟩:=Ad.1 e;grind
 rcases C with⟨O,b⟩|⟨c,ah,ab,O,ad,b⟩
 have P:(L.take n).filter (λx=>!m x)=L.take n:=Gm.2 λx E=>by rw[b x E];rfl
 rw[O,P];rcases u with⟨a,l⟩|⟨a,l⟩
 simp only[go_sem,a];exact⟨L,[],rfl,by rw[g],by rw[t,jO],.inl (by rw[g])⟩;simp only[go_sem,a];exact⟨L,[],rfl,by rw[g],by rw[t,jO],.inr ⟨rfl,o_⟩⟩
 ·have e1:((c:Int)==-1)=false:=Y_;rw[O];rcases u with⟨a,l⟩|⟨a,l⟩
  all_goals (
   simp only[go_sem,e1,fQ c o_]
   refine kL (λq st=>∃(i j:Nat)(M:D_)(X:aK),q=n-j/\i<j/\j<=n/\M.length=L.length/\M.take i=((L.take j).filter λx=>!m x)/\M.drop j=L.drop j/\st=⟨T.length,[(6,iv j),(5,iv i),(0,sl),(1,.cl f cs)],T.set k (some (.arr 3 (M.map Id.A)))++X⟩) (n-(c+1))
    ⟨c,c+1,L,[],rfl,o_,o_,rfl,?_,rfl,by rw[t,jO]⟩ ?_
   rw[lB ab,Mf,Gm.2 (λx E=>?_)]
   simp[ad]
   obtain⟨j',ac,rfl⟩:=List.mem_iff_getElem.1 E
   rw[eC]at ac
   rw[List.getElem_take,b j' o_ o_]
   rfl
   rintro q st ⟨i,j,M,X,rfl,ai,S,hM,V,hd,rfl⟩
   have p:(T.set k (some (.arr 3 (M.map Id.A))))[k]?=some (some (.arr 3 (M.map Id.A))):=dS hk
   have Z:(T.set k (some (.arr 3 (M.map Id.A)))).length=T.length:=cL
   have F:∀N:D_,(T.set k (some (.arr 3 (M.map Id.A)))).set k (some (.arr 3 (N.map Id.A)))=T.set k (some (.arr 3 (N.map Id.A))):=λN=>List.set_set ..
   have s:=λX=>h M X
   rw[<-Z]
   generalize ae:T.set k (some (.arr 3 (M.map Id.A)))=U at *
   have D:=λX:aK=>aF (X:=X) p
   by_cases z:j<n
   have aa:j<M.length:=o_
   have K:i<M.length:=o_
   have w:j<L.length:=o_
   have R:M[j]=L[j]:=by
    have h1:(M.drop j)[0]?=(L.drop j)[0]?:=by rw[hd]
    grind
   have Q:M.drop (j+1)=L.drop (j+1):=by have:=congrArg (List.drop 1) hd;grind[List.drop_drop]
   have H:M[j]∈L.take n:=m_
   have s:=λX=>s X M[j] H
   rw[Id.A_def]at s
   have g0:(M.map Id.A)[j]?=some M[j].A:=aO _ M j aa
   have B:=dB p
   have y:=l
   simp only[go_sem,a,aP,hM,y,aT z,z,g0,D,nY]
   apply cI (s _)
   cases hm:m M[j]
   simp only[go_sem,a,aP,hM,y,(o_:i<n),aO Id.A M i K,D,nY]
   rw[fQ i o_,fQ j o_,List.set_append_left _ _ B,<-Id.A_def,<-Ba,F]
   refine⟨_,(by omega:n-(j+1)<n-j),i+1,j+1,M.set i M[j],_,rfl,o_,o_,by rw[cL];omega,?_,?_,rfl⟩
   rw[lB (by simpa using K),lB w,Mf,<-V,YC,List.take_set_of_le (cN i),<-R,List.filter_cons,hm]
   rfl
   rw[List.drop_set_of_lt o_,Q]
   simp only[go_sem,a]
   rw[fQ j o_]
   refine⟨_,(by omega:n-(j+1)<n-j),i,j+1,M,_,rfl,o_,o_,o_,?_,Q,by rw[ae]⟩
   rw[lB w,Mf,<-V,<-R,List.filter_cons,hm]
   simp
   obtain rfl:j=n:=o_
   have B:=dB p
   have J:i<=j:=o_
   have W:=λo:Option AObj=>aF (X:=X) (dS (o:=o) p)
   have e9:i+(j-i)=j:=o_
   have e8:i+(j-i)<=L.length:=o_
   have e7:i+(j-i)<=j:=o_
   simp only[go_sem,a,aP,hM,l,aS z,J,e7,e8,W,(o_:i<=min i j+(j-i+(j-(i+(j-i))))),D,List.set_append_left _ _ B,dZ,QE,eC,vY,nY]
   have I:((L.take j).filter λx=>!m x).length=i:=m_
   have hZ:M.take i++(List.replicate (j-i) (⟨0,0,0⟩:Id)++M.drop (i+(j-i)))=M.take i++(List.replicate (j-i) (⟨0,0,0⟩:Id)++M.drop (i+(j-i))):=rfl
   refine⟨M.take i++(List.replicate (j-i) (⟨0,0,0⟩:Id)++M.drop (i+(j-i))),X,?_,?_,?_,.inl (by rw[I])⟩
   simp only[dZ,QE,eC,vY]
   omega
   rw[I,<-V,Rf s6,Mj,Nat.min_self]
   rw[<-F]
   simp only[bZ,QN,YH,aC0,Id.A_zero])
end
def byO(o:OpM):Option Int:=if o.Kind==1 then some o.By else if o.Kind==2||o.Kind==13 then some o.Device else none
def kV(g:PGM)(out:B_)(x:Id):B_:=match byO (g.nd x).o with|some d=>if d∈out then out else out++[d]|none=>out
def BQ(g:PGM)(l:D_):B_:=(eO g l).foldl (kV g) []
def Vf{g:PGM}{out:B_}{x:Id}:(kV g out x).length<=out.length+1:=by grind[kV]
def TD{g:PGM}:∀(l:D_)(out:B_),(l.foldl (kV g) out).length<=out.length+l.length|[],_=>by simp|x::l,out=>by have:=TD (g:=g) l (kV g out x);have h:=Vf (g:=g) (out:=out) (x:=x);simp_all;omega
def aEL(T X:aK)(out:B_):Prop:=∃k,X[0]?=some (some (.box [.own (T.length+k)]))/\X[k]?=some (some (.arr 1 (out.map λn=>[iv n])))/\k≠0/\k≠2/\k≠4
section
variable{T:aK}{p:Nat×Nat×Nat}{g:PGM}
def aIN (h:GAt T p g) (hg:g.ok) (l o:D_) (hO:aA PQ G mJ [.ptr 0 0,ids l] (TG 0 g) λr s=>r=ids o/\s=TG 0 g) (cE:∀x∈o,x∈g.I) (af:o.length<=1000):aA PQ G uX [.ptr p.1 0,ids l] T λr s=>r=rG (o.foldl (kV g) [])/\s=T:=by
 have ad:∀X:aK,aA PQ G mJ [.ptr p.1 0,ids l] (T++X) λr s=>r=ids o/\s=T++X:=λX=>(h.app (X:=X)).lift (by simp only[xF,Bd,gL0 (h.app (X:=X)),ids]) rfl hO;refine(aA.keepLs (q:=λk es=>k=1/\es=((o.foldl (kV g) [])).map λn=>[iv n]) (fT JD ?_)).mono ?_;rotate_left;simp;simp only[go_sem,aD,cU,eB,jC,dM];refine F4 (post:=λy s=>y=.cl CH [.ptr (T.length+2) 0,.ptr (T.length+3) 0]/\s=T++[some (.box [.own (T.length+1)]),some (.arr 1 []),some (.box [.ptr p.1 0]),some (.box [ids l])]) (aB _) (fT Og ?_) ?_;simp only[go_sem,eB,jC,dM,dZ,sE,gQ];rintro y s ⟨rfl,rfl⟩;simp only[go_sem];refine NX rfl (vZ Cy) λr k1 k2 hy R=>?_;simp only[go_sem,eB,jC,dM];refine F4 (post:=λ_ s=>∃X:aK,s=T++X/\aEL T X ((o.foldl (kV g) []))/\X[4]?=some (some (.lp r [(5,.ptr T.length 0)]))) (aB _) (fT Cy ?_) ?_
 ·simp only[go_sem,nY];apply cI (ad _);simp only[go_sem,ids,aP]
  refine kL (λn st=>∃i,i<=o.length/\n=o.length-i/\∃X:aK,aEL T X ((o.take i).foldl (kV g) [])/\X[2]?=some (some (.box [.ptr p.1 0]))/\X[4]?=some (some (.lp r [(5,.ptr T.length 0)])) /\
   st=⟨T.length+5,[(13,iv i),(12,iv o.length),(11,ids o),(0,.yl (T.length+4)),(1,.ptr (T.length+2) 0)],T++X⟩) o.length ⟨0,pR _,rfl,_,⟨1,rfl,rfl,d_⟩,rfl,rfl,rfl⟩ ?_
  rintro n st ⟨i,hi,ah,X,⟨k,O,J,m,u,j⟩,x2,F,rfl⟩;rcases eD i o.length with t|aj;rotate_left;obtain rfl:i=o.length:=o_;rw[dE]at J;simp only[go_sem,aS (bP _)];exact⟨X,rfl,⟨k,O,J,m,u,j⟩,F⟩;have ws:=fQ i o_;have ab:=cE _ (eQ t);have g0:(o.map Id.A)[i]?=some o[i].A:=aO _ o i t;have ft:(o.take (i+1)).foldl (kV g) []=kV g ((o.take i).foldl (kV g) []) o[i]:=by rw[lB t,Hy];rfl
  have ae:((o.take i).foldl (kV g) []).length<=1000:=by have:=TD (g:=g) (o.take i) [];simp_all;omega
  generalize(o.take i).foldl (kV g) []=out at *
  have w:=λX=>S5 (G:=G) (h.app (X:=X)) hg o[i] ab;simp only[Id.A_def]at w;generalize hz:o[i]=z at *
  have l4:=dB F;have y0:=λY:aK=>aF (X:=Y) O;have N:=λY:aK=>aF (X:=Y) x2;have M:=λY:aK=>aF (X:=Y) F;have yk:=λY:aK=>aF (X:=Y) J;simp only[go_sem,aT t,g0,ids,nY,N];apply cI (w _);simp only[go_sem,nY];have ac:byO (g.nd z).o=if(g.nd z).o.Kind==1 then some (g.nd z).o.By else if(g.nd z).o.Kind==2||(g.nd z).o.Kind==13 then some (g.nd z).o.Device else none:=rfl
  generalize he:(g.nd z).o=q at *
  let e:Int->B_:=λd=>if d∈out then out else out++[d]
  have f:∀(W:aK)(d:Int)(K:AV->aK->Prop),(∀E:aK,aEL T E (e d)->E[2]?=some (some (.box [.ptr p.1 0]))->E[4]?=some (some (.lp r [(5,.ptr T.length 0)]))->K (.v (.bool true)) (T++E)) ->
    @aAb PQ G (T.length+4) [.ag [iv z.a,iv z.b,.v (.int .u64 z.c)],iv d] (T++(X++W)) ⟨K⟩:=by
   intro W d K L;apply R _ _ _ _ _ (kU (by rw[aZ];exact M _)) rfl;have w0:∀Y:aK,((X++W).set 4 none++Y)[0]?=some (some (.box [.own (T.length+k)])):=λY=>aF (by rw[aY d_];exact y0 _);have w2:∀Y:aK,((X++W).set 4 none++Y)[2]?=some (some (.box [.ptr p.1 0])):=λY=>aF (by rw[aY d_];exact N _);have wk:∀Y:aK,((X++W).set 4 none++Y)[k]?=some (some (.arr 1 (out.map λn=>[iv n]))):=λY=>aF (by rw[aY (Ne.symm j)];exact yk _);have w4:∀Y:aK,((X++W).set 4 none++Y)[4]?=some none:=λY=>aF (dS (M W));have D:=w0 [];have C:=w4 [];have S:=w2 [];have B:=wk [];rw[jO]at D C S B;simp only[go_sem,cP,fF];generalize(X++W).set 4 none=Z at *
   simp only[go_sem,D];have aa:xG (T++Z) [.own (T.length+k),iv d]=[rG out,iv d]:=by simp only[xG,tB,kU (show(T++Z)[T.length+k]?=_ by rw[aZ];exact B)]
   apply iJ (aB _) aa rfl (VF out d o_);have ak:=dB C;by_cases H:d∈out;have V:e d=out:=m_;rw[V]at L;simp only[go_sem,H,decide_true,cP];refine L _ ⟨k,?_,?_,m,u,j⟩ ?_ ?_;simp_all;grind;simp_all;exact dS C;have V:e d=out++[d]:=m_;rw[V]at L;have ol:out.length+1<=maxLen/\(out.length+1)*8<=140737488355328:=g_;have ai:=dB B;have Q:=λW:aK=>(aY (T:=Z++W) (o:=none) m).trans (w0 W);have P:=λW W':aK=>aF (X:=W') (Q W);simp only[go_sem,H,decide_false,aZ,cP,fF,iR,D,P,wk,ol.1,ol.2,aP,eB];refine L _ ⟨Z.length+1,?_,?_,o_,o_,o_⟩ ?_ ?_;simp;grind;grind;grind
  have nG:∀d,byO q=some d->kV g out z=e d:=λd H=>by simp only[kV,he,H,e]
  have U:byO q=none->kV g out z=out:=λH=>by simp only[kV,he,H]
  rcases hq1:q.Kind==1 with _|_;simp only[go_sem];rcases hq2:q.Kind==2 with _|_;rcases hq3:q.Kind==13 with _|_;simp only[go_sem,hq3];rw[ws];refine⟨_,(by omega:o.length-(i+1)<n),i+1,o_,rfl,_,?_,N _,M _,rfl⟩;rw[ft,U (by rw[ac,hq1,hq2,hq3];rfl)];exact⟨k,y0 _,yk _,m,u,j⟩;simp only[go_sem,hq3,nY];refine f _ _ _ λE a0 a2 a4=>?_;simp only[go_sem];grind;simp only[go_sem,nY];refine f _ _ _ λE a0 a2 a4=>?_;simp only[go_sem];grind;simp only[go_sem,nY];refine f _ _ _ λE a0 a2 a4=>?_;simp only[go_sem];grind
 rintro y s ⟨X,rfl,⟨k,O,J,m,u,j⟩,F⟩;have l3:=dB F;have z0:(X.set 4 none)[0]?=some (some (.box [.own (T.length+k)])):=h_;simp only[go_sem,aZ,cP,fF,F,k1,k2,aFa,z0];grind
def aBq(h:GAt T p g)(b:g.ok)(l:D_)(e:∀x∈l,x∈g.I)(d:l.Nodup)(a:l.length<=1000):aA PQ G uX [.ptr p.1 0,ids l] T λr f=>r=rG (BQ g l)/\f=T :=
 aIN h b l _ (ZK g b l d o_) (λx c=>e x ((mE g l).mem_iff.1 c)) (by rw[(mE g l).length_eq];exact a)
end
def jM(o:OpM):Bool:=o.Kind==3||o.Kind==13||o.Kind==12
section
variable{T:aK}{p:Nat×Nat×Nat}{g:PGM}{l v f:Nat}{row V F:D_}
def GAt.set{i:Nat}{o:Option AObj}(h:GAt T p g)(h1:i≠p.1)(h2:i≠p.2.1)(h3:i≠p.2.2):GAt (T.set i o) p g :=
 h.mono λj a=>aY (by rcases a with rfl|rfl|rfl<;>assumption)
def LAt.set{i:Nat}{o:Option AObj}(h:LAt T l v f p row V F)(h1:i≠l)(h2:i≠v)(h3:i≠f):LAt (T.set i o) l v f p row V F :=
 ⟨by rw[aY h1];exact h.box,let⟨b,c,x,y⟩:=h.vo;⟨b,c,by rw[aY h2];exact x,y⟩,let⟨b,c,x,y⟩:=h.fo;⟨b,c,by rw[aY h3];exact x,y⟩,h.ne⟩
def LAt.setV{V':D_}{bs:V_}{cl:Nat}(h:LAt T l v f p row V F)(a:Bs V'.length bs cl):LAt (T.set v (some (qC V' bs cl))) l v f p row V' F :=
 ⟨by rw[aY (Ne.symm h.ne.1)];exact h.box,⟨bs,cl,let⟨_,_,x,_⟩:=h.vo;dS x,a⟩,let⟨b,c,x,y⟩:=h.fo;⟨b,c,by rw[aY h.ne.2.2.1];exact x,y⟩,h.ne⟩
def LAt.gset{o:Option AObj}(h:LAt T l v f p row V F)(a:GAt T p g):GAt (T.set v o) p g:=a.set h.ne.2.2.2.1 h.ne.2.2.2.2.1 h.ne.2.2.2.2.2
def aEM(o:OpM):aA PQ G CG [iv o.Kind] T λr a=>r=.v (.bool (jM o))/\a=T:=by refine eH KD ?_;cases h1:o.Kind==3;cases h2:o.Kind==13;simp only[go_sem,h1,h2];simp_all[jM];simp only[go_sem,h1,h2];simp_all[jM];simp only[go_sem,h1];simp_all[jM]
def aBr(h:GAt T p g)(j:g.ok)(i:LAt T l v f p row V F){b:Nat}(k:T[b]?=some (some (.box [.ptr l 0])))(x:Id)(e:x∈g.I):
 aA PQ G mL [.ag x.A,.ptr b 0] T λr c=>r=.v (.bool (!jM (g.nd x).o))/\c=T:=by
 apply eH Cw;have n:=λX:aK=>aF (X:=X) i.box;have m:=λX:aK=>aF (X:=X) k;have d:=λX=>S5 (G:=G) (h.app (X:=X)) j x e;simp only[Id.A_def]at d;simp only[go_sem,n,m,nY];refine⟨?_,?_⟩
 all_goals refine jA (d _) ?_
 all_goals rintro r c ⟨rfl,a⟩
 all_goals obtain rfl:=a.symm
 all_goals simp only[go_sem,nY]
 all_goals refine jA (aEM _) ?_
 all_goals rintro r c ⟨rfl,a⟩
 all_goals obtain rfl:=a.symm
 all_goals simp only[go_sem,aH]
def aBs(h:LAt T l v f p row V F){b:Nat}(o:T[b]?=some (some (.box [.ptr l 0])))(x:Id):
 aA PQ G mM [.ag x.A,.ptr b 0] T λr t=>r=.v (.bool (decide (x∈V)))/\t=T:=by
 apply eH Cx;have k:=λX:aK=>aF (X:=X) h.box;have i:=λX:aK=>aF (X:=X) o;obtain⟨bs,w,m,n⟩:=h.vo;have g:=λX:aK=>aF (X:=X) m;unfold qC at g;have d:eR [.int .i64,.int .i64,.int .u64] [.int .i64 x.a,.int .i64 x.b,.int .u64 x.c] (V.map Id.K) 0=some ((V.findIdx? λy=>decide (y=x)).map (· + 0)):=qH x V 0;by_cases e:x∈V;obtain⟨j,s,u,_⟩:=dG e;rw[s]at d;simp only[iX,mG]at d;have q:(V.map λ_=>AV.v (.bool true))[j]?=some (.v (.bool true)):=h_;simp only[go_sem,k,i,g,d,q,nY,e,decide_true,aH];rw[eG e]at d;simp only[xD]at d;simp only[go_sem,k,i,g,d,nY,e,decide_false,aH]
end
def nZ(S:List (Int×Int))(d x:Int):List (Int×Int):=match S.findIdx? (λe=>d==e.1) with|some j=>S.set j (d,x)|none=>S++[(d,x)]
def Xt{S:List (Int×Int)}{d x:Int}:(nZ S d x).length<=S.length+1:=by grind[nZ]
def TF(S:List (Int×Int))(d x:Int){bs:V_}{cl:Nat}(f:Bs S.length bs cl):
 (∃j,eR [.int .i64] [.int .i64 d] (S.map λe=>iK e.1) 0=some (some j)/\j<S.length/\AObj.map false (S.map λe=>iK e.1) ((S.map λe=>iv e.2).set j (iv x)) bs cl=AO (nZ S d x) bs cl/\Bs (nZ S d x).length bs cl) \/
 (eR [.int .i64] [.int .i64 d] (S.map λe=>iK e.1) 0=some none/\AObj.map false ((S.map λe=>iK e.1)++[[.int .i64 d]]) ((S.map λe=>iv e.2)++[iv x]) (bs++[cl]) (cl+1)=AO (nZ S d x) (bs++[cl]) (cl+1)/\Bs (nZ S d x).length (bs++[cl]) (cl+1)):=by
 have a:=KY S d;rw[show iK d=[.int .i64 d] from rfl]at a
 cases e:S.findIdx? (λe=>d==e.1) with
 |none=>
  rw[e]at a;have c:nZ S d x=S++[(d,x)]:=by rw[nZ,e]
  refine .inr ⟨a,?_,?_⟩;simp_all[AO,iK];rw[c,dZ];exact f.suc
 | some j=>
  rw[e]at a;obtain⟨b,h,_⟩:=Ad.1 e;have c:nZ S d x=S.set j (d,x):=by rw[nZ,e]
  have g:j<bs.length:=by rw[f.len];exact b
  refine .inl ⟨j,a,b,?_,?_⟩;rw[c,AO,Ba,Ba];congr 1;have i:iK d=iK S[j].1:=h_;show _=(S.map λe=>iK e.1).set j (iK d);rw[i];exact(BE (λe:Int×Int=>iK e.1) S j b).symm;simp_all
def KZ(cs:List CardM):List (Int×Int):=cs.foldl (λS c=>nZ S c.Device 12) []
def Xu:Nat->B_->List (Int×Int)->List (Int×Int)|_,[],S=>S|i,d::r,S=>Xu (i+1) r (nZ S d i)
def aBt(g:PGM)(row:D_):List (Int×Int):=Xu 0 (BQ g row) (KZ g.cards)
def AQ(V:D_)(y:Id):D_:=if y∈V then V else V++[y]
def Mb(g:PGM)(row:D_)(x:Id)(left V:D_):D_:=row.foldl (λV y=>if(lA g x y||(decide (y∈left)&&B7 g row x y))=true then AQ V y else V) V
def uL(g:PGM)(row:D_)(S:List (Int×Int)):Nat->D_->D_->D_
 |0,V,_=>V
 | n+1,V,left=>
  let a:=left.filter λx=>!decide (x∈V)
  if a=[] then V else
   let i:=(yY g row S a).toNat
   let x:=a.getD i default
   if x∈mW g V row then uL g row S n (Mb g row x (a.eraseIdx i) V) (a.eraseIdx i) else uL g row S n (AQ V x) (a.eraseIdx i)
def sU(g:PGM)(row V:D_):D_:=uL g row (aBt g row) row.length V (row.filter λx=>jM (g.nd x).o)
def Vg(V:D_)(z:Id){bs:V_}{cl:Nat}(g:Bs V.length bs cl):
 (∃j,eR [.int .i64,.int .i64,.int .u64] [.int .i64 z.a,.int .i64 z.b,.int .u64 z.c] (V.map Id.K) 0=some (some j)/\AObj.map true (V.map Id.K) ((V.map λ_=>AV.v (.bool true)).set j (.v (.bool true))) bs cl=qC (AQ V z) bs cl/\Bs (AQ V z).length bs cl) \/
 (eR [.int .i64,.int .i64,.int .u64] [.int .i64 z.a,.int .i64 z.b,.int .u64 z.c] (V.map Id.K) 0=some none/\AObj.map true (V.map Id.K++[[.int .i64 z.a,.int .i64 z.b,.int .u64 z.c]]) ((V.map λ_=>AV.v (.bool true))++[.v (.bool true)]) (bs++[cl]) (cl+1)=qC (AQ V z) (bs++[cl]) (cl+1)/\Bs (AQ V z).length (bs++[cl]) (cl+1)):=by
 have d:eR [.int .i64,.int .i64,.int .u64] [.int .i64 z.a,.int .i64 z.b,.int .u64 z.c] (V.map Id.K) 0=some ((V.findIdx? λy=>decide (y=z)).map (· + 0)):=qH z V 0;by_cases e:z∈V;obtain⟨j,i,h,_⟩:=dG e;rw[i]at d;simp only[iX,mG]at d;have f:AQ V z=V:=by rw[AQ,if_pos e]
 refine .inl ⟨j,d,?_,by rw[f];exact g⟩;rw[f,qC];congr 1;exact BE (λ_:Id=>AV.v (.bool true)) V j h;rw[eG e]at d;simp only[xD]at d;have f:AQ V z=V++[z]:=by rw[AQ,if_neg e]
 refine .inr ⟨d,?_,?_⟩;grind[qC,Id.K];rw[f,dZ];exact g.suc
def PJ{g:PGM}{row:D_}{S:List (Int×Int)}{b:D_}:∀(r:D_)(i:Nat)(a:Int),i+r.length=b.length->a<b.length->(0<=a\/r≠[])->0<=AP g row S b r i a/\AP g row S b r i a<b.length
 |[],i,a,c,d,h=>by
  grind[AP]
 | x::r,i,a,c,d,h=>by rw[sE]at c;rw[AP];split;refine PJ r (i+1) _ o_ ?_ ?_;split<;>omega;omega;omega
def RY{g:PGM}{row:D_}{S:List (Int×Int)}{a:D_}(h:a≠[]):0<=yY g row S a/\yY g row S a<a.length :=
 PJ a 0 (-1) o_ o_ (.inr h)
section
variable{T:aK}{p:Nat×Nat×Nat}{g:PGM}{l v f:Nat}{row V F:D_}
def aO2(T:aK)(v:Nat)(V:D_)(T':aK):Prop:=∃(bs:V_)(cl:Nat)(X:aK),T'=T.set v (some (qC V bs cl))++X/\Bs V.length bs cl
def Vh (hK:AK G) (h:GAt T p g) (hg:GGood g) (hl:LAt T l v f p row V F) (hs:∀x∈row,x∈g.I) (hn:row.Nodup):
 aA PQ G oO [.ptr l 0] T λ_ T'=>aO2 T v (sU g row V) T':=by
 have dl:row.length<=200:=by have:=List.Nodup.length_le_of_subset hn hs;have h2:=hg.ok.n;simp only[PGM.I,aP]at this;omega
 apply fT ES;have a0:=λX:aK=>aF (X:=X) hl.box;simp only[go_sem,a0,nY];apply cI (S4 h.app hg.ok);simp only[go_sem,aP]
 refine kL (λn st=>∃i,i<=g.cards.length/\n=g.cards.length-i/\∃(Y:aK)(bs:V_)(cl:Nat),Bs (KZ (g.cards.take i)).length bs cl /\
  st=⟨T.length,[(19,iv i),(18,iv g.cards.length),(17,.ls 5 (g.cards.map CardM.A)),(2,.mp (T.length+1)),(1,.ptr T.length 0)],T++some (.box [.ptr l 0])::some (AO (KZ (g.cards.take i)) bs cl)::Y⟩) g.cards.length ⟨0,pR _,rfl,[],[],0,⟨rfl,s_,s_⟩,rfl⟩ ?_
 rintro n st ⟨i,hi,bf,Y,bs,cl,hb,rfl⟩;rcases eD i g.cards.length with w|au;have g0:(g.cards.map CardM.A)[i]?=some g.cards[i].A:=aO _ g.cards i w;have ws:=pC (show i<(2^63-1) by have:=hg.ok.cn;omega);have ft:KZ (g.cards.take (i+1))=nZ (KZ (g.cards.take i)) g.cards[i].Device 12:=by rw[lB w,KZ,Hy];rfl
 rw[show AO (KZ (g.cards.take i)) bs cl=AObj.map false ((KZ (g.cards.take i)).map λe=>iK e.1) ((KZ (g.cards.take i)).map λe=>iv e.2) bs cl from rfl];rcases TF (KZ (g.cards.take i)) g.cards[i].Device 12 hb with⟨j,hj,cz,he,s⟩|⟨hj,he,s⟩
 simp only[go_sem,nY,aT w,g0,CardM.A,hj,ws];exact⟨_,(by omega:g.cards.length-(i+1)<n),i+1,o_,rfl,_,_,_,by rw[ft];exact s,by rw[ft,<-he]⟩;simp only[go_sem,nY,aT w,g0,CardM.A,hj,ws];exact⟨_,(by omega:g.cards.length-(i+1)<n),i+1,o_,rfl,_,_,_,by rw[ft];exact s,by rw[ft,<-he]⟩;obtain rfl:i=g.cards.length:=o_;rw[dE]at hb⊢;simp only[go_sem,a0,nY,aS (bP _)];clear bf au;apply cI (aBq h.app hg.ok row hs hn o_);simp only[go_sem,aP];have cb:(BQ g row).length<=1000:=by have:=TD (g:=g) (eO g row) [];rw[(mE g row).length_eq]at this;simp only[gQ]at this;unfold BQ;omega
 have ai:aBt g row=Xu 0 (BQ g row) (KZ g.cards):=rfl;have ba:sU g row V=uL g row (aBt g row) row.length V (row.filter λx=>jM (g.nd x).o):=rfl;rw[ba];generalize KZ g.cards=S0 at *
 generalize BQ g row=o at *
 simp only[go_sem,rG]
 refine kL (λn st=>∃i,i<=o.length/\n=o.length-i/\∃(S:List (Int×Int))(Y:aK)(bs:V_)(cl:Nat),Xu i (o.drop i) S=aBt g row/\Bs S.length bs cl /\
  ∃Sl,(Sl=[(36,iv o.length),(35,rG o),(37,iv i),(2,.mp (T.length+1)),(1,.ptr T.length 0)]\/Sl=[(37,iv i),(36,iv o.length),(35,rG o),(2,.mp (T.length+1)),(1,.ptr T.length 0)])/\st=⟨T.length,Sl,T++some (.box [.ptr l 0])::some (AO S bs cl)::Y⟩) o.length ⟨0,pR _,rfl,S0,Y,bs,cl,ai.symm,hb,_,.inl rfl,rfl⟩ ?_
 clear hb ai bs cl Y n;rintro n st ⟨i,hi,bf,S,Y,bs,cl,hS,hb,Sl,ad,rfl⟩;rcases eD i o.length with w|au
 ·have g0:(o.map λn=>[iv n])[i]?=some [iv o[i]]:=by rw[gE,jN w];rfl
  have ws:=fQ i o_;rw[Kc w,Xu]at hS;rw[show AO S bs cl=AObj.map false (S.map λe=>iK e.1) (S.map λe=>iv e.2) bs cl from rfl];rcases TF S o[i] i hb with⟨j,hj,cz,he,s⟩|⟨hj,he,s⟩
  all_goals rcases ad with rfl|rfl
  all_goals simp only[go_sem,rG,nY,aT w,g0,hj,ws]
  all_goals exact⟨_,(by omega:o.length-(i+1)<n),i+1,o_,rfl,_,_,_,_,hS,s,_,.inr rfl,by rw[<-he]⟩
 obtain rfl:i=o.length:=o_;rw[LB (cN _),Xu]at hS;subst hS;clear bf au hi;generalize aBt g row=S at *
 refine'(λ(af:(_:Prop))=>?_) ?_;rotate_left;rcases ad with ad|ad;simp only[go_sem,ad,rG,a0,nY,aS (bP _)];exact af;simp only[go_sem,ad,rG,a0,nY,aS (bP _)];exact af
 all_goals (
  apply kM (MO row o_)
  simp only[go_sem,nY]
  have hd1:∀(L':D_)(X:aK),∀x∈row.take row.length,aA PQ G mL [.ag x.A,.ptr T.length 0] ((T++some (.box [.ptr l 0])::some (AO S bs cl)::(Y++[some (.arr 3 (row.map Id.A))])).set (T.length+(Y.length+2)) (some (.arr 3 (L'.map Id.A)))++X) λr T'=>r=.v (.bool (!jM (g.nd x).o))/\T'=(T++some (.box [.ptr l 0])::some (AO S bs cl)::(Y++[some (.arr 3 (row.map Id.A))])).set (T.length+(Y.length+2)) (some (.arr 3 (L'.map Id.A)))++X:=by intro L' X x hx;rw[cP];exact aBr h.app.app hg.ok hl.app.app (aF (by rw[fF];rfl)) x (hs x (C8 hx))
  apply jA (Ve _ _ _ (by rw[aZ];simp) (cN _) o_ (.inr ⟨rfl,rfl⟩) hd1)
  rintro y T' ⟨L,X,df,K,rfl,t⟩
  rw[cP]
  simp only[Bool.not_not]at K t
  rw[dE]at K t
  have z0:((some (AObj.box [AV.ptr l 0])::some (AO S bs cl)::(Y++[some (AObj.arr 3 (row.map Id.A))])).set (Y.length+2) (some (.arr 3 (L.map Id.A)))++X)[0]?=some (some (.box [.ptr l 0])):=rfl
  have z1:((some (AObj.box [AV.ptr l 0])::some (AO S bs cl)::(Y++[some (AObj.arr 3 (row.map Id.A))])).set (Y.length+2) (some (.arr 3 (L.map Id.A)))++X)[1]?=some (some (AO S bs cl)):=rfl
  have zk:((some (AObj.box [AV.ptr l 0])::some (AO S bs cl)::(Y++[some (AObj.arr 3 (row.map Id.A))])).set (Y.length+2) (some (.arr 3 (L.map Id.A)))++X)[Y.length+2]?=some (some (.arr 3 (L.map Id.A))):=by refine aF ?_;rw[List.getElem?_set_self s_]
  rw[eB]
  generalize(some (AObj.box [AV.ptr l 0])::some (AO S bs cl)::(Y++[some (AObj.arr 3 (row.map Id.A))])).set (Y.length+2) (some (.arr 3 (L.map Id.A)))++X=Z at *
  have ab:2<=Y.length+2:=o_
  generalize Y.length+2=k at *
  obtain⟨bv,cv,bt,J⟩:=hl.vo
  have ap:∀x∈row.filter (λx=>jM (g.nd x).o),x∈row:=λx hx=>(gR.1 hx).1
  have ar:(row.filter λx=>jM (g.nd x).o).length<=row.length:=List.length_filter_le ..
  have aq:(row.filter λx=>jM (g.nd x).o).Nodup:=hn.sublist List.filter_sublist
  clear ba
  generalize hD:uL g row S row.length V (row.filter λx=>jM (g.nd x).o)=D at *
  generalize row.filter (λx=>jM (g.nd x).o)=left at *
  simp only[go_sem]
  refine kL (λn st=>∃(left V':D_)(fuel:Nat)(bv:V_)(cv:Nat)(L:D_)(Z:aK)(k:Nat)(sl:AV),left.length=n/\left.length<=row.length/\(∀x∈left,x∈row)/\left.Nodup/\uL g row S fuel V' left=D/\left.length<=fuel/\Bs V'.length bv cv /\
   Z[0]?=some (some (.box [.ptr l 0]))/\Z[1]?=some (some (AO S bs cl))/\Z[k]?=some (some (.arr 3 (L.map Id.A)))/\2<=k/\L.take left.length=left/\(sl=.vw (T.length+k) 3 0 left.length\/(sl=.own (T.length+k)/\left.length=L.length)) /\
   st=⟨T.length,[(7,sl),(2,.mp (T.length+1)),(1,.ptr T.length 0)],T.set v (some (qC V' bv cv))++Z⟩) left.length ⟨left,V,row.length,bv,cv,L,Z,k,y,rfl,ar,ap,aq,hD,ar,J,z0,z1,zk,ab,K,t,by rw[JN bt]⟩ ?_
  clear z0 z1 zk ab K t ap ar aq hD J bt hd1 df
  rintro n st ⟨left,V',fuel,bv,cv,L,Z,k,sl,dm,ar,ap,aq,hD,dn,J,z0,z1,zk,ab,K,t,rfl⟩
  have am:=LAt.setV (V':=V') hl J
  have ci:=LAt.gset (o:=some (qC V' bv cv)) hl h
  have av:(T.set v (some (qC V' bv cv))).length=T.length:=cL
  have cx:∀o,(T.set v (some (qC V' bv cv))).set v o=T.set v o:=λo=>List.set_set ..
  rw[<-av]at t⊢
  generalize hU:T.set v (some (qC V' bv cv))=B at *
  have cy:left.length<=L.length:=by have:=congrArg List.length K;rw[eC]at this;omega
  have cj:∀(L':D_)(X:aK),∀x∈L.take left.length,aA PQ G mM [.ag x.A,.ptr B.length 0] ((B++Z).set (B.length+k) (some (.arr 3 (L'.map Id.A)))++X) λr T'=>r=.v (.bool (decide (x∈V')))/\T'=(B++Z).set (B.length+k) (some (.arr 3 (L'.map Id.A)))++X:=by intro L' X x hx;rw[cP];exact aBs am.app.app (aF (by rw[fF,aY o_];exact z0)) x
  simp only[go_sem]
  apply jA (Ve (L:=L) (n:=left.length) _ _ (λx=>decide (x∈V')) (by rw[aZ];exact zk) cy o_ t cj)
  rintro y T' ⟨H,X1,dr,z,rfl,be⟩
  rw[cP,eB]
  rw[K]at z be
  have ae:(Z.set k (some (.arr 3 (H.map Id.A)))++X1)[0]?=some (some (.box [.ptr l 0])):=aF (by rw[aY o_];exact z0)
  have bd:(Z.set k (some (.arr 3 (H.map Id.A)))++X1)[1]?=some (some (AO S bs cl)):=aF (by rw[aY o_];exact z1)
  have C:(Z.set k (some (.arr 3 (H.map Id.A)))++X1)[k]?=some (some (.arr 3 (H.map Id.A))):=aF (dS zk)
  generalize Z.set k (some (.arr 3 (H.map Id.A)))++X1=P at *
  clear K t cj z0 z1 zk
  have O:(left.filter λx=>!decide (x∈V')).Sublist left:=List.filter_sublist
  have cc:=aq.sublist O
  have az:∀x∈left.filter (λx=>!decide (x∈V')),x∈row:=λx hx=>ap x (O.subset hx)
  have di:=O.length_le
  have dh:(left.filter λx=>!decide (x∈V'))=[]->D=V':=by
   intro e;rw[<-hD]
   cases fuel with
   |zero=>rfl|succ m=>rw[uL,if_pos e]
  have dg:(left.filter λx=>!decide (x∈V'))≠[]->∃m,fuel=m+1/\D=(if((left.filter λx=>!decide (x∈V')).getD (yY g row S (left.filter λx=>!decide (x∈V'))).toNat default)∈mW g V' row then uL g row S m (Mb g row ((left.filter λx=>!decide (x∈V')).getD (yY g row S (left.filter λx=>!decide (x∈V'))).toNat default) ((left.filter λx=>!decide (x∈V')).eraseIdx (yY g row S (left.filter λx=>!decide (x∈V'))).toNat) V') ((left.filter λx=>!decide (x∈V')).eraseIdx (yY g row S (left.filter λx=>!decide (x∈V'))).toNat)
   else uL g row S m (AQ V' ((left.filter λx=>!decide (x∈V')).getD (yY g row S (left.filter λx=>!decide (x∈V'))).toNat default)) ((left.filter λx=>!decide (x∈V')).eraseIdx (yY g row S (left.filter λx=>!decide (x∈V'))).toNat)):=by
   intro e
   cases fuel with
   |zero=>exact absurd (Ae o_) e|succ m=>exact⟨m,rfl,by rw[<-hD,uL,if_neg e]⟩
  generalize(left.filter λx=>!decide (x∈V'))=c at *
  have al:c.length<=H.length:=by have:=congrArg List.length z;rw[eC]at this;omega
  by_cases R:c=[]
  have aw:=dh R
  subst R
  rcases be with hy|⟨hy,aa⟩
  simp only[go_sem,hy,gQ]
  exact⟨bv,cv,P,by rw[aw,hU],aw ▸ J⟩
  simp only[go_sem,hy,C,aP,<-aa,gQ,nY]
  exact⟨bv,cv,P,by rw[aw,hU],aw ▸ J⟩
  ·obtain⟨m,hm,M⟩:=dg R
   obtain⟨dc,dp⟩:=RY (g:=g) (row:=row) (S:=S) R
   obtain⟨i,cg⟩:=Int.eq_ofNat_of_zero_le dc
   have E:i<c.length:=o_
   have da:i<H.length:=o_
   have ay:((c.length:Int)==0)=false:=se
   rw[cg,nI]at M
   have hx:c.getD i default=H[i]:=by rw[rH,jN E];show c[i]=H[i];have h8:=List.getElem_take (xs:=H) (j:=c.length) (i:=i) (h:=by rw[z];exact E);rw[<-h8];congr 1;exact z.symm
   rw[hx]at M
   have g0:(H.map Id.A)[i]?=some H[i].A:=aO _ H i da
   have dj:H[i]∈row:=by rw[<-hx,rH,jN E];exact az _ (eQ E)
   have ws:=fQ i o_
   have cp:(B++P)[B.length+k]?=some (some (.arr 3 (H.map Id.A))):=by rw[aZ];exact C
   have bn:∀X:aK,(B++(P++X))[B.length+k]?=some (some (.arr 3 (H.map Id.A))):=λX=>by rw[aZ];exact aF C
   have ca:(B++P)[B.length+1]?=some (some (AO S bs cl)):=by rw[aZ];exact bd
   have U:=λ(sl:AV) cb=>aGl (G:=G) (T:=B++P) ci.app hg.ok am.app o_ (sl:=sl) (n:=c.length) cp al o_ cb ca
   rw[z,cg]at U
   have bg:=dB C
   have bi:∀(o b:Option AObj)(X:aK),(P.set k o++b::X)[P.length]?=some b:=λo b X=>by rw[Mc (by rw[cL];exact cN _),cL,YN];rfl
   have bj:∀(o:Option AObj)(X:aK),(P.set k o++X)[0]?=some (some (.box [.ptr l 0])):=λo X=>aF (by rw[aY o_];exact ae)
   refine'(λ(af:(_:Prop))=>?_) ?_
   rotate_left
   rcases be with hy|⟨hy,aa⟩
   simp only[go_sem,hy,ay,ae,nY]
   apply cI (U _ (.inl rfl))
   simp only[go_sem,E,g0,ws,C,pQ,nY]
   apply jA (RX (L:=H) (n:=c.length) (i:=i) (bn _) al (.inl rfl) E)
   rintro r T' ⟨Q,co,u,rfl,rfl⟩
   rw[cP,List.set_append_left _ _ bg]
   simp only[go_sem,bi,bj,nY]
   revert Q
   exact af
   simp only[go_sem,hy,ay,C,ae,aP,<-aa,nY]
   apply cI (U _ (.inr ⟨rfl,aa⟩))
   simp only[go_sem,E,g0,ws,C,aP,<-aa,nY]
   apply jA (RX (L:=H) (n:=c.length) (i:=i) (bn _) al (.inr ⟨rfl,aa⟩) E)
   rintro r T' ⟨Q,co,u,rfl,rfl⟩
   rw[cP,List.set_append_left _ _ bg]
   simp only[go_sem,bi,bj,nY]
   revert Q
   exact af
   rotate_left
   intro Q co u
   rw[z]at u
   have de:(P.set k (some (.arr 3 (Q.map Id.A)))).length=P.length:=cL
   have N:(P.set k (some (.arr 3 (Q.map Id.A))))[0]?=some (some (.box [.ptr l 0])):=by rw[aY o_];exact ae
   have bc:(P.set k (some (.arr 3 (Q.map Id.A))))[1]?=some (some (AO S bs cl)):=by rw[aY o_];exact bd
   have an:(P.set k (some (.arr 3 (Q.map Id.A))))[k]?=some (some (.arr 3 (Q.map Id.A))):=dS C
   rw[<-de]
   clear bi bj bn cp U ca C ae bd bg
   generalize P.set k (some (.arr 3 (Q.map Id.A)))=Z2 at *
   generalize H[i]=x at *
   have dd:(c.eraseIdx i).length=c.length-1:=Rg E
   have ak:=cc.sublist (List.eraseIdx_sublist c i)
   have aj:∀y∈c.eraseIdx i,y∈row:=λy hy=>az y ((List.eraseIdx_sublist c i).subset hy)
   generalize c.eraseIdx i=a at *
   rw[<-dd]at u⊢
   have bq:∀(o:Option AObj)(X:aK),(B++X).set v o=T.set v o++X:=λo X=>by rw[List.set_append_left _ _ (by rw[av];obtain⟨_,_,x,_⟩:=hl.vo;exact dB x),cx]
   have db:(mW g V' row).length<=1000000:=by have:=(Aa (g:=g) (V:=V') row []).length_le;rw[dM]at this;unfold mW;omega
   have bp:=λX:aK=>aF (X:=X) am.box
   apply cI (Xr hK ci.app hg am.app hs hn)
   simp only[go_sem,nY]
   apply iJ (aB _) rfl rfl (Dx (mW g V' row) x db)
   by_cases ah:x∈mW g V' row
   ·rw [if_pos ah]at M
    simp only[go_sem,ah,decide_true,bp,aF N,nY]
    have cq:Mb g row x a V'=row.foldl (λV y=>if(lA g x y||(decide (y∈a)&&B7 g row x y))=true then AQ V y else V) V':=rfl
    rw[cq]at M
    generalize bu:(λ(V:D_)(y:Id)=>if(lA g x y||(decide (y∈a)&&B7 g row x y))=true then AQ V y else V)=d at *
    simp only[ids]
    refine kL (λq st=>∃(j:Nat)(bw:V_)(cw:Nat)(Y:aK),j<=row.length/\q=row.length-j/\Bs ((row.take j).foldl d V').length bw cw /\
     st=⟨B.length,[(87,iv j),(86,iv row.length),(85,ids row),(7,.vw (B.length+k) 3 0 a.length),(9,.ptr (B.length+Z2.length) 0),(2,.mp (B.length+1)),(1,.ptr B.length 0)],T.set v (some (qC ((row.take j).foldl d V') bw cw))++(Z2++some (.box x.A)::Y)⟩) row.length ⟨0,bv,cv,[],pR _,rfl,J,by rw[uQ,Kk,hU];rfl⟩ ?_
    rintro q st ⟨j,bw,cw,Y3,hj,hq,ac,rfl⟩
    rcases eD j row.length with w|au
    ·have cd:=LAt.setV (V':=(row.take j).foldl d V') hl ac
     have ch:=LAt.gset (o:=some (qC ((row.take j).foldl d V') bw cw)) hl h
     have cm:(T.set v (some (qC ((row.take j).foldl d V') bw cw))).length=B.length:=by rw[av];exact cL
     have bz:∀o,(T.set v (some (qC ((row.take j).foldl d V') bw cw))).set v o=T.set v o:=λo=>List.set_set ..
     have cr:v<T.length:=by obtain⟨_,_,x,_⟩:=hl.vo;exact dB x
     have ct:(T.set v (some (qC ((row.take j).foldl d V') bw cw)))[v]?=some (some (qC ((row.take j).foldl d V') bw cw)):=by obtain⟨_,_,x,_⟩:=hl.vo;exact dS x
     have ft:(row.take (j+1)).foldl d V'=d ((row.take j).foldl d V') row[j]:=by rw[lB w,Hy];rfl
     have g0:(row.map Id.A)[j]?=some row[j].A:=aO _ row j w
     have ws:=fQ j o_
     generalize(row.take j).foldl d V'=W at *
     rw[<-cm]
     generalize ck:T.set v (some (qC W bw cw))=T3 at *
     have ax:∀(o:Option AObj)(X:aK),(T3++X).set v o=T.set v o++X:=λo X=>by rw[List.set_append_left _ _ (by rw[cm,av];exact cr),bz]
     have bo:=λX:aK=>aF (X:=X) cd.box
     have bk:=λX:aK=>aF (X:=X) ct
     unfold qC at bk
     have ce:=λX=>GQ (G:=G) (ch.app (X:=X)) hg.ok x row[j]
     have br:=λX=>Zd (G:=G) (ch.app (X:=X)) hg.ok cd.app o_ x row[j]
     simp only[Id.A_def]at ce br
     have bb:∀X:aK,xG (T3++(Z2++X)) [.vw (T3.length+k) 3 0 a.length,.ag row[j].A]=[ids a,.ag row[j].A]:=λX=>by
      have e1:cR (T3++(Z2++X)) (T3.length+k)=some (.arr 3 (Q.map Id.A)):=kU (by rw[aZ];exact aF an);have e2:0+a.length<=(Q.map Id.A).length:=M_;simp only[xG,tB,e1,e2,and_self,if_true,TZ,Id.A_def,<-QN,u,ids]
     have nG:d W row[j]=if(lA g x row[j]||(decide (row[j]∈a)&&B7 g row x row[j]))=true then AQ W row[j] else W:=by rw[<-bu]
     have ao:=λX:aK=>aF (X:=X) N
     simp only[Id.A_def]at bb
     rcases Vg W row[j] ac with⟨j2,bh,he,s⟩|⟨bh,he,s⟩
     all_goals (
      simp only[go_sem,ids,aT w,g0,bo,ao,nY]
      apply cI (ce _)
      cases c1:lA g x row[j]
      rw[c1,EH]at nG
      simp only[go_sem,nY]
      apply iJ (aB _) (bb _) rfl (Dx a row[j] o_)
      by_cases c2:row[j]∈a
      rw[decide_eq_true c2,mF]at nG
      simp only[go_sem,c2,decide_true,ao,nY]
      apply cI (br _)
      cases c3:B7 g row x row[j]
      rw[c3,if_neg d_]at nG
      simp only[go_sem,ws,nY]
      exact⟨row.length-(j+1),o_,j+1,bw,cw,_,o_,rfl,by rw[ft,nG];exact ac,by rw[ft,nG,ck]⟩
      rw[c3,if_pos rfl]at nG
      simp only[go_sem,bo,ao,bk,bh,ax,ws,nY]
      exact⟨row.length-(j+1),o_,j+1,_,_,_,o_,rfl,by rw[ft,nG];exact s,by rw[ft,nG,<-he]⟩
      rw[decide_eq_false c2,lR,if_neg d_]at nG
      simp only[go_sem,c2,decide_false,ws,nY]
      exact⟨row.length-(j+1),o_,j+1,bw,cw,_,o_,rfl,by rw[ft,nG];exact ac,by rw[ft,nG,ck]⟩
      rw[c1,EI,if_pos rfl]at nG
      simp only[go_sem,bo,ao,bk,bh,ax,ws,undef,nY]
      exact⟨row.length-(j+1),o_,j+1,_,_,_,o_,rfl,by rw[ft,nG];exact s,by rw[ft,nG,<-he]⟩)
    obtain rfl:j=row.length:=o_
    rw[dE]at ac⊢
    simp only[go_sem,aS (bP _)]
    exact⟨a.length,o_,a,row.foldl d V',m,bw,cw,Q,_,k,_,rfl,o_,aj,ak,M.symm,o_,ac,aF N,aF bc,aF an,ab,u,.inl rfl,rfl⟩
   rw[if_neg ah]at M
   obtain⟨dt,ds,dk,dq⟩:=am.vo
   have cu:B[v]?=some (some (qC V' bv cv)):=by rw[<-hU];obtain⟨_,_,x,_⟩:=hl.vo;exact dS x
   have bm:=λX:aK=>aF (X:=X) cu
   unfold qC at bm
   rcases Vg V' x J with⟨j,hj,he,s⟩|⟨hj,he,s⟩
   simp only[go_sem,ah,decide_false,bp,aF N,bm,hj,bq,nY]
   exact⟨a.length,o_,a,AQ V' x,m,_,_,Q,_,k,_,rfl,o_,aj,ak,M.symm,o_,s,aF N,aF bc,aF an,ab,u,.inl rfl,by rw[<-he]⟩
   simp only[go_sem,ah,decide_false,bp,aF N,bm,hj,bq,nY]
   exact⟨a.length,o_,a,AQ V' x,m,_,_,Q,_,k,_,rfl,o_,aj,ak,M.symm,o_,s,aF N,aF bc,aF an,ab,u,.inl rfl,by rw[<-he]⟩)
end
def aA.keepL{P:Program}{G:L_}{f:FuncId}{args:O_}{T:aK}{q:Nat->N_->Prop}(E:aA P G f args T λr g=>g.take T.length=T/\∃k c,r=.ls k c/\q k c):
 aA P G f args T λr g=>(∃k c,q k c/\r=.ls k c)/\g=T:=by
 have s:∀{h:GH}{φ:Nat->Value}{w w':World}{v:Value},Inv h φ w T->CS h φ T w (λr g=>g.take T.length=T/\∃k c,r=.ls k c/\q k c) v w'->CS h φ T w (λr g=>(∃k c,q k c/\r=.ls k c)/\g=T) v w':=by
  rintro h φ w w' v hI ⟨r,g,J,p,⟨z,k,c,rfl,B⟩,d,l,A⟩;have n:∀i o,T[i]?=some (some o)->g[i]?=some (some o):=λi o e=>by
   have C:i<T.length:=(sV.1 e).1;have h3:(g.take T.length)[i]?=some (some o):=by rw[z];exact e
   rwa[List.getElem?_take_of_lt C]at h3
  refine⟨.ls k c,T,J,p,⟨⟨k,c,B,rfl⟩,rfl⟩,?_,?_,by simpa only[Rp]using A⟩;exact⟨d.os,d.tape,d.output,d.size,d.frame,d.le,d.gfr,d.phi,λi o b D F=>d.org i o b (n i o D) F,cN _,d.drawn⟩;exact⟨l.gh,λi o e=>GP (l.obj i o (n i o e)) (hI.obj i o e),λi j y x b u t=>l.dis i j y x b (n i y u) (n j x t)⟩
 intro h φ w m H hI I;rcases E h φ w m H hI I with⟨a,b⟩|⟨v,w',a,b⟩
 exact .inl ⟨a,b.mono λe w' ⟨v,u,t⟩=>⟨v,u,s hI t⟩⟩;grind
def B8(l:D_)(x:Id):Bool:=l.any λy=>l.any λz=>!decide (y=z)&&(y.a==x.a&&(z.a==x.a&&(y.b==z.b&&decide (y.b<=x.b))))
def TI(G:L_):Prop:=∀(T:aK)(p:Nat×Nat×Nat)(g:PGM)(l:D_),GAt T p g->GGood g->l.Nodup->(∀x∈l,x∈g.I) ->
 aA PQ G Bh [.ptr p.1 0,ids l] T λr a=>(∃V:D_,(∀x,x∈V↔x∈l/\B8 l x=true)/\V.Nodup/\r=ids V)/\a=T
section
variable{T:aK}{p:Nat×Nat×Nat}{g:PGM}
def aO3(T:aK)(p:Nat×Nat×Nat)(g:PGM)(l:D_)(r:AV)(T':aK):Prop:=∃(a v f:Nat)(V:D_),r=.ptr a 0/\(∃X,T'=T++X)/\T.length<=v/\LAt T' a v f p (eO g l) V V/\∀x,x∈V↔x∈l/\B8 l x=true
def aKM(H:TI G)(h:GAt T p g)(q:GGood g){l:D_}(t:∀x∈l,x∈g.I)(o:l.Nodup):
 aA PQ G F6 [.ptr p.1 0,ids l] T (aO3 T p g l):=by
 have C:l.length<=200:=by have:=List.Nodup.length_le_of_subset o t;have h2:=q.ok.n;grind[PGM.I,List.length_map]
 apply fT Sv;simp only[go_sem,nY];apply cI (aG9 h q.ok l o o_);simp only[go_sem,nY];apply jA (H _ _ _ _ h.app q o t);rintro y O ⟨⟨V,j,r,rfl⟩,u⟩;obtain rfl:=u.symm;have F:V.length<=200:=by have:=List.Nodup.length_le_of_subset r (λx B=>((j x).1 B).1);omega
 simp only[go_sem,ids,aP]
 refine kL (λn s=>∃(i:Nat)(bs:V_)(cl:Nat)(Y:aK),i<=V.length/\n=V.length-i/\Bs (V.take i).length bs cl /\
  s=⟨T.length,[(20,iv i),(19,iv V.length),(18,ids V),(5,.ptr (T.length+2) 0)],T++some (qC (V.take i) bs cl)::some (qC (V.take i) bs cl)::some (.box [.ptr p.1 0,ids (eO g l),.mp T.length,.mp (T.length+1)])::Y⟩) V.length ⟨0,[],0,[],pR _,rfl,⟨rfl,s_,s_⟩,rfl⟩ ?_
 clear u;rintro n s ⟨i,bs,cl,Y,N,D,f,rfl⟩;rcases eD i V.length with e|E;have L:(V.map Id.A)[i]?=some V[i].A:=aO _ V i e;have w:=fQ i o_;have M:V.take (i+1)=V.take i++[V[i]]:=lB e;have m:V[i]∉V.take i:=by grind[List.nodup_append]
 have d:eR [.int .i64,.int .i64,.int .u64] [.int .i64 V[i].a,.int .i64 V[i].b,.int .u64 V[i].c] ((V.take i).map Id.K) 0=some (((V.take i).findIdx? λy=>decide (y=V[i])).map (· + 0)):=qH V[i] (V.take i) 0;rw[eG m]at d;simp only[xD]at d;have k:∀(W:D_)(x:Id) bs cl,AObj.map true (W.map Id.K++[[.int .i64 x.a,.int .i64 x.b,.int .u64 x.c]]) ((W.map λ_=>AV.v (.bool true))++[.v (.bool true)]) bs cl=qC (W++[x]) bs cl:=λW x bs cl=>by simp[qC,Id.K]
 have fl:=MV f.lt;have z:=λy:AV=>JM (x:=AV.v (.bool false)) (y:=y) (show((V.take i).map λ_=>AV.v (.bool true)).length=bs.length by rw[aP,f.len]);rw[show qC (V.take i) bs cl=AObj.map true ((V.take i).map Id.K) ((V.take i).map λ_=>AV.v (.bool true)) bs cl from rfl];simp only[go_sem,ids,aT e,L,d,fl,z,w,nY];rw[k,<-M];have J:min (i+1) V.length=(V.take i).length+1:=p_;exact⟨_,(by omega:V.length-(i+1)<n),i+1,_,_,_,o_,rfl,by rw[J];exact f.suc,rfl⟩;obtain rfl:i=V.length:=o_;rw[dE]at f⊢;simp only[go_sem,aS (bP _)];refine⟨T.length+2,T.length,T.length+1,V,rfl,⟨_,rfl⟩,cN _,⟨?_,⟨bs,cl,?_,f⟩,⟨bs,cl,?_,f⟩,?_⟩,j⟩;rw[aZ];rfl;rw[fF];rfl;rw[aZ];rfl;have:=dB h.a;have:=dB h.b;have:=dB h.c;omega
def aEN(u:AK G)(B:TI G)(h:GAt T p g)(j:GGood g){l:D_}(s:∀x∈l,x∈g.I)(t:l.Nodup):
 aA PQ G pN [.ptr p.1 0,ids l] T λr n=>(∃V:D_,(∀x,x∈V↔x∈l/\B8 l x=true)/\r=ids (mW g (sU g (eO g l) V) (eO g l)))/\n=T:=by
 have b:∀x∈eO g l,x∈g.I:=λx w=>s x ((mE g l).mem_iff.1 w);have c:(eO g l).Nodup:=(mE g l).nodup_iff.2 t;refine(aA.keepL (q:=λk C=>k=3/\∃V:D_,(∀x,x∈V↔x∈l/\B8 l x=true)/\C=(mW g (sU g (eO g l) V) (eO g l)).map Id.A) (fT KA ?_)).mono ?_;rotate_left;simp_all;simp only[go_sem,nY];apply jA (aKM B h j s t);rintro y n ⟨a,v,f,V,rfl,⟨X,rfl⟩,E,e,m⟩;simp only[go_sem,nY];apply jA (Vh u h.app j e b c);rintro y n ⟨bs,D,Y,rfl,z⟩;have d:=(e.setV z).app (X:=Y);have i:=(e.gset (o:=some (qC (sU g (eO g l) V) bs D)) h.app).app (X:=Y);simp only[go_sem,nY];apply cI (Xr u i j d b c);simp only[go_sem];refine⟨?_,3,_,rfl,rfl,V,m,rfl⟩;simp_all
def Xv(l:B_)(c:l.length<=maxLen):aA PQ G tX [ints l] [] λr T=>r=iv (nF l)/\T=[]:=by refine aC ET ?_;unfold maxLen at c;simp only[go_sem,aP];refine aQ l.length (λi=>⟨0,[(3,iv 0),(6,ints l),(7,iv l.length),(8,iv i)],[]⟩) (λi=>∀j,j<i->l.getD j 0=0) ?_ s_ ?_ ?_;rfl;intro i b a;simp only[go_sem,aT b,aO I1 l i b,aOC];refine aL (λh=>?_) (λh=>?_)<;>simp only[go_sem,fQ i o_];rw[Iv a b w_];grind;intro a;simp only[go_sem,aS (bP _),Iw a]
def Gk(g:PGM)(l V:D_)(x:Id):Int :=
 if x∉g.I\/x∉l then 4 else if x∈V then 13 else if x∈mW g (sU g (eO g l) V) (eO g l) then 0 else if(mW g (sU g (eO g l) V) (eO g l)).any (λy=>lA g y x)=true then 15
 else if mT (Lo g (mW g (sU g (eO g l) V) (eO g l)) x) (g.nd x).o=0 then 15 else mT (Lo g (mW g (sU g (eO g l) V) (eO g l)) x) (g.nd x).o
def aIO(h:GAt T p g)(e:g.ok){b c:Nat}{x:Id}(i:T[b]?=some (some (.box [.ptr p.1 0])))(f:T[c]?=some (some (.box x.A)))(y:Id):
 aA PQ G DM [.ag y.A,.ptr b 0,.ptr c 0] T λr k=>r=.v (.bool (lA g y x))/\k=T:=by
 apply eH Lc;have j:=λX:aK=>aF (X:=X) i;have d:=λX:aK=>aF (X:=X) f;have a:=λX=>GQ (G:=G) (h.app (X:=X)) e y x;simp only[Id.A_def]at a d;simp only[go_sem,j,d,nY];apply cI (a _);simp only[go_sem,aH]
def aKN (hK:AK G) (hV:TI G) (h:GAt T p g) (u:GGood g) {l:D_} (hs:∀x∈l,x∈g.I) (hn:l.Nodup) (x:Id):
 aA PQ G wB [.ptr p.1 0,ids l,.ag x.A] T λr B=>(∃V:D_,(∀x,x∈V↔x∈l/\B8 l x=true)/\r=iv (Gk g l V x))/\B=T:=by
 have E:∀x∈eO g l,x∈g.I:=λx D=>hs x ((mE g l).mem_iff.1 D);have H:(eO g l).Nodup:=(mE g l).nodup_iff.2 hn;refine(aA.keep (q:=λw=>∃V:D_,(∀x,x∈V↔x∈l/\B8 l x=true)/\w=.int .i64 (Gk g l V x)) ((fT P2 (post:=λr B=>B.take T.length=T/\∃V:D_,(∀x,x∈V↔x∈l/\B8 l x=true)/\r=iv (Gk g l V x)) ?_).mono ?_)).mono ?_;rotate_left;rintro r B ⟨ht,V,aa,rfl⟩;exact⟨⟨B.drop T.length,by have:=(LC T.length B).symm;rwa[ht]at this⟩,_,rfl,V,aa,rfl⟩;simp_all;simp only[go_sem,nY];apply jA (aKM hV h.app u hs hn);rintro y B ⟨a,v,f,V,rfl,⟨X,rfl⟩,hv,hl,aa⟩;have O:GAt (T++[some (AObj.box [.ptr p.1 0]),some (AObj.box [iv x.a,iv x.b,.v (.int .u64 x.c)])]++X) p g:=h.app.app;have ac:(T++[some (AObj.box [.ptr p.1 0]),some (AObj.box [iv x.a,iv x.b,.v (.int .u64 x.c)])]++X).take T.length=T:=s_;have u0:(T++[some (AObj.box [.ptr p.1 0]),some (AObj.box [iv x.a,iv x.b,.v (.int .u64 x.c)])]++X)[T.length]?=some (some (.box [.ptr p.1 0])):=s_;have u1:(T++[some (AObj.box [.ptr p.1 0]),some (AObj.box [iv x.a,iv x.b,.v (.int .u64 x.c)])]++X)[T.length+1]?=some (some (.box x.A)):=by rw[eB,aZ];rfl
 have ad:T.length+2<=v:=h_;generalize T++[some (AObj.box [.ptr p.1 0]),some (AObj.box [iv x.a,iv x.b,.v (.int .u64 x.c)])]++X=U at *
 simp only[go_sem];apply jA (Vh hK O u hl E H);rintro y B ⟨bs,cl,Y,rfl,hb⟩;have ab:T.length<=U.length:=m_;have L:=(hl.setV hb).app (X:=Y);have t:=(hl.gset (o:=some (qC (sU g (eO g l) V) bs cl)) O).app (X:=Y);have al:(U.set v (some (qC (sU g (eO g l) V) bs cl))++Y).take T.length=T:=by rw[Rf (by rw[cL];exact ab),List.take_set_of_le o_];exact ac
 have w0:(U.set v (some (qC (sU g (eO g l) V) bs cl))++Y)[T.length]?=some (some (.box [.ptr p.1 0])):=aF (by rw[aY o_];exact u0);have w1:(U.set v (some (qC (sU g (eO g l) V) bs cl))++Y)[T.length+1]?=some (some (.box x.A)):=aF (by rw[aY o_];exact u1);generalize U.set v (some (qC (sU g (eO g l) V) bs cl))++Y=W at *
 clear u0 u1 ac O hl hb hv ad ab;simp only[go_sem];apply cI (Xr hK t u L E H);have F:(mW g (sU g (eO g l) V) (eO g l)).Sublist (eO g l):=by have:=Aa (g:=g) (V:=sU g (eO g l) V) (eO g l) [];rwa[dM]at this
 have M:∀y∈mW g (sU g (eO g l) V) (eO g l),y∈g.I:=λy hy=>E y (F.subset hy);have N:(mW g (sU g (eO g l) V) (eO g l)).Nodup:=H.sublist F;clear F;have ai:(mW g (sU g (eO g l) V) (eO g l)).length<=200:=by have:=List.Nodup.length_le_of_subset N M;have h2:=u.ok.n;grind[PGM.I,List.length_map]
 have ah:l.length<=200:=by have:=List.Nodup.length_le_of_subset hn hs;have h2:=u.ok.n;grind[PGM.I,List.length_map]
 have e:Gk g l V x=Gk g l V x:=rfl
 conv at e=>rhs;unfold Gk
 generalize mW g (sU g (eO g l) V) (eO g l)=d at *
 simp only[go_sem];apply cI (Vc _ _ (λy=>lA g y x) d o_ (λy _=>aIO t u.ok w0 w1 y));have a0:=λX:aK=>aF (X:=X) L.box;have b0:=λX:aK=>aF (X:=X) w0;have P:=λX:aK=>aF (X:=X) w1;simp only[Id.A_def]at P w1;have ak:∀X:aK,(W++X).take T.length=T:=λX=>m_;simp only[go_sem,w0,w1,nY];by_cases D:x∈g.I;have Q:=S5 (G:=G) t u.ok x D;simp only[Id.A_def]at Q;apply cI Q;simp only[go_sem,P,nY];apply iJ (aB _) rfl rfl (Dx l x o_);by_cases k:x∈l;obtain⟨bf,cf,hf,aj⟩:=L.fo;have af:=λX:aK=>aF (X:=X) hf;unfold qC at af;have i:eR [.int .i64,.int .i64,.int .u64] [.int .i64 x.a,.int .i64 x.b,.int .u64 x.c] (V.map Id.K) 0=some ((V.findIdx? λy=>decide (y=x)).map (· + 0)):=qH x V 0;rw[if_neg (by simp[D,k])]at e;by_cases z:x∈V;obtain⟨j,e1,lj,_⟩:=dG z;rw[e1]at i;simp only[iX,mG]at i;have gv:(V.map λ_=>AV.v (.bool true))[j]?=some (.v (.bool true)):=h_;rw[if_pos z]at e;simp only[go_sem,k,decide_true,a0,af,i,gv,P,nY];grind;rw [eG z]at i;simp only[xD]at i;rw[if_neg z]at e;simp only[go_sem,k,decide_true,a0,af,i,P,nY];apply iJ (aB _) rfl rfl (Dx d x o_);by_cases m:x∈d;rw[if_pos m]at e;simp only[go_sem,m,decide_true];grind;rw[if_neg m]at e;cases S:d.any (λy=>lA g y x);rw[S,if_neg d_]at e;simp only[go_sem,m,decide_false,P,nY];have C:=λX:aK=>aKu (G:=G) (t.app (X:=X)) u (a0 X) d M N x;simp only[Id.A_def]at C;apply jA (C _);rintro y B ⟨s,rfl,hA⟩;obtain⟨X2,Z⟩:=hA.ext;have ae:=hA.at';simp only[eB,jC,dM]at Z;subst Z;have R:=O8 (G:=G) hK ae (RV u M N x) u.cards (g.nd x).o x (by have:=(u.op D).1.gl;omega);simp only[go_sem,P,nY];apply cI R;simp only[go_sem,nY];have J:xG (W++some (AObj.box (g.nd x).o.A)::(X2++[some (AObj.arr 1 [[iv (mT (Lo g d x) (g.nd x).o)],[iv 15]])])) [.own (W.length+(X2.length+1))]=[ints [mT (Lo g d x) (g.nd x).o,15]]:=by have e1:cR (W++some (AObj.box (g.nd x).o.A)::(X2++[some (AObj.arr 1 [[iv (mT (Lo g d x) (g.nd x).o)],[iv 15]])])) (W.length+(X2.length+1))=some (.arr 1 [[iv (mT (Lo g d x) (g.nd x).o)],[iv 15]]):=kU (by rw[aZ,oX,aD]);simp only[xG,tB,e1];rfl
 apply iJ (aB _) J rfl (Xv _ (by simp[maxLen]));simp only[go_sem];grind[nF];rw[S,if_pos rfl]at e;simp only[go_sem,m,decide_false];grind;rw[if_pos (.inr k)]at e;simp only[go_sem,k,decide_false];grind;have Q:=MW (G:=G) t x D;simp only[Id.A_def]at Q;rw[if_pos (.inl D)]at e;apply cI Q;simp only[go_sem,P1,undef,nY];grind
end
end Hud
