import Derived.Test.YtlhonkjgkfdnmaaGreatDoorLib09
import Derived.OrdersIn
import Derived.TacticsIn
import Derived.RangeFuncRecord
set_option linter.all false
namespace Hud
open Go
def qP(P:Program)(N:Nat)(a:Array Oper)(o:Oper):Option HOper :=
 if o.dst.all (· < N)=false then none else
 match HB P o with
 |none=>none| some h=>match o.guard with|none=>some ⟨o.dst,h,none⟩|some (j,b)=>match(a[j]?).bind (·.dst) with|some d=>some ⟨o.dst,h,some (d,b)⟩|none=>none
def gH(P:Program)(N:Nat)(a:Array Oper):List Oper->Option (List HOper)|[]=>some []|o::b=>match qP P N a o,gH P N a b with|some h,some c=>some (h::c)|_,_=>none
def aCl(l:List (Nat×AV))(j i:Nat)(h:i≠j):bA (LE l j) i=bA l i:=by
 induction l with
 |nil=>rfl|cons p l ih=>
  grind[LE,bA]
def IP(l:List (Nat×AV))(j i:Nat)(x:AV):bA (GW l j x) i=if j=i then x else bA l i:=by unfold GW;simp only[bA];split;rfl;rename_i h;exact aCl l j i (λe=>h e.symm)
def aF3{p q:Nat×AV}{l:List (Nat×AV)}(h:q∈LG p l):q=p\/q∈l:=by
 induction l with
 |nil=>simp only[LG,cA]at h;exact .inl h|cons r l ih=>
  grind[LG]
def aCm{q:Nat×AV}{l:List (Nat×AV)}(h:q∈sA l):q∈l:=by
 induction l with
 |nil=>simp[sA]at h|cons p l ih=>
  rcases aF3 h with h|h;simp[h];simp[ih h]
def IQ{d:V_}{q:Nat×AV}{l:List (Nat×AV)}(h:q∈mV d l):q∈l:=by
 induction l with
 |nil=>simp[mV]at h|cons p l ih=>
  grind[mV]
def Jc(l:List (Nat×AV)):Prop:=∀i x y,(i,x)∈l->(i,y)∈l->x=y
def NE{l:List (Nat×AV)}(h:Jc l){i:Nat}{x:AV}(c:(i,x)∈l):bA l i=x:=by
 induction l with
 |nil=>simp at c| cons p l ih=>
  obtain⟨k,y⟩:=p;simp only[bA];split;rename_i d;subst d;exact h k y x s_ c;rename_i d;rcases cS.1 c with c|c;simp_all;exact ih (λi a b f e=>h i a b (by simp[f]) az) c
def Rw{l:List (Nat×AV)}{i:Nat}:bA l i=.any\/(i,bA l i)∈l:=by
 induction l with
 |nil=>exact .inl rfl|cons p l ih=>
  grind[bA]
def IR{l:List (Nat×AV)}(h:Jc l)(j:Nat):(∀q∈LE l j,q∈l/\q.1≠j):=by
 intro q c
 induction l with
 |nil=>simp[LE]at c|cons p l ih=>
  obtain⟨k,y⟩:=p;have f:Jc l:=λi a b e d=>h i a b az gf;grind[LE]
def NF{l:List (Nat×AV)}(h:Jc l)(j:Nat)(x:AV):Jc (GW l j x):=by intro i a b d c;unfold GW at d c;rcases cS.1 d with d|d<;>rcases cS.1 c with c|c;simp_all;injection d with h1 _;exact absurd h1 (IR h j _ c).2;injection c with h1 _;exact absurd h1 (IR h j _ d).2;exact h i a b (IR h j _ d).1 (IR h j _ c).1
def WE{L:V_}{q:Nat×AV}{l:List (Nat×AV)}(h:q∈Td L l):∃x,(q.1,x)∈l/\q.2=Bd L x:=by
 induction l with
 |nil=>simp[Td]at h|cons p l ih=>
  grind[Td]
def fe:Option Nat->Fence|none=>Fence.wide|some l=>Fence.wide.inRound l
def Ye(ro:Option Nat)(f:FuncId):(fe ro).fn f:=by cases ro<;>trivial
def T4(ro:Option Nat):(fe ro).round=ro:=by cases ro<;>rfl
def T5(ro:Option Nat):(fe ro).depth=none:=by cases ro<;>rfl
def NG{P:Program}{ro:Option Nat}{f:FuncId}{args:Array Value}{w:World}{R:Ending->World->Prop}(h:Calls P f args w R):CallsIn (fe ro) 0 P f args w R:=by have:=(callsIn_wide (n:=0)).2 h;cases ro<;>exact this
def WF{P:Program}{ro:Option Nat}{l:Nat}{f:FuncId}{tmps:Array Value}{a body:Code}{w:World}{R:Ending->World->Prop}(h:RoundIn Fence.wide 0 P l f tmps a body w R):RoundIn (fe ro) 0 P l f tmps a body w R:=by cases ro<;>exact h
def aGS{P:Program}{ro:Option Nat}{o:Oper}{a:Act}{w:World}{next:Act->World->Prop}{Q:Exit->Act->World->Prop}(p:∀c,o.op≠.defer c)(h:rL P o a w next):o.wpIn (fe ro) 0 P a w next Q:=by
 refine⟨λf _=>Ye ro f,?_⟩;have m:o.semAt (fe ro).round a.eval=execOp a.eval o:=by simp_all[T4,Oper.semAt]
 rw[m];unfold rL at h;have b:(fe ro).depth.isSome=true->1<=0:=λi=>by rw[T5]at i;simp at i
 split at h;rename_i v d e;rw[e];exact h;rename_i d e;rw[e];exact h;rename_i f k d e;rw[e];refine⟨b,(NG h).mono ?_⟩;simp_all;rename_i l f g n j d e;rw[e];refine⟨b,(WF h).mono ?_⟩;simp_all;exact h.elim
def IS{P:Program}{o:Oper}{h:HOp}(a:HB P o=some h):∀c,o.op≠.defer c:=by grind[HB,gG,Lx,Lz,aLs,L3,L4]
def Eo(w0:World)(a:Act)(w:World):Prop :=
 (a.defers.Pairwise λx y=>x.target≠y.target)/\∀d∈a.defers,∃D,d.target=.collected D/\w0.heap.size<=D/\w.heap[D]?=some (.deferred (some []))
def NH{h:GH}{φ:Nat->Value}{n:Nat}{w:World}{i:Nat}{o:AObj}(e:uF h φ n w i o){g:Nat}(v:kI (φ i)=some g)(ds:Option (List Deferred)):w.heap[g]?≠some (.deferred ds):=by
 cases o with
 |box x=>
  obtain⟨a,p,E,h1,h2,h3,_⟩:=e;grind[kI,Option.some.injEq]
 |arr k f=>
  obtain⟨_,⟨A,h1⟩|⟨a,c,d,E,h1,h2,_,_,_,h3,_⟩⟩:=e;simp_all[kI];grind[kI,Option.some.injEq]
 |arf k f=>
  obtain⟨_,⟨A,h1⟩|⟨a,c,d,E,h1,h2,_,_,_,h3,_⟩⟩:=e;simp_all[kI];grind[kI,Option.some.injEq]
 |lp r s=>
  obtain⟨a,h1,h2,h3,_⟩:=e;grind[kI,Option.some.injEq]
 |mit m b aAD q=>
  obtain⟨a,t,h1,h2,h3,_⟩:=e;grind[kI,Option.some.injEq]
 |map z u l bs y=>
  obtain⟨a,j,h1,h2,h3,_⟩:=e;grind[kI,Option.some.injEq]
def Eo.keep{w0 w w':World}{a:Act}{h h':GH}{φ b:Nat->Value}{T T':aK}(e:Eo w0 a w)(hI:Inv h φ w T)(k:Evo h φ T w h' b T' w'):Eo w0 a w':=by
 refine⟨e.1,λd g=>?_⟩;obtain⟨D,h1,h2,h3⟩:=e.2 d g;refine⟨D,h1,h2,?_⟩;have c:D<w.heap.size:=m_;rw[k.frame D c λi o f j=>NH (hI.obj i o f) j _ h3];exact h3
def Eo.put{w0 w:World}{a:Act}(b:Eo w0 a w)(o:Option Nat)(v:Value):Eo w0 (a.put o v) w:=by
 cases o with
 |none=>exact b|some j=>exact b
structure SInv(P:Program)(G:Nat->Option (List AV))(N:Nat)(h0:GH)(φ0:Nat->Value)(T0:aK)(w0:World)(st:St)(a:Act)(w:World):Prop where
 r:st.r=T0.length
 once:Jc st.s
 ex:∃h φ,tU G h/\Evo h0 φ0 T0 w0 h φ st.T w/\Inv h φ w st.T/\uN h φ st.T.length st.s a
 sz:N<=a.tmps.size
 df:Eo w0 a w
section
variable{P:Program}{G:L_}{N:Nat}{h0:GH}{φ0:Nat->Value}{T0:aK}{w0:World}{a:Act}{w:World}
def Ep{st:St}(d:V_)(R:SInv P G N h0 φ0 T0 w0 st a w):SInv P G N h0 φ0 T0 w0 (DB d st) a w:=by
 obtain⟨v,c,⟨h,t,S,g,hI,B⟩,u,A⟩:=R;have m:(Bc st.T (List.range st.r++PS (sA (mV d st.s)))).Nodup:=Tj _ _;obtain⟨l,D⟩:∃l,Bc st.T (List.range st.r++PS (sA (mV d st.s)))=List.range st.r++l:=by exact Tk st.T st.r _
 have z:DB d st=⟨st.r,Td (Bc st.T (List.range st.r++PS (sA (mV d st.s)))) (sA (mV d st.s)),GX (Bc st.T (List.range st.r++PS (sA (mV d st.s)))) st.T⟩:=rfl;rw[z];revert m D;generalize Bc st.T (List.range st.r++PS (sA (mV d st.s)))=L;intro m D;have k:Kr L t (λj=>t (L.getD j 0)):=by intro j i e;simp_all
 have p:(GX L st.T).length=L.length:=by simp[GX]
 have n:∀i,i<st.r->L[i]?=some i:=m_;have f:∀i x,(i,x)∈sA (mV d st.s)->(i,x)∈st.s:=λi x O=>IQ (aCm O);refine⟨v,?_,⟨h,_,S,?_,aCb m hI k,?_⟩,u,A⟩;intro i x y M K;obtain⟨I,h1,h2⟩:=WE M;obtain⟨H,h3,F⟩:=WE K;simp only at h2 F;rw[h2,F,c i I H (f _ _ h1) (f _ _ h3)];refine⟨g.os,g.tape,g.output,g.size,g.frame,g.le,g.gfr,λi Q=>?_,λi o b e E=>?_,?_,g.drawn⟩;have h1:=n i o_;show t (L.getD i 0)=_;rw[rH,h1];exact g.phi i Q;obtain⟨C,J,h1,h2,_⟩:=IM e;have q:=k i C h1;simp only at q;simp only[q]at E;exact g.org C J b h2 E;simp_all;intro i;show Rp h _ (GX L st.T).length (bA (Td L (sA (mV d st.s))) i) _;rcases Rw (l:=Td L (sA (mV d st.s))) (i:=i) with e|e;rw[e];simp[Rp];obtain⟨x,h1,h2⟩:=WE e;simp only at h1 h2;rw[h2,p];have:=B i;rw[NE c (f _ _ h1)]at this;exact V3 k this
def IT{h:GH}{φ:Nat->Value}{n:Nat}{s:List (Nat×AV)}{o:Option Nat}{x:AV}{v:Value}(c:uN h φ n s a)(e:Rp h φ n x v)(d:∀j,o=some j->j<a.tmps.size):uN h φ n (fV s o x) (a.put o v):=by
 intro i
 cases o with
 |none=>exact c i|some j=>
  have f:=d j rfl;simp only[fV,IP,Act.put];split;simp_all;rename_i b;rw[show(a.tmps.setIfInBounds j v).getD i undef=a.tmps.getD i undef from by simp[TR,b]];exact c i
def IU {h:GH} {φ:Nat->Value} {n:Nat} {s:List (Nat×AV)} {c:Array Oper} {o:Oper} {g:Option (Nat×Bool)} {b:Bool} (u:uN h φ n s a)
 (q:match o.guard with|none=>g=none|some (j,t)=>∃d,(c[j]?).bind (·.dst)=some d/\g=some (d,t)) (f:fY s g=some b):Region.wanted o (yielded c a.tmps)=b:=by
 cases p:o.guard with
 |none=>
  grind[fY,Option.some.injEq,Region.wanted]
 | some r=>
  obtain⟨j,t⟩:=r;rw[p]at q;obtain⟨d,w,rfl⟩:=q;have i:=u d;simp only[fY]at f;have e:yielded c a.tmps j=(match a.tmps[d]? with|some (.bool x)=>some x|_=>none):=by unfold yielded;grind
  split at f;rename_i x l;rw[l]at i;simp only[Rp]at i;injection f with f;have:a.tmps[d]?=some (.bool x):=by rcases eD d a.tmps.size with m|k;simp_all;rw[TR,Hz k]at i;simp[undef]at i
  grind[Region.wanted];rename_i v l;rw[l]at i;simp only[Rp]at i;cases f;have:yielded c a.tmps j=none:=by rw[e];rcases eD d a.tmps.size with m|k;simp_all;simp_all
  grind[Region.wanted];simp at f
def Gt{a:Array Oper}{o:Oper}{b:HOper}(c:qP P N a o=some b):
 (∀j,o.dst=some j->j<N)/\b.dst=o.dst/\HB P o=some b.op/\(match o.guard with|none=>b.guard=none|some (j,t)=>∃d,(a[j]?).bind (·.dst)=some d/\b.guard=some (d,t)):=by
 grind[qP]
def AT{l:List (Nat×AV)}(h:Jc l)(o:Option Nat)(x:AV):Jc (fV l o x):=by
 cases o with
 |none=>exact h|some j=>exact NF h j x
def DJ {ro:Option Nat} {p:Array Oper} {Q:Exit->Act->World->Prop} {l2:List Oper}:∀{l:List Oper}{C:List HOper}{st:St}{a:Act}{w:World}{K:St->Prop},gH P N p l=some C->Mp P G C st K->SInv P G N h0 φ0 T0 w0 st a w ->
 (∀u O D,K u->SInv P G N h0 φ0 T0 w0 u O D->wpListIn (fe ro) 0 P p Q l2 O D)->wpListIn (fe ro) 0 P p Q (l++l2) a w
 |[],C,st,a,w,K,g,k,E,B=>by
  simp only[gH,E_]at g;subst g;exact B st a w k E
 | o::l,C,st,a,w,K,g,k,E,B=>by
  simp only[gH]at g;split at g;rename_i X T h1 h2;cases g;obtain⟨I,d,⟨h,R,H,J,hI,e⟩,r,z⟩:=E;obtain⟨c1,c2,c3,M⟩:=Gt h1;have n:∀j,o.dst=some j->j<a.tmps.size:=λj V=>CV (c1 j V) r;have m:∀v,N<=(a.put o.dst v).tmps.size:=by
   intro v
   cases o.dst with
   |none=>exact r|some j=>simpa[Act.put]using r
  simp only[Mp]at k;rw[c2]at k;split at k;rename_i q;have b:=IU e M q;rw[jC];unfold wpListIn;rw[if_pos b];refine aGS (IS c3) (NC c3 k H hI e λv D y=>?_);obtain⟨x,W,L,t,U,c,F,S⟩:=y;have A:uN L t W.length st.s a:=λi=>(e i).mono c.le c.len c.phi;exact DJ h2 U ⟨I,AT d _ _,⟨L,t,H.mono c.le,J.trans c,F,IT A S n⟩,m v,(z.keep hI c).put _ _⟩ B;rename_i q;have b:=IU e M q;rw[jC];unfold wpListIn;rw[if_neg (by simp[b])];exact⟨λf _=>Ye ro f,DJ h2 k ⟨I,AT d _ _,⟨h,R,H,J,hI,IT e z_ n⟩,m _,z.put _ _⟩ B⟩;exact k.elim;simp at g
def aA7{ro:Option Nat}{c:Array Oper}{Q:Exit->Act->World->Prop}{l:List Oper}{e:List HOper}{st:St}{a:Act}{w:World}{K:St->Prop}(i:gH P N c l=some e)(g:Mp P G e st K)(j:SInv P G N h0 φ0 T0 w0 st a w)
 (h:∀b f d,K b->SInv P G N h0 φ0 T0 w0 b f d->Q .normal f d):wpListIn (fe ro) 0 P c Q l a w:=by
 have:=DJ (ro:=ro) (Q:=Q) (l2:=[]) i g j h;simp_all
def Ks{d:Array Oper}:∀{l l2:List Oper}{e c:List HOper},gH P N d l=some e->gH P N d l2=some c->gH P N d (l++l2)=some (e++c)|[],l2,e,c,h,h2=>by simp only[gH,E_]at h;subst h;exact h2|o::l,l2,e,c,h,h2=>by simp only[gH]at h;split at h;rename_i a b g f;cases h;simp only[jC,gH,g,Ks f h2];simp at h
def IV{c:Array Oper}{o:Oper}{l:List Oper}{d:List HOper}(h:gH P N c (o::l)=some d):∃a b,qP P N c o=some a/\gH P N c l=some b/\d=a::b:=by grind[gH]
end
section
open Classical in
noncomputable def shutG(h:GH)(φ:Nat->Value)(i:Nat)(w:World):GH:=λb=>
 if kI (φ i)=some b then(match w.heap[b]? with|some (.cells a _ _)=>some a|_=>none) else h b
section
variable{h:GH}{φ:Nat->Value}{T:aK}{w:World}{i k:Nat}{es:N_}
def Qf(hI:Inv h φ w T)(d:T[i]?=some (some (.arr k es))){b:Nat}(f:kI (φ i)=some b):∃a E,w.heap[b]?=some (.cells a E (0,0))/\shutG h φ i w b=some a:=by
 have:∃a E,w.heap[b]?=some (.cells a E (0,0)):=by obtain⟨_,⟨A,h1⟩|⟨g,c,e,E,h1,h2,_⟩⟩:=hI.obj i _ d;simp_all[kI];grind[kI,Option.some.injEq]
 grind[shutG]
def F0{b:Nat}(a:kI (φ i)≠some b):shutG h φ i w b=h b:=by grind[shutG]
def Cf(hI:Inv h φ w T)(a:T[i]?=some (some (.arr k es))):CA h (shutG h φ i w):=by intro b d e;rw[F0];exact e;intro c;have:=(iT (hI.obj i _ a) c).2;simp_all
def Jd(hI:Inv h φ w T)(f:T[i]?=some (some (.arr k es))):(∃A,φ i=.slice A 0 0/\es=[])\/∃g c,φ i=.slice (some ⟨g,0,none⟩) es.length c/\es.length<=c/\c<=maxLen/\kF (shutG h φ i w) g k es 0:=by obtain⟨m,h1|⟨g,c,o,E,d,l,h2,h3,s,r,n⟩⟩:=hI.obj i _ f;exact .inl h1;refine .inr ⟨g,c+1,d,h2,h3,?_⟩;obtain⟨p,t,a,e⟩:=Qf hI f (b:=g) e_;rw[l]at a;cases a;refine kF.of_list (n.mono (Cf hI f)) m λj v q=>?_;grind[oY]
mutual
def Rx (hI:Inv h φ w T) (p:T[i]?=some (some (.arr k es))) {n:Nat}:∀{x:AV}{u:Value},Rp h φ n x u->Rp (shutG h φ i w) φ n (CB i k es x) u
 |.v _,_,e=>by simpa[Rp,CB]using e|.ls _ _,_,e=>by simp only[Rp,CB]at *;exact e.mono (Cf hI p)|.ag B,_,e=>by simp only[Rp,CB]at *;obtain⟨q,h1,h2⟩:=e;exact⟨q,h1,Er hI p h2⟩
 | .own j,u,e=>by
  simp only[CB];split;rename_i y;subst y;simp only[Rp]at e;simp only[Rp,oB];rcases Jd hI p with⟨A,h1,h2⟩|⟨g,c,h1,h2,h3,z⟩
  grind;grind;grind[Rp]
 |.ptr j o,u,e=>by simpa only[Rp,CB]using e|.mp j,u,e=>by simpa only[Rp,CB]using e|.yl j,u,e=>by simpa only[Rp,CB]using e| .elt j C m s,u,e=>by
  simp only[CB];split;rename_i y;subst y;split;rename_i F;subst F;split;rename_i d K;simp only[Rp]at e⊢;obtain⟨_,g,l,c,r,D⟩:=e;rcases Jd hI p with⟨A,h1,h2⟩|⟨M,I,h1,h2,h3,z⟩
  simp_all;rw[r]at h1;injection h1 with a O N;cases a;obtain⟨_,L⟩:=z.get K;exact⟨g,m*C+s,D,by simpa using L.drop s⟩;simp[Rp];simp[Rp];grind[Rp]
 | .vw j C lo m,u,e=>by
  simp only[CB];split;rename_i y;subst y;split;rename_i F;obtain⟨rfl,H⟩:=F;simp only[Rp]at e;obtain⟨_,A,c,D,E,G,h0⟩:=e;have t:((es.drop lo).take m).length=m:=p_;simp only[Rp,oB];refine⟨A,c,by rw[t];exact D,by rw[t];exact E,G,?_⟩;rcases h0 with rfl|⟨g,l,I,r,rfl,J⟩
  simp;rcases Jd hI p with⟨A,h1,h2⟩|⟨M,I,h1,h2,h3,z⟩
  simp_all;rw[r]at h1;injection h1 with a O N;cases a;exact .inr ⟨g,lo*C,rfl,by simpa using(z.drop lo).take m⟩;simp[Rp];grind[Rp]
 |.rp B,u,e=>by
  simp only[Rp,CB]at *
  obtain⟨b,o,h1,h2⟩:=e;exact⟨b,o,h1,h2.mono (Cf hI p)⟩
 |.cl f B,_,e=>by simp only[Rp,CB]at *;obtain⟨q,h1,h2⟩:=e;exact⟨q,h1,Er hI p h2⟩
 |.bm f P B,_,e=>by simp only[Rp,CB]at *;obtain⟨q,h1,h2⟩:=e;exact⟨q,h1,Er hI p h2⟩
 |.tup B,_,e=>by simp only[Rp,CB]at *;obtain⟨q,h1,h2⟩:=e;exact⟨q,h1,Er hI p h2⟩
 |.any,_,_=>by simp[Rp,CB]
def Er(hI:Inv h φ w T)(b:T[i]?=some (some (.arr k es))){n:Nat}:∀{cs:O_}{us:C_},cC h φ n cs us->cC (shutG h φ i w) φ n (IB i k es cs) us
 |[],_,e=>by simpa[cC,IB]using e
 |c::cs,us,e=>by
  simp only[cC,IB]at *
  obtain⟨u,a,h1,h2,h3⟩:=e;exact⟨u,a,h1,Rx hI b h2,Er hI b h3⟩
end
def L5:∀T:aK,(QS i k es T).length=T.length
 |[]=>rfl
 |_::r=>by simp[QS,L5 r]
def Ry:∀{T:aK}{j:Nat},(QS i k es T)[j]?=(T[j]?).map (λo=>Option.bind o (Vq i k es))
 |[],j=>by simp[QS]
 |o::r,0=>by simp[QS]
 |o::r,j+1=>by simp only[QS,oX];exact Ry
def T6 (hI:Inv h φ w T) (J:T[i]?=some (some (.arr k es))):Inv (shutG h φ i w) φ w ((QS i k es T).set i none)/\Evo h φ T w (shutG h φ i w) φ ((QS i k es T).set i none) w:=by
 have F:∀{j:Nat}{x:AObj},((QS i k es T).set i none)[j]?=some (some x)->j≠i/\∃y,T[j]?=some (some y)/\Vq i k es y=some x:=by
  intro j x e;rw[Hx]at e;split at e;simp_all;rename_i hh;refine⟨λh=>hh h.symm,?_⟩;rw[Ry]at e
  cases hT:T[j]? with
  |none=>rw[hT]at e;simp at e
  | some o=>
   rw[hT]at e
   cases o with
   |none=>simp at e
   |some y=>
    simp_all
 have I:((QS i k es T).set i none).length=T.length:=by rw[cL,L5]
 have hg:=Cf hI J;refine⟨⟨?_,?_,?_⟩,⟨rfl,rfl,rfl,cN _,λ_ _ _=>rfl,hg,?_,λ_ _=>rfl,?_,by rw[I];exact cN _,cN _⟩⟩;intro b G e;by_cases D:kI (φ i)=some b;obtain⟨af,E,hw,hs⟩:=Qf hI J D;simp_all;rw[F0 D]at e;exact hI.gh b G e;intro j x e;obtain⟨W,y,H,n⟩:=F e;rw[I];have P:=hI.obj j y H;have f:∀g,kI (φ j)=some g->shutG h φ i w g=h g:=λg D=>F0 λac=>W (hI.dis j i y _ g H J D ac)
 cases y with
 |box G=>
  simp only[Vq,E_]at n;subst n;obtain⟨g,us,E,t,B,v,u⟩:=P;exact⟨g,us,E,t,B,sm,Er hI J u⟩
 | arf k' R=>
  simp only[Vq]at n;split at n;rename_i Q;cases n;have Z:∀l:N_,(Zk i k es l).flatten=IB i k es l.flatten:=by
   have ae:∀(a b:O_),IB i k es (a++b)=IB i k es a++IB i k es b:=by
    intro a b
    induction a with
    |nil=>rfl
    |cons c a ih=>simp[IB,ih]
   intro l
   induction l with
   |nil=>rfl
   |cons e l ih=>simp only[Zk,zK,ih,ae]
  have L:∀l:N_,(Zk i k es l).length=l.length:=by
   intro l
   induction l with
   |nil=>rfl
   |cons e l ih=>simp[Zk,ih]
  have aa:∀(l:N_)(d:O_),d∈Zk i k es l->∃e∈l,d.length=e.length:=by
   have X:∀G:O_,(IB i k es G).length=G.length:=by
    intro G
    induction G with
    |nil=>rfl
    |cons c G ih=>simp[IB,ih]
   intro l
   induction l with
   |nil=>intro d C;simp[Zk]at C
   |cons e l ih=>
    intro d C;simp only[Zk]at C;rcases cS.1 C with rfl|C;exact⟨e,s_,X e⟩;obtain⟨e',h1,h2⟩:=ih d C;exact⟨e',s7,h2⟩
  obtain⟨U,h1⟩:=P;refine⟨λd C=>?_,?_⟩;obtain⟨e',ab,Y⟩:=aa R d C;exact⟨by rw[Y];exact(U e' ab).1,λc hc=>oD.1 (oD.1 Q d C) c hc⟩;rcases h1 with⟨A,hA,rfl⟩|⟨g,c,N,E,t,B,v,u,M,S,e7⟩
  exact .inl ⟨A,hA,rfl⟩;exact .inr ⟨g,c,N,E,by rw[L];exact t,B,by rw[L];exact v,u,M,by rw[f g (by rw[t];rfl)];exact S,by rw[Z,L];exact Er hI J e7⟩;simp at n
 | lp r s=>
  simp only[Vq,E_]at n;subst n;have K:∀(l:List (Nat×AV))(q:Nat×AV),q∈QR i k es l->∃x,(q.1,x)∈l/\q.2=CB i k es x:=by
   intro l
   induction l with
   |nil=>intro q O;simp[QR]at O
   |cons p l ih=>
    intro q O;obtain⟨m,y⟩:=p;simp only[QR]at O;rcases cS.1 O with rfl|O;exact⟨y,s_,rfl⟩;obtain⟨x,h1,h2⟩:=ih q O;exact⟨x,s7,h2⟩
  obtain⟨g,t,B,v,u,M⟩:=P;refine⟨g,t,B,sm,λm x y n H=>?_,λp hp=>?_⟩;obtain⟨x',h1,h2⟩:=K s _ n;obtain⟨y',h3,h4⟩:=K s _ H;simp only at h2 h4;rw[h2,h4,u m x' y' h1 h3];obtain⟨x',h1,h2⟩:=K s _ hp;rw[h2];exact Rx hI J (M _ h1)
 |mit m V aAD st=>
  simp only[Vq,E_]at n;subst n;obtain⟨g,mo,t,B,v,u⟩:=P;exact⟨g,mo,t,B,sm,u⟩
 |arr k' R=>
  simp only[Vq,E_]at n;subst n;obtain⟨U,h1|⟨g,c,N,E,t,B,v,u,M,S,e7⟩⟩:=P;exact⟨U,.inl h1⟩;exact⟨U,.inr ⟨g,c,N,E,t,B,v,u,M,by rw[f g (by rw[t];rfl)];exact S,e7.mono hg⟩⟩
 |map ag ks vs bs cl=>
  simp only[Vq,E_]at n;subst n;obtain⟨g,ad,t,B,v,u,M,S⟩:=P;exact⟨g,ad,t,B,sm,u,M,Er hI J S⟩
 intro j m oj om b ej em hj hm;obtain⟨_,y,H,_⟩:=F ej;obtain⟨_,z,hz,_⟩:=F em;exact hI.dis j m y z b H hz hj hm;intro b G e;by_cases D:kI (φ i)=some b;exact .inr (.inr ⟨i,_,J,D⟩);rw[F0 D]at e;exact .inl e;intro j o b e D;obtain⟨_,y,H,_⟩:=F e;exact .inr ⟨j,y,H,D⟩
end
def Yf{i k:Nat}{es:N_}{q:Nat×AV}{l:List (Nat×AV)}(h:q∈QR i k es l):∃x,(q.1,x)∈l/\q.2=CB i k es x:=by
 induction l with
 |nil=>simp[QR]at h|cons p l ih=>
  grind[QR]
def L6{i k:Nat}{es:N_}{j:Nat}:∀l:List (Nat×AV),bA (QR i k es l) j=CB i k es (bA l j)|[]=>by simp[QR,bA,CB]|(m,x)::r=>by simp only[QR,bA];split;rfl;exact L6 r
def SInv.shutI{P:Program}{G:L_}{N:Nat}{h0:GH}{φ0:Nat->Value}{T0:aK}{w0:World}{a:Act}{w:World}{st:St}(hS:SInv P G N h0 φ0 T0 w0 st a w)(i:Nat):SInv P G N h0 φ0 T0 w0 (shutI st i) a w:=by unfold Hud.shutI;split;rename_i k es hg;obtain⟨hr,honce,⟨h,φ,hG,hE,hI,hSl⟩,hsz,hdf⟩:=hS;obtain⟨s1,s2⟩:=T6 hI (bH hg);refine⟨hr,?_,⟨_,φ,hG.mono (Cf hI (bH hg)),hE.trans s2,s1,λj=>?_⟩,hsz,hdf⟩;intro j x y hx hy;obtain⟨x',h1,h2⟩:=Yf hx;obtain⟨y',h3,h4⟩:=Yf hy;simp only at h2 h4;rw[h2,h4,honce j x' y' h1 h3];show Rp _ φ ((QS i k es st.T).set i none).length (bA (QR i k es st.s) j) _;rw[cL,L5,L6];exact Rx hI (bH hg) (hSl j);exact hS
def SInv.shut{P:Program}{G:L_}{N:Nat}{h0:GH}{φ0:Nat->Value}{T0:aK}{w0:World}{a:Act}{w:World}{st:St}(b:SInv P G N h0 φ0 T0 w0 st a w)(j:Nat):SInv P G N h0 φ0 T0 w0 (DB [] (Rk st j)) a w:=by
 have:∀(l:V_)(st:St),SInv P G N h0 φ0 T0 w0 st a w->SInv P G N h0 φ0 T0 w0 (Ef st l) a w:=by
  intro l
  induction l with
  |nil=>intro st h;exact h|cons i r ih=>intro st h;exact ih _ (h.shutI i)
 exact Ep [] (this _ _ b)
end
def Je{T:aK}{ev:Operand->AV}{o:HOp}(a:iE o=true){x:AV}{T':aK}(h:cE T ev o=some (x,T')):T'=T:=by
 cases o<;>simp only[iE,jJ]at a<;>simp only[cE]at h<;>(repeat' split at h) <;>
  first
  |(simp only[E_,Prod.mk.injEq]at h;exact h.2.symm)|(simp at h;done)
def NI{G:L_}{s s':List (Nat×AV)}{x:Operand}(h:∀t∈bG x,bA s t=bA s' t):dW G s x=dW G s' x:=by cases x<;>simp only[dW];exact h _ (by simp[bG])
def F1{T:aK}{ev e:Operand->AV}{o:HOp}(h:∀x,(∀t∈bG x,t∈pS o)->ev x=e x):cE T ev o=cE T e o:=by
 have g:∀(ps:List (Nat×Nat×Operand)),(∀t∈ps.flatMap (λp=>bG p.2.2),t∈pS o)->(ps.map λp=>(p.1,p.2.1,ev p.2.2))=ps.map λp=>(p.1,p.2.1,e p.2.2):=by intro ps q;refine LD λp j=>?_;rw[h p.2.2 λt d=>q t (H7.2 ⟨p,j,d⟩)]
 cases o
 case bld z ps=>simp only[cE];rw[g ps λt d=>d]
 case bsl k z ps n=>simp only[cE];rw[g ps λt d=>d]
 case bslS k z ps n=>
  have h1:(ps.map λp=>ev p.2.2)=ps.map λp=>e p.2.2:=LD λp j=>h p.2.2 λt d=>H7.2 ⟨p,j,d⟩;have h2:(ps.map λp=>(p.1,p.2.1,uS T (iZ (ps.map λp=>ev p.2.2)) (ev p.2.2)))=ps.map λp=>(p.1,p.2.1,uS T (iZ (ps.map λp=>ev p.2.2)) (e p.2.2)):=LD λp j=>by rw[h p.2.2 λt d=>H7.2 ⟨p,j,d⟩]
  simp only[cE];rw[h2,h1]
 case clo f cs=>simp only[cE];rw[LD λc l=>h c λt d=>H7.2 ⟨c,l,d⟩]
 case alloc=>rfl
 case mkm=>rfl
 case lku ag ls z m k ok=>simp only[cE];rw[h m t_,h k t_]
 case mup ag ls m k x=>simp only[cE];rw[h m t_,h k t_,h x t_]
 case men ag ls z m k=>simp only[cE];rw[h m t_,h k t_]
 case mst m k x=>simp only[cE];rw[h m t_,h k t_,h x t_]
 case del ag ls m k=>simp only[cE];rw[h m t_,h k t_]
 case lenM m=>simp only[cE];rw[h m t_]
 case mks k z b x y=>simp only[cE];rw[h x t_,h y t_]
 case s2b x=>simp only[cE];rw[h x t_]
 case b2s x=>simp only[cE];rw[h x t_]
 case b2b x=>simp only[cE];rw[h x t_]
 case apS x y=>simp only[cE];rw[h x t_,h y t_]
 case slx x lo hi mx k=>
  simp only[cE];rw[h x t_,h hi t_,h mx t_];cases lo<;>simp only<;>(try rw[h _ t_])
 case call=>rfl
 case nxt=>rfl
 case bad=>rfl
 case bmo f k cs=>simp only[cE];rw[LD λc l=>h c λt d=>H7.2 ⟨c,l,d⟩]
 case rgm m=>simp only[cE];rw[h m t_]
 case ent m=>simp only[cE];rw[h m t_]
 case clr x k z=>simp only[cE];rw[h x t_]
 case pick c a b=>simp only[cE];rw[h c t_,h a t_,h b t_]
 case mov x=>simp only[cE];rw[h x t_]
 case un u x=>simp only[cE];rw[h x t_]
 case conv k x=>simp only[cE];rw[h x t_]
 case box x=>simp only[cE];rw[h x t_]
 case ld n x=>simp only[cE];rw[h x t_]
 case fad x n=>simp only[cE];rw[h x t_]
 case fld x n k=>simp only[cE];rw[h x t_]
 case lenS x=>simp only[cE];rw[h x t_]
 case lenL x=>simp only[cE];rw[h x t_]
 case ext x i=>simp only[cE];rw[h x t_]
 case nilc x=>simp only[cE];rw[h x t_]
 case nilS n kd x=>simp only[cE];rw[h x t_]
 case mm n x y=>simp only[cE];rw[h x t_,h y t_]
 case slc x lo hi k=>
  simp only[cE];rw[h x t_];cases lo<;>cases hi<;>simp only<;>(try rw[h _ t_])<;>(try rw[h _ t_])
 case slcS x lo hi=>
  simp only[cE];rw[h x t_];cases lo<;>cases hi<;>simp only<;>(try rw[h _ t_])<;>(try rw[h _ t_])
 case bin op x y=>simp only[cE];rw[h x t_,h y t_]
 case eqa n ks x y=>simp only[cE];rw[h x t_,h y t_]
 case eqb n x y=>simp only[cE];rw[h x t_,h y t_]
 case eqp n x y=>simp only[cE];rw[h x t_,h y t_]
 case st n x y=>simp only[cE];rw[h x t_,h y t_]
 case iad x y k=>simp only[cE];rw[h x t_,h y t_]
 case iadA x y n k=>simp only[cE];rw[h x t_,h y t_]
 case ixS x y=>simp only[cE];rw[h x t_,h y t_]
 case app x y k b=>simp only[cE];rw[h x t_,h y t_]
def Qg{P:Program}{G:L_}{r:Nat}{s s':List (Nat×AV)}{T:aK}{o:HOp}{K:AV->aK->Prop}(h:∀t∈pS o,bA s t=bA s' t):
 yF P G ⟨r,s,T⟩ o K=yF P G ⟨r,s',T⟩ o K:=by
 have a:∀x,(∀t∈bG x,t∈pS o)->dW G s x=dW G s' x:=λx d=>NI λt b=>h t (d t b);cases o
 case call f as_=>
  simp only[yF];rw[a f t_,LD λc e=>a c λt b=>by simp only[pS,cG,H7];exact .inr ⟨c,e,b⟩]
 case nxt p=>
  simp only[yF];rw[a p t_]
 case nilS n k x=>
  simp only[yF];rw[a x t_,F1 a]
 all_goals simp only[yF];rw[F1 a]
def Bg{s s':List (Nat×AV)}{g:Option (Nat×Bool)}(h:∀j b,g=some (j,b)->bA s j=bA s' j):fY s g=fY s' g:=by
 cases g with
 |none=>rfl|some p=>obtain⟨j,b⟩:=p;simp only[fY];rw[h j b rfl]
def aft(o:Oper):V_:=(o.after.toList.filter (Region.binds .any)).map (·.on)
def aJj(done:List V_)(o:Oper):V_:=((aft o).flatMap λe=>e::done.getD e []).eraseDups
def WG:List Oper->List V_->List V_|[],d=>d|o::a,d=>WG a (d++[aJj d o])
def Plan.ok (p:Plan) (a:List Oper):Bool :=
 (List.range p.hops.length).all λi=>match p.hops[i]?,a[i]? with
  | some o,some c=>
   (aft c).all (λe=>e<i&&(p.p i).contains e) &&
   (p.p i).all (λq=>(aft c).any λe=>q==e||(p.p e).contains q) &&
   (match o.dst with
   |none=>true|some d=>(List.range p.hops.length).all λj=>match p.hops[j]? with|none=>true|some b=>(j==i||!(b.dst==some d))&&(p.quiet i||!p.quiet j||!(Vr b).contains d||(p.p j).contains i||(p.p i).contains j))
  |_,_=>false
def Vs (p:Plan):Nat->Bool->V_->Option HD|0,_,_=>none| n+1,a,E=>match(p.ready E).find? p.quiet with
  |some i=>match p.hops[i]? with|some o=>(Vs p n a (i::E)).map (.q o)|none=>none
  | none=>match p.ready E with
   |[]=>some (.done a)|[i]=>match p.hops[i]? with|some o=>if(p.pend (i::E)).isEmpty=true then(Vs p n a (i::E)).map λx=>.alt o [] x .no else none|none=>none
   |_=>none
def NJ(p:Plan)(E l:V_):Bool:=(List.range p.hops.length).all λk=>E.contains k||l.contains k||l.all (p.p k).contains
def LH (p:Plan):Nat->Bool->V_->Option HD
 |0,_,_=>none
 | n+1,gc,E=>match(p.ready E).find? p.quiet with
  |some i=>match p.hops[i]? with
   |some o=>(LH p n gc (i::E)).map (.q o)
   |none=>none
  | none=>match p.ready E with
   |[]=>some (.done gc)
   |c::cs=>if(8<=cs.length&&NJ p E (c::cs)&&(Vs p n true ((c::cs)++E)).isSome)=true then(Vs p n true ((c::cs)++E)).map (.perm ((E.filter p.quiet).filterMap λq=>p.hops[q]?) ((c::cs).map λi=>(p.hops[i]?).getD default)) else if(!cs.isEmpty&&12<=((List.range p.hops.length).filter λk=>!E.contains k&&!p.quiet k).length)=true then some (.plan p.hops p.pre n gc E) else(c::cs).foldr (λi acc=>match acc,p.hops[i]?,LH p n (gc||(!p.ng&&!cs.isEmpty)) (i::E) with
    |some t,some o,some x=>some (.alt o (if iE o.op then [] else p.pend (i::E)) x t)
    |_,_,_=>none) (some .no)
def Gu(H:List (Nat×Option Nat×Nat))(a:HOper):HOper:=match a.op with|.bsl k z ps b=>if H.any (λx=>a.dst==some x.1&&x.2.2==1001)=true then⟨a.dst,.bslS k z ps b,a.guard⟩ else a|_=>a
def IW(P:Program)(N:Nat)(H:List (Nat×Option Nat×Nat))(a:Array Oper):Option HD :=
 match(gH P N a a.toList).map (·.map (Gu H)) with
 |none=>none|some b=>let p:Plan:=⟨b,WG a.toList []++(if H.any (λx=>x.2.2==1002) then [[]] else [])⟩
  if p.ok a.toList&&(p.hops.length==a.size) then LH p (a.size+2) false [] else none
structure PlanOk(p:Plan)(ops:Array Oper):Prop where
 len:p.hops.length=ops.size
 aft:∀i c,ops[i]?=some c->∀e∈c.after,Region.binds .any e=true->e.on<i/\e.on∈p.p i
 pre:∀i c,ops[i]?=some c->∀q∈p.p i,∃e∈c.after,Region.binds .any e=true/\(q=e.on\/q∈p.p e.on)
 dst:∀(i j:Nat)(o o':HOper)(d:Nat),p.hops[i]?=some o->p.hops[j]?=some o'->o.dst=some d->o'.dst=some d->j=i
 rds:∀(i j:Nat)(o o':HOper)(d:Nat),p.hops[i]?=some o->p.hops[j]?=some o'->o.dst=some d->d∈Vr o'->p.quiet i=false->p.quiet j=true->i∈p.p j\/j∈p.p i
def HE{p:Plan}{i:Nat}(h:p.quiet i=true):
 ∃o d,p.hops[i]?=some o/\iE o.op=true/\o.dst=some d/\∀r a,p.hops[r]?=some a->d∈Vr a->i∈p.p r:=by
 unfold Plan.quiet at h;split at h;simp at h;rename_i o c;simp only[zJ]at h;obtain⟨h1,h2⟩:=h;split at h2;simp at h2;rename_i d f;refine⟨o,d,c,h1,f,λr a b e=>?_⟩;simp only[oD,uM]at h2;have:=h2 r (sV.1 b).1;rw[b]at this;simpa[e]using this
def Yg{o:Oper}{x:Nat}:x∈Hud.aft o↔∃e∈o.after,Region.binds .any e=true/\e.on=x:=by simp only[Hud.aft,dF,gR,Array.mem_toList_iff];constructor;rintro⟨e,⟨h1,h2⟩,h3⟩;exact⟨e,h1,h2,h3⟩;rintro⟨e,h1,h2,h3⟩;exact⟨e,⟨h1,h2⟩,h3⟩
def aF4{p:Plan}{a:Array Oper}(A:p.hops.length=a.size)(h:p.ok a.toList=true):PlanOk p a:=by
 have f:∀i o c,p.hops[i]?=some o->a[i]?=some c->_:=λi o c g b=>by have h1:=h;simp only[Plan.ok,oD,uM]at h1;have h2:=h1 i (sV.1 g).1;rw[g,(T_:a.toList[i]?=some c)]at h2;simp only[zJ]at h2;exact h2
 have cE:∀i c,a[i]?=some c->∃o,p.hops[i]?=some o:=λi c b=>by have:=(aGI.1 b).1;exact⟨_,jN o_⟩
 have k:∀(i:Nat)(o:HOper),p.hops[i]?=some o->∃c,a[i]?=some c:=λi o b=>by have:=(sV.1 b).1;exact⟨_,Ri o_⟩
 refine⟨A,λi c b e t w=>?_,λi c b q z=>?_,λi j o x d g l v u=>?_,λi j o x d g l v y n m=>?_⟩;obtain⟨o,r⟩:=cE i c b;have h1:=(f i o c r b).1.1;simp only[oD]at h1;have:=h1 e.on (Yg.2 ⟨e,t,w,rfl⟩);simp only[zJ,decide_eq_true_eq]at this;exact⟨this.1,by simpa using this.2⟩;obtain⟨o,r⟩:=cE i c b;have h1:=(f i o c r b).1.2;simp only[oD]at h1;have:=h1 q z;simp only[CX]at this;obtain⟨e,t,h2⟩:=this;obtain⟨B,s,w,rfl⟩:=Yg.1 t;refine⟨B,s,w,?_⟩;simpa using h2;obtain⟨c,b⟩:=k i o g;have h1:=(f i o c g b).2;rw[v]at h1;simp only[oD,uM]at h1;have h2:=h1 j (sV.1 l).1;rw[l]at h2;simp only[u,zJ,Ec,beq_self_eq_true,lI,jJ,or_false,beq_iff_eq]at h2;exact h2.1;obtain⟨c,b⟩:=k i o g;have h1:=(f i o c g b).2;rw[v]at h1;simp only[oD,uM]at h1;have h2:=h1 j (sV.1 l).1;rw[l]at h2;simp only[n,m,zJ,Ec,jJ,lI,false_or,EX,JW,decide_eq_true_eq,decide_eq_false_iff_not,y,not_true_eq_false]at h2;exact h2.2
def NK{G:L_}{st:St}{l:List HOper}:qL G st l↔∀o∈l,qL G st [o]:=by
 induction l with
 |nil=>simp[qL]|cons o l ih=>
  simp only[cS,forall_eq_or_imp];rw[<-ih];simp[qL]
def NL{G:L_}{r:Nat}{s s':List (Nat×AV)}{T:aK}{o:HOper}(h:∀t∈Vr o,bA s t=bA s' t)(g:o.dst.map (bA s)=o.dst.map (bA s')):
 qL G ⟨r,s,T⟩ [o]=qL G ⟨r,s',T⟩ [o]:=by
 have c:fY s o.guard=fY s' o.guard:=Bg λj b e=>h j (by simp[Vr,e]);have f:cE T (dW G s) o.op=cE T (dW G s') o.op:=F1 λx a=>NI λt d=>h t (by simp only[Vr,cG];exact .inl (a t d));simp only[qL,c,f,g]
def aA8{P:Program}{G:L_}{st:St}{o:HOp}{K:AV->aK->Prop}(h:yF P G st o K):yF P G st o λx T=>K x T/\(iE o=true->T=st.T):=by
 cases o
 case call f as_=>
  have:(λx T=>K x T/\(iE (HOp.call f as_)=true->T=st.T))=K:=by funext x T;simp[iE]
  rw[this];exact h
 case nxt p=>
  have:(λx T=>K x T/\(iE (HOp.nxt p)=true->T=st.T))=K:=by funext x T;simp[iE]
  rw[this];exact h
 case nilS n k x=>
  simp only[yF]at h⊢;split at h;rename_i b;rw[if_pos b];exact⟨⟨h.1,λ_=>trivial⟩,⟨h.2,λ_=>trivial⟩⟩;rename_i b;rw[if_neg b];split at h;rename_i x T c;exact⟨h,λa=>Je a c⟩;exact h.elim
 all_goals
  simp only[yF]at h⊢
  split at h
  rename_i x T c
  exact⟨h,λa=>Je a c⟩
  exact h.elim
def Kt(a:Array Bool):Nat->Nat|0=>0|m+1=>Kt a m+if a.getD m false then 0 else 1
def IX {a:Array Bool}:∀{m:Nat},Kt a m=0->∀i,i<m->a.getD i false=true
 |0,_,i,c=>by omega
 | m+1,h,i,c=>by
  simp only[Kt]at h;split at h;rename_i b;rcases eD i m with h1|h1;exact IX o_ i h1;have:i=m:=o_;subst this;exact b;omega
def aCn{a:Array Bool}{i:Nat}:∀{m:Nat},m<=i->Kt (a.setIfInBounds i true) m=Kt a m|0,_=>rfl|m+1,h=>by simp only[Kt];rw[aCn o_,getD_set_ne false o_]
def L7{a:Array Bool}{i:Nat}(c:i<a.size)(b:a.getD i false=false):∀{m:Nat},i<m->Kt (a.setIfInBounds i true) m+1=Kt a m
 |0,h=>by omega
 | m+1,h=>by
  simp only[Kt];rcases eD i m with h1|h1;have:=L7 c b h1;rw[getD_set_ne false o_];omega;have:i=m:=o_;subst this;have h2:(a.setIfInBounds i true).getD i false=true:=by simp[TR,c]
  rw[aCn (cN _),h2,b];simp
def Ku{P:Program}{N:Nat}{a:Array Oper}:∀{l:List Oper}{b:List HOper},gH P N a l=some b->b.length=l.length/\∀(i:Nat) d,b[i]?=some d->∃o,l[i]?=some o/\qP P N a o=some d
 |[],b,h=>by simp only[gH,E_]at h;subst h;simp
 | o::l,b,h=>by
  simp only[gH]at h;split at h;rename_i d f h1 h2;cases h;obtain⟨h3,g⟩:=Ku h2;refine⟨by simp[h3],λi c e=>?_⟩
  cases i with
  |zero=>simp only[sW,E_]at e;subst e;exact⟨o,rfl,h1⟩
  |succ i=>simpa using g i c X_
  simp at h
section
variable{P:Program}{G:L_}{N:Nat}{h0:GH}{φ0:Nat->Value}{T0:aK}{w0:World}
def Jf {φ:Nat->Value} {w:World} {a:Act}:∀(I:V_){st:St}{h:GH},tU G h->Inv h φ w st.T->uN h φ st.T.length st.s a ->
 ∃h2,tU G h2/\Inv h2 φ w (Gq st.T I)/\Evo h φ st.T w h2 φ (Gq st.T I) w/\∃b:List (Nat×AV),(∀j,bA b j=uS st.T I (bA st.s j))/\uN h2 φ (Gq st.T I).length b a
 |[],st,h,d,hI,c=>⟨h,d,hI,Evo.refl,st.s,λ_=>rfl,c⟩| i::r,st,h,d,hI,c=>by
  simp only[Gq,uS];split;rename_i k e f;obtain⟨l,b⟩:=T6 hI (bH f)
  obtain⟨h2,q,p,o,g,n,m⟩:=Jf r (st:=⟨st.r,QR i k e st.s,(QS i k e st.T).set i none⟩) (d.mono (Cf hI (bH f))) l (λj=>by
   show Rp _ φ ((QS i k e st.T).set i none).length (bA (QR i k e st.s) j) _;rw[cL,L5,L6]
   exact Rx hI (bH f) (c j))
  refine⟨h2,q,p,b.trans o,g,λj=>?_,m⟩;rw[n j,L6];rename_i t;exact Jf r d hI c
def NM:∀(I:V_)(T:aK)(f:Nat),uS T I (.cl f [])=.cl f []|[],_,_=>rfl|i::r,T,f=>by simp only[uS];split;simp only[CB,IB];exact NM r _ f;exact NM r T f
def Rz:∀(I:V_)(T:aK)(x:Value),uS T I (.v x)=.v x|[],_,_=>rfl|i::r,T,x=>by simp only[uS];split;simp only[CB];exact Rz r _ x;exact Rz r T x
def NO:∀(I:V_)(T:aK)(cs:O_),uS T I (.rp cs)=.rp cs|[],_,_=>rfl|i::r,T,cs=>by simp only[uS];split;simp only[CB];exact NO r _ cs;exact NO r T cs
def Jg:∀(I:V_)(T:aK),uS T I .any=.any|[],_=>rfl|i::r,T=>by simp only[uS];split;simp only[CB];exact Jg r _;exact Jg r T
def aCo{s a:List (Nat×AV)}{T:aK}{I:V_}(h:∀j,bA a j=uS T I (bA s j))(x:Operand):dW G a x=uS T I (dW G s x):=by
 cases x with
 |tmp t=>exact h t|const v=>exact(Rz I T v).symm|global g=>
  simp only[dW]
  cases G g with
  |none=>exact(Jg I T).symm|some b=>exact(NO I T b).symm
 |func f=>exact(NM I T f).symm
def PU{h:GH}{φ:Nat->Value}{w:World}{a:Act}{st:St}{K:AV->aK->Prop}{next:Act->World->Prop}{o:Oper}{k:Nat}{z:C_}{ps:List (Nat×Nat×Operand)}{b:Nat}(y:HB P o=some (.bsl k z ps b))(g:yF P G st (.bslS k z ps b) K)(B:tU G h)(hI:Inv h φ w st.T)(A:uN h φ st.T.length st.s a)
 (q:∀v f,CS h φ st.T w K v f->next (a.put o.dst v) f):rL P o a w next:=by
 have j:∃x d,cE st.T (dW G st.s) (.bslS k z ps b)=some (x,d)/\K x d:=by simp only[yF]at g;split at g;rename_i x d e;exact⟨x,d,e,g⟩;exact g.elim
 obtain⟨x,d,c,t⟩:=j;obtain⟨h2,H,F,E,m,D,C⟩:=Jf (iZ (ps.map λp=>dW G st.s p.2.2)) B hI A;refine NC y (st:=⟨st.r,m,Gq st.T (iZ (ps.map λp=>dW G st.s p.2.2))⟩) (K:=K) ?_ H F C λv f n=>q v f ?_;simp only[cE]at c;simp only[yF,cE];have:(ps.map λp=>(p.1,p.2.1,dW G m p.2.2))=ps.map λp=>(p.1,p.2.1,uS st.T (iZ (ps.map λp=>dW G st.s p.2.2)) (dW G st.s p.2.2)):=LD λp _=>by rw[aCo D]
 rw[this];split at c;rename_i O u;split at c;rename_i l;simp only[E_,Prod.mk.injEq]at c;obtain⟨rfl,rfl⟩:=c;rw[if_pos l];exact t;simp at c;simp at c;obtain⟨r,N,h3,i,M,L,J,I⟩:=n;exact⟨r,N,h3,i,M,E.trans L,J,I⟩
def NP{H:List (Nat×Option Nat×Nat)}(b:HOper):Gu H b=b\/∃k z ps a,b.op=.bsl k z ps a/\Gu H b=⟨b.dst,.bslS k z ps a,b.guard⟩:=by unfold Gu;split;rename_i k z ps a e;split;exact .inr ⟨k,z,ps,a,e,rfl⟩;exact .inl rfl;exact .inl rfl
def Yi{H:List (Nat×Option Nat×Nat)}{ro:Option Nat}{u:Array Oper}{Q:Exit->Act->World->Prop}{i:Nat}{o:Oper}{C:HOper}{st:St}{a:Act}{w:World}{next:Act->World->Prop}(hi:u[i]?=some o)(hc:(qP P N u o).map (Gu H)=some C)
 (hS:SInv P G N h0 φ0 T0 w0 st a w) (p:match fY st.s C.guard with|some true=>yF P G st C.op λx T=>∀J n,SInv P G N h0 φ0 T0 w0 ⟨st.r,fV st.s C.dst x,T⟩ J n->next J n|some false=>∀J n,SInv P G N h0 φ0 T0 w0 ⟨st.r,fV st.s C.dst (.v undef),st.T⟩ J n->next J n|none=>False):wpOpIn (fe ro) 0 P u Q i next a w:=by
 obtain⟨U,m,⟨h,R,K,V,hI,g⟩,A,E⟩:=hS;obtain⟨B,M,b⟩:=X9.1 hc;obtain⟨c1,c2,c3,X⟩:=Gt M;have t:∀j,o.dst=some j->j<a.tmps.size:=λj hj=>CV (c1 j hj) A;have q:∀v,N<=(a.put o.dst v).tmps.size:=by
  intro v
  cases o.dst with
  |none=>exact A|some j=>simpa[Act.put]using A
 unfold wpOpIn;simp only[hi];have F:C.dst=o.dst/\C.guard=B.guard:=by
  rcases NP (H:=H) B with e|⟨_,_,_,_,_,e⟩
  rw[<-b,e];exact⟨c2,rfl⟩;rw[<-b,e];exact⟨c2,rfl⟩
 rw[F.1,F.2]at p;split at p;rename_i y;have c:=IU g X y;rw[if_pos c];have L:∀{S:Act->World->Prop},(∀v n,CS h R st.T w _ v n->S (a.put o.dst v) n)->rL P o a w S:=λd=>by
  rcases NP (H:=H) B with e|⟨k,z,ps,Y,e1,e2⟩
  rw[<-b,e]at p;exact NC c3 p K hI g d;rw[<-b,e2]at p;exact PU (by rw[c3,e1]) p K hI g d
 refine aGS (IS c3) (L λv n d=>?_);obtain⟨x,T',W,D,hk,l,O,Z⟩:=d;have I:uN W D T'.length st.s a:=λi=>(g i).mono l.le l.len l.phi;exact hk _ _ ⟨U,AT m _ _,⟨W,D,K.mono l.le,V.trans l,O,IT I Z t⟩,q v,(E.keep hI l).put _ _⟩;rename_i y;have c:=IU g X y;rw[if_neg (by simp[c])];exact⟨λf _=>Ye ro f,p _ _ ⟨U,AT m _ _,⟨h,R,K,V,hI,IT g z_ t⟩,q _,E.put _ _⟩⟩;exact p.elim
structure Drawn(P:Program)(G:Nat->Option (List AV))(N:Nat)(h0:GH)(φ0:Nat->Value)(T0:aK)(w0:World)(p:Plan)(E:List Nat)(st:St)(listed:Array Bool)(a:Act)(w:World):Prop where
 size:listed.size=p.hops.length
 lt:∀i∈E,i<p.hops.length
 sub:∀i,listed.getD i false=true->i∈E
 clo:∀i,listed.getD i false=true->∀q∈p.p i,listed.getD q false=true
 heavy:∀i∈E,p.quiet i=false->listed.getD i false=true
 ecl:∀i∈E,∀q∈p.p i,q∈E
 pend:∀i∈E,listed.getD i false=false->∀o,p.hops[i]?=some o->qL G st [o]
 once:Jc st.s
 inv:∃s',(∀t,bA s' t=bA st.s t\/∃i o,i∈E/\listed.getD i false=false/\p.hops[i]?=some o/\o.dst=some t)/\SInv P G N h0 φ0 T0 w0 ⟨st.r,s',st.T⟩ a w
variable{p:Plan}{ops:Array Oper}{E:V_}{st:St}{listed:Array Bool}{a:Act}{w:World}
def Yj{a:Array Bool}{i:Nat}:(i<a.size/\a.getD i true=false)↔(i<a.size/\a.getD i false=false):=by constructor<;>rintro⟨h,h1⟩<;>exact⟨h,by simpa[TR,h]using h1⟩
def uG(f:PlanOk p ops)(d:Drawn P G N h0 φ0 T0 w0 p E st listed a w){i:Nat}(h:i∈Region.ready .any ops listed):
 listed.getD i false=false/\i<p.hops.length/\(∃o,ops[i]?=some o)/\∀q∈p.p i,listed.getD q false=true:=by
 obtain⟨h1,o,b,h2⟩:=mem_ready.1 h;have c:i<listed.size:=by have:=(aGI.1 b).1;have:=f.len;have:=d.size;omega
 refine⟨(Yj.1 ⟨c,h1⟩).2,by have:=d.size;omega,⟨o,b⟩,λq j=>?_⟩;obtain⟨e,k,l,h3⟩:=f.pre i o b q j;have g:=h2 e k l;rcases h3 with rfl|h3;exact g;exact d.clo _ g _ h3
def Jh (c:PlanOk p ops) (h:listed.size=p.hops.length) (d:Region.ready .any ops listed=[]):∀i,i<p.hops.length->listed.getD i false=true:=by
 intro i
 induction i using Nat.strongRecOn with
 | _ i ih=>
  intro j;have a:i<ops.size:=by have:=c.len;omega
  by_cases b:listed.getD i false=true;exact b;have:i∈Region.ready .any ops listed:=by refine mem_ready.2 ⟨(Yj.2 ⟨o_,T_⟩).2,ops[i],Ri a,λe f g=>?_⟩;have:=(c.aft i _ (Ri a) e f g).1;exact ih e.on this o_
  rw[d]at this;simp at this
end
section
variable{P:Program}{G:L_}{N:Nat}{h0:GH}{φ0:Nat->Value}{T0:aK}{w0:World}
variable{H:List (Nat×Option Nat×Nat)}{ro:Option Nat}{p:Plan}{ops:Array Oper}{E:V_}{st:St}{listed:Array Bool}{a:Act}{w:World}{Q:Exit->Act->World->Prop}
def HF{f:FuncId}{args:O_}{T:aK}{K d:AV->aK->Prop}(h:∀x T,K x T->d x T)(a:IG P G f args T K):IG P G f args T d:=by obtain⟨c,e,a⟩:=a;refine⟨c,e,?_⟩;rcases a with a|⟨h1,a⟩|a;obtain⟨L,h1,h2,a⟩:=a;exact .inl ⟨L,h1,h2,a.mono λr g b=>h _ _ b⟩;exact .inr (.inl ⟨h1,a.mono λr g b=>⟨b.1,b.2.1,h _ _ b.2.2⟩⟩);exact .inr (.inr (a.mono h))
def Cg {st:St} {o:HOp} {K l:AV->aK->Prop} (h:∀x T,K x T->l x T) (a:yF P G st o K):yF P G st o l:=by
 cases o
 case call f as_=>
  simp only[yF]at a⊢;split at a;rename_i g j d;exact HF h a;rename_i g k t d;exact HF h a;rename_i i d;exact a.mono λr u m=>h _ _ m;exact a.elim
 case nxt p=>
  simp only[yF]at a⊢;split at a;split at a;exact h _ _ a;split at a;exact⟨a.1,a.2.1,λq=>h _ _ (a.2.2.1 q),λe k v b h1 h2 h3 s=>h _ _ (a.2.2.2 e k v b h1 h2 h3 s)⟩;exact a.elim;exact a.elim;exact a.elim
 case nilS n k x=>
  simp only[yF]at a⊢;split at a;rename_i c;rw[if_pos c];exact⟨h _ _ a.1,h _ _ a.2⟩;rename_i c;rw[if_neg c];split at a;exact h _ _ a;exact a.elim
 all_goals
  simp only[yF]at a⊢
  split at a
  exact h _ _ a
  exact a.elim
def WH{st:St}{o:HOp}{K:AV->aK->Prop}{x:AV}{T:aK}(c:iE o=true)(b:cE st.T (dW G st.s) o=some (x,T))(d:K x T):yF P G st o K:=by
 cases o
 case call f as_=>simp[iE]at c
 case nxt p=>simp[iE]at c
 case nilS n k y=>
  have a:Te k (dW G st.s y)≠true:=λa=>by unfold Te at a;split at a;rename_i h1;simp[cE,h1]at b;simp at a
  simp only[yF,b];rw[if_neg a];exact d
 all_goals
  simp only[yF,b]
  exact d
def WI(s:List (Nat×AV))(d:Nat)(x:AV):bA (fV s (some d) x) d=x:=by simp[fV,IP]
def Yk{s:List (Nat×AV)}{d t:Nat}{x:AV}(h:d≠t):bA (fV s (some d) x) t=bA s t:=by simp[fV,IP,h]
def Ch{s:List (Nat×AV)}{o:Option Nat}{t:Nat}{x:AV}(h:o≠some t):bA (fV s o x) t=bA s t:=by
 cases o with
 |none=>rfl|some d=>exact Yk λe=>h (by rw[e])
def iI{i:Nat}(a:i<listed.size)(j:Nat):(listed.setIfInBounds i true).getD j false=true↔j=i\/listed.getD j false=true:=by by_cases h:i=j;subst h;simp[TR,a];rw[getD_set_ne false h];constructor;exact .inr;rintro(rfl|b);exact absurd rfl h;exact b
def L8 (hp:PlanOk p ops) (m:Drawn P G N h0 φ0 T0 w0 p E st listed a w) {i:Nat} (R:i∈p.ready E) (S:p.quiet i=true) {o:HOper} (F:p.hops[i]?=some o) {x:AV}
 (Y:(fY st.s o.guard=some true/\∃W,cE st.T (dW G st.s) o.op=some (x,W))\/(fY st.s o.guard=some false/\x=.v undef)):
 Drawn P G N h0 φ0 T0 w0 p (i::E) ⟨st.r,fV st.s o.dst x,st.T⟩ listed a w:=by
 obtain⟨o',d,u,aa,Q,K⟩:=HE S;rw[F]at u;cases u;simp only[Plan.ready,gR,uM,zJ,EX,JW,decide_eq_false_iff_not,oD,decide_eq_true_eq]at R;obtain⟨M,B,z⟩:=R;have L:listed.getD i false=false:=by cases hb:listed.getD i false;rfl;exact absurd (m.sub i hb) B
 have n:∀(k:Nat) g,k∈E\/k=i->p.hops[k]?=some g->d∉Vr g:=λk g f c hm=>by have h1:=K k g c hm;rcases f with f|rfl;exact B (m.ecl k f i h1);exact B (z k h1)
 have l:∀(k:Nat) g,k∈E\/k=i->p.hops[k]?=some g->∀t∈Vr g,bA (fV st.s o.dst x) t=bA st.s t:=λk g f c t D=>by rw[Q];exact Yk λe=>n k g f c (e ▸ D)
 refine⟨m.size,?_,λk f=>GU _ (m.sub k f),m.clo,?_,?_,?_,AT m.once _ _,?_⟩;intro k f;rcases cS.1 f with rfl|f;exact M;exact m.lt k f;intro k f A;rcases cS.1 f with rfl|f;rw[S]at A;simp at A;exact m.heavy k f A;intro k f q H;rcases cS.1 f with rfl|f;exact GU _ (z q H);exact GU _ (m.ecl k f q H);intro k f J g c;by_cases C:k=i;subst C;rw[F]at c;cases c;have V:fY (fV st.s o.dst x) o.guard=fY st.s o.guard:=Bg λj b e=>l k o (.inr rfl) F j (by simp[Vr,e]);have U:cE st.T (dW G (fV st.s o.dst x)) o.op=cE st.T (dW G st.s) o.op:=F1 λy X=>NI λt D=>l k o (.inr rfl) F t (by simp only[Vr,cG];exact .inl (X t D));rw[Q]at V U⊢;simp only[qL,V,U,Q,iX,WI,and_true];rcases Y with⟨h1,W,h2⟩|⟨h1,h2⟩
 simp[h1,h2];simp[h1,h2];have I:k∈E:=by rcases cS.1 f with h|h;exact absurd h C;exact h
 rw[NL (s':=st.s) (l k g (.inl I) c) ?_];exact m.pend k I J g c
 cases O:g.dst with
 |none=>rfl|some dk=>
  simp only[iX,E_];refine Ch λe=>C ?_;exact hp.dst i k o g dk F c (e ▸ rfl) O
 obtain⟨s',Z,hS⟩:=m.inv;refine⟨s',λt=>?_,hS⟩;by_cases D:o.dst=some t;exact .inr ⟨i,o,s_,L,F,D⟩;rcases Z t with h|⟨k,g,h1,h2,h3,h4⟩
 exact .inl (by rw[h];exact(Ch D).symm);exact .inr ⟨k,g,s7,h2,h3,h4⟩
def NQ(q:PlanOk p ops)(j:Drawn P G N h0 φ0 T0 w0 p E st listed a w){i:Nat}(n:i∈Region.ready .any ops listed){o:HOper}(r:p.hops[i]?=some o){s':List (Nat×AV)}
 (m:∀t,bA s' t=bA st.s t\/∃i o,i∈E/\listed.getD i false=false/\p.hops[i]?=some o/\o.dst=some t):∀t∈Vr o,bA s' t=bA st.s t:=by
 intro t l;obtain⟨_,_,_,c⟩:=uG q j n;rcases m t with h|⟨k,x,h1,h2,h3,v⟩
 exact h;have g:p.quiet k=true:=by cases u:p.quiet k;rw[j.heavy k h1 u]at h2;simp at h2;rfl
 obtain⟨y,d,b,_,e,f⟩:=HE g;rw[h3]at b;cases b;rw[v]at e;cases e;rw[c k (f i o r l)]at h2;simp at h2
def WJ (Y:PlanOk p ops) (hh:∀(i:Nat) z,p.hops[i]?=some z->∃o,ops[i]?=some o/\(qP P N ops o).map (Gu H)=some z) (g:Drawn P G N h0 φ0 T0 w0 p E st listed a w) {i:Nat} (X:i∈Region.ready .any ops listed) (S:i∈E) {next:Act->World->Prop}
 (hn:∀u m,Drawn P G N h0 φ0 T0 w0 p E st (listed.setIfInBounds i true) u m->next u m):wpOpIn (fe ro) 0 P ops Q i next a w:=by
 obtain⟨y,R,⟨c,hc⟩,J⟩:=uG Y g X;have hq:p.quiet i=true:=by cases L:p.quiet i;rw[g.heavy i S L]at y;simp at y;rfl
 obtain⟨o,d,z,I,U,aa⟩:=HE hq;obtain⟨s',W,hS⟩:=g.inv;have D:=NQ Y g X z W;have f:=g.pend i S y o z;obtain⟨c',V,B⟩:=hh i o z;have M:∀x u m,x=bA st.s d->SInv P G N h0 φ0 T0 w0 ⟨st.r,fV s' o.dst x,st.T⟩ u m->next u m:=by
  intro x u m hx n;have l:i<listed.size:=by rw[g.size];exact R
  refine hn u m ⟨by simpa using g.size,g.lt,λk A=>?_,λk A q F=>?_,λk A O=>?_,g.ecl,λk A K=>?_,g.once,fV s' o.dst x,λt=>?_,n⟩;rcases(iI l k).1 A with rfl|h;exact S;exact g.sub k h;refine(iI l q).2 (.inr ?_);rcases(iI l k).1 A with rfl|h;exact J q F;exact g.clo k h q F;exact(iI l k).2 (.inr (g.heavy k A O));apply g.pend k A;cases L:listed.getD k false;rfl;rw[(iI l k).2 (.inr L)]at K;simp at K;by_cases v:o.dst=some t;rw[v];rw[U]at v;cases v;exact .inl (by rw[WI];exact hx);rw[Ch v];rcases W t with h|⟨k,ok,h1,h2,h3,h4⟩
  exact .inl h;refine .inr ⟨k,ok,h1,?_,h3,h4⟩;cases L:(listed.setIfInBounds i true).getD k false;rfl;rcases(iI l k).1 L with rfl|h;rw[z]at h3;cases h3;exact absurd h4 v;rw[h2]at h;simp at h
 apply Yi V B hS;have hw:fY s' o.guard=fY st.s o.guard:=Bg λj b e=>D j (by simp[Vr,e]);simp only[qL,and_true]at f;simp only[hw]
 cases C:fY st.s o.guard with
 |none=>simp[C]at f| some b=>
  rw[C]at f
  cases b with
  |false=>
   simp only[U,iX,E_]at f;exact λu m n=>M _ u m f.symm n
  |true=>
   simp only at f⊢;rw[Qg (s':=st.s) λt v=>D t (by simp only[Vr,cG];exact .inl v)];split at f;rename_i x T' Z;simp only[U,iX,E_]at f;have hT:=Je I Z;subst hT;exact WH (st:=⟨st.r,st.s,st.T⟩) I Z λu m n=>M x u m f.symm n;exact f.elim
def WK (hp:PlanOk p ops) (hh:∀(i:Nat) M,p.hops[i]?=some M->∃o,ops[i]?=some o/\(qP P N ops o).map (Gu H)=some M) (g:Drawn P G N h0 φ0 T0 w0 p E st listed a w) {i:Nat} (hr:i∈Region.ready .any ops listed) (hi:i∉E) (hq:p.quiet i=false)
 {o:HOper} (M:p.hops[i]?=some o) {K:AV->aK->Prop}
 (L:match fY st.s o.guard with|some true=>yF P G st o.op λx T=>qL G ⟨st.r,fV st.s o.dst x,T⟩ (if iE o.op then [] else p.pend (i::E))/\K x T|some false=>qL G ⟨st.r,fV st.s o.dst (.v undef),st.T⟩ (if iE o.op then [] else p.pend (i::E))/\K (.v undef) st.T|none=>False) {next:Act->World->Prop}
 (hn:∀x T B n,K x T->Drawn P G N h0 φ0 T0 w0 p (i::E) ⟨st.r,fV st.s o.dst x,T⟩ (listed.setIfInBounds i true) B n->next B n):wpOpIn (fe ro) 0 P ops Q i next a w:=by
 obtain⟨af,X,⟨c,hc⟩,y⟩:=uG hp g hr;obtain⟨s',hs,hS⟩:=g.inv;have V:=NQ hp g hr M hs;obtain⟨c',ae,R⟩:=hh i o M;have f:i<listed.size:=by rw[g.size];exact X
 have aa:∀x T B n,qL G ⟨st.r,fV st.s o.dst x,T⟩ (if iE o.op then [] else p.pend (i::E))->(iE o.op=true->T=st.T)->K x T ->
  SInv P G N h0 φ0 T0 w0 ⟨st.r,fV s' o.dst x,T⟩ B n->next B n:=by
  intro x T B n Z ac d A;have I:∀k,(listed.setIfInBounds i true).getD k false=true->∀q∈p.p k,(listed.setIfInBounds i true).getD q false=true:=λk d q u=>by refine(iI f q).2 (.inr ?_);rcases(iI f k).1 d with rfl|h;exact y q u;exact g.clo k h q u
  have l:∀k∈i::E,p.quiet k=false->(listed.setIfInBounds i true).getD k false=true:=λk d C=>by rcases cS.1 d with rfl|d;exact(iI f k).2 (.inl rfl);exact(iI f k).2 (.inr (g.heavy k d C))
  refine hn x T B n d ⟨by simpa using g.size,λk d=>?_,λk d=>?_,I,l,λk d q u=>?_,λk d m J D=>?_,AT g.once _ _,fV s' o.dst x,λt=>?_,A⟩;rcases cS.1 d with rfl|d;exact X;exact g.lt k d;rcases(iI f k).1 d with rfl|h;simp;exact GU _ (g.sub k h);rcases cS.1 d with rfl|d;exact GU _ (g.sub q (y q u));exact GU _ (g.ecl k d q u);have Y:k≠i:=λe=>by rw[(iI f k).2 (.inl e)]at m;simp at m
  have O:k∈E:=by rcases cS.1 d with h|h;exact absurd h Y;exact h
  have z:listed.getD k false=false:=by cases F:listed.getD k false;rfl;rw[(iI f k).2 (.inr F)]at m;simp at m
  have C:p.quiet k=true:=by cases F:p.quiet k;rw[g.heavy k O F]at z;simp at z;rfl
  by_cases W:iE o.op=true;have hT:=ac W;subst hT;rw[NL (s':=st.s) ?_ ?_];exact g.pend k O z J D;intro t S;refine Ch λe=>?_;rcases hp.rds i k o J t M D e S hq C with h1|h1;exact hi (g.ecl k O i h1);rw[y k h1]at z;simp at z
  cases ad:J.dst with
  |none=>rfl|some dk=>
   simp only[iX,E_];exact Ch λe=>Y (hp.dst i k o J dk M D e ad)
  rw[if_neg W]at Z;refine(NK.1 Z) J ?_;simp only[Plan.pend,aBJ,gR,zJ,EX,List.any_eq_false];refine⟨k,⟨d,C,λh hm F=>?_⟩,D⟩;simp only[JW,decide_eq_true_eq]at F;rw[I h (l h hm F.1) k F.2]at m;simp at m;by_cases S:o.dst=some t;simp only[S,WI,true_or];simp only[Ch S];rcases hs t with h|⟨k,J,h1,h2,h3,h4⟩
  exact .inl h;refine .inr ⟨k,J,s7,?_,h3,h4⟩;cases F:(listed.setIfInBounds i true).getD k false;rfl;rcases(iI f k).1 F with rfl|h;exact absurd h1 hi;rw[h2]at h;simp at h
 apply Yi ae R hS;have ab:fY s' o.guard=fY st.s o.guard:=Bg λj b e=>V j (by simp[Vr,e]);simp only[ab]
 cases U:fY st.s o.guard with
 |none=>simp[U]at L| some b=>
  rw[U]at L
  cases b with
  |false=>
   simp only at L⊢;exact λB n A=>aa _ _ B n L.1 (λ_=>rfl) L.2 A
  |true=>
   simp only at L⊢;rw[Qg (s':=st.s) λt S=>V t (by simp only[Vr,cG];exact .inl S)];refine Cg (λx T h B n A=>?_) (aA8 L);exact aa x T B n h.1.1 h.2 h.1.2 A
def T7 {g:Bool} {n:Nat} {c:Bool} {G:L_} {K:St->Prop}:∀{l:V_}{d:HD},l.foldr (λi f=>match f,p.hops[i]?,LH p n (g||c) (i::E) with|some t,some o,some x=>some (.alt o (if iE o.op then [] else p.pend (i::E)) x t)|_,_,_=>none) (some .no)=some d->JV P G d st K->∀i∈l,∃o x,p.hops[i]?=some o/\LH p n (g||c) (i::E)=some x/\(match fY st.s o.guard with|some true=>yF P G st o.op λy T=>qL G ⟨st.r,fV st.s o.dst y,T⟩ (if iE o.op then [] else p.pend (i::E))/\JV P G x ⟨st.r,fV st.s o.dst y,T⟩ K|some false=>qL G ⟨st.r,fV st.s o.dst (.v undef),st.T⟩ (if iE o.op then [] else p.pend (i::E))/\JV P G x ⟨st.r,fV st.s o.dst (.v undef),st.T⟩ K|none=>False)|[],d,_,_,i,b=>by simp at b| j::l,d,a,e,i,b=>by simp only[List.foldr_cons]at a;split at a;rename_i t o x h1 h2 h3;cases a;simp only[JV]at e;rcases cS.1 b with rfl|b;exact⟨o,x,h2,h3,e.1⟩;exact T7 h1 e.2 i b;simp at a
def CD{α a:Type}(f:α->a):∀(l:List α)(j:Nat),(l.map f).eraseIdx j=(l.eraseIdx j).map f|[],_=>by simp|x::l,0=>by simp|x::l,j+1=>by simp[CD f l j]
def T8{E a:V_}(h:∀x,E.contains x=a.contains x):p.ready E=p.ready a:=by unfold Plan.ready;refine List.filter_congr λi _=>?_;rw[h,show E.contains=a.contains from funext h]
def WL{E a:V_}(h:∀x,E.contains x=a.contains x):(p.pend E).isEmpty=(p.pend a).isEmpty:=by
 have c:∀x,x∈E↔x∈a:=λx=>by have:=h x;simp only[JW]at this;exact decide_eq_decide.1 this
 have e:∀q,(E.any λk=>!p.quiet k&&(p.p k).contains q)=(a.any λk=>!p.quiet k&&(p.p k).contains q):=λq=>by rw[CT,CX,CX];exact⟨λ⟨k,h1,h2⟩=>⟨k,(c k).1 h1,h2⟩,λ⟨k,h1,h2⟩=>⟨k,(c k).2 h1,h2⟩⟩
 have d:∀{E a:V_},(∀x,x∈E↔x∈a)->(∀q,(E.any λk=>!p.quiet k&&(p.p k).contains q)=(a.any λk=>!p.quiet k&&(p.p k).contains q))->∀o,o∈p.pend E->o∈p.pend a:=λc e o b=>by simp only[Plan.pend,aBJ,gR,e]at b⊢;obtain⟨q,⟨h1,h2⟩,h3⟩:=b;exact⟨q,⟨(c q).1 h1,h2⟩,h3⟩
 rw[CT,aGM,aGM];constructor;intro h0;exact TS.2 λo b=>by have:=d (λx=>(c x).symm) (λq=>(e q).symm) o b;rw[h0]at this;simp at this
 intro h0;exact TS.2 λo b=>by have:=d c e o b;rw[h0]at this;simp at this
def Qh:∀(n:Nat)(b:Bool)(E a:V_),(∀x,E.contains x=a.contains x)->Vs p n b E=Vs p n b a
 |0,_,_,_,_=>rfl
 | n+1,b,E,a,h=>by
  have c:∀i x,(i::E).contains x=(i::a).contains x:=λi x=>by simp only[List.contains_cons,h]
  simp only[Vs,T8 h];have h1:∀i,Vs p n b (i::E)=Vs p n b (i::a):=λi=>Qh n b _ _ (c i);have h2:∀i,(p.pend (i::E)).isEmpty=(p.pend (i::a)).isEmpty:=λi=>WL (c i)
  cases(p.ready a).find? p.quiet with
  |some i=>simp only;rw[h1 i]
  |none=>
   simp only;rcases p.ready a with _|⟨i,_|⟨j,d⟩⟩
   rfl;simp only;rw[h1 i,h2 i];rfl
def NR:∀(n:Nat)(b:Bool)(E:V_)(e:HD),Vs p n b E=some e->LH p n b E=some e
 |0,_,_,_,h=>by simp[Vs]at h
 | n+1,b,E,e,h=>by
  simp only[Vs]at h;simp only[LH]
  cases f:(p.ready E).find? p.quiet with
  | some i=>
   rw[f]at h;simp only at h⊢
   cases c:p.hops[i]? with
   |none=>rw[c]at h;simp at h
   |some o=>
    rw[c]at h;simp only at h⊢
    cases a:Vs p n b (i::E) with
    |none=>simp[a]at h
    |some x=>rw[a]at h;rw[NR n b _ _ a];exact h
  | none=>
   rw[f]at h;simp only at h⊢;rcases hr:p.ready E with _|⟨i,_|⟨j,k⟩⟩
   rw[hr]at h;exact h;rw [hr]at h;simp only at h⊢
   cases c:p.hops[i]? with
   |none=>rw[c]at h;simp at h
   | some o=>
    rw[c]at h;simp only at h;split at h;rename_i d
    cases a:Vs p n b (i::E) with
    |none=>simp[a]at h
    |some x=>
     rw[a]at h;have h0:p.pend (i::E)=[]:=aGM.1 d;have g:=NR n b _ _ a;simp only[iX,E_]at h;subst h;simp[c,g,h0]
    simp at h
   rw[hr]at h;simp at h
def aCp{G:L_}{st:St}{l a:List HOper}(h:∀o∈a,o∈l)(c:qL G st l):qL G st a:=NK.2 λo b=>NK.1 c o (h o b)
def NS (hp:PlanOk p ops) (hh:∀(i:Nat) z,p.hops[i]?=some z->∃o,ops[i]?=some o/\(qP P N ops o).map (Gu H)=some z) {l E0:V_} (C:∀i∈l,p.quiet i=false) (B:∀i∈l,∃o,p.hops[i]?=some o) (ae:NJ p E0 l=true) (A:∀i∈l,i∉E0)
 {K:St->Prop} (J:∀(E:V_)(st:St),(∀x,E.contains x=(l++E0).contains x)->K st->∀(fuel:Nat)(c:Array Bool)(a:Act)(w:World),Drawn P G N h0 φ0 T0 w0 p E st c a w->Kt c p.hops.length<=fuel->wpAnyIn (fe ro) 0 P .any ops Q fuel c a w):
 ∀(n:Nat)(R E:V_)(st:St),R.length=n->(∀i∈R,i∈l)->(∀i,i∈E↔(i∈l/\i∉R)\/i∈E0)->R.Nodup->IH P G ((E0.filter p.quiet).filterMap λq=>p.hops[q]?) n (R.map λi=>(p.hops[i]?).getD default) st K ->
 ∀(fuel:Nat)(c:Array Bool)(a:Act)(w:World),Drawn P G N h0 φ0 T0 w0 p E st c a w->Kt c p.hops.length<=fuel->wpAnyIn (fe ro) 0 P .any ops Q fuel c a w
 |0,R,E,st,hR,g,F,O,hw=>by
  have:R=[]:=Ae hR;subst this;refine J E st (λx=>?_) hw;rw[CT];simp[F]
 | n+1,R,E,st,hR,g,F,O,hw=>by
  have ab:∀k,k∈p.ready E->k∈R:=λk Y=>by
   simp only[Plan.ready,gR,uM,zJ,EX,JW,decide_eq_false_iff_not,oD,decide_eq_true_eq]at Y;obtain⟨t,d,U⟩:=Y;have h1:=ae;simp only[NJ,oD,uM,Ec,JW,decide_eq_true_eq]at h1;rcases h1 k t with(h2|h2)|h2;exact absurd ((F k).2 (.inr h2)) d;apply QB;intro h3;exact d ((F k).2 (.inl ⟨h2,h3⟩))
   cases R with
   |nil=>simp at hR|cons r R=>
    have y:=g r EV;have h4:=U r (h2 r y);rcases(F r).1 h4 with h5|h5;exact absurd EV h5.2;exact absurd h5 (A r y)
  have Z:∀(fuel:Nat),(∀(c:Array Bool)(a:Act)(w:World),Drawn P G N h0 φ0 T0 w0 p E st c a w->Kt c p.hops.length<=fuel->wpAnyIn (fe ro) 0 P .any ops Q fuel c a w) ->
   ∀(c:Array Bool)(a:Act)(w:World),Drawn P G N h0 φ0 T0 w0 p E st c a w->Kt c p.hops.length<=fuel+1->∀i∈Region.ready .any ops c,wpOpIn (fe ro) 0 P ops Q i (wpAnyIn (fe ro) 0 P .any ops Q fuel (c.setIfInBounds i true)) a w:=by
   intro fuel ih c a w v hf i hi;obtain⟨aj,S,_,ac⟩:=uG hp v hi;have ai:Kt (c.setIfInBounds i true) p.hops.length<=fuel:=by have:=L7 (by rw[v.size];exact S) aj S;omega
   by_cases W:i∈E;exact WJ hp hh v hi W λa' w' X=>ih _ a' w' X ai;have ak:i∈p.ready E:=by simp only[Plan.ready,gR,uM,zJ,EX,JW,decide_eq_false_iff_not,oD,decide_eq_true_eq];exact⟨S,W,λq I=>v.sub q (ac q I)⟩
   have ah:=ab i ak;have D:=g i ah;obtain⟨o,z⟩:=B i D;obtain⟨j,hj,V⟩:=List.mem_iff_getElem.1 ah;have am:(R.map λi=>(p.hops[i]?).getD default)[j]?=some o:=by simp[hj,V,z]
   have f:=hw j o am;have m:∀k,k∈R.eraseIdx j↔k∈R/\k≠i:=λk=>by rw[List.mem_eraseIdx_iff_getElem];constructor;rintro⟨q,I,al,rfl⟩;exact⟨eQ I,λe=>al ((C9 O).1 (e.trans V.symm))⟩;rintro⟨h1,h2⟩;obtain⟨q,I,rfl⟩:=List.mem_iff_getElem.1 h1;exact⟨q,I,λe=>h2 (by subst e;exact V),rfl⟩
   have M:∀q∈p.pend (i::E),q∈(E0.filter p.quiet).filterMap λq=>p.hops[q]?:=λq I=>by simp only[Plan.pend,aBJ,gR,zJ]at I⊢;obtain⟨k,⟨t,d,_⟩,U⟩:=I;refine⟨k,⟨?_,d⟩,U⟩;rcases cS.1 t with rfl|t;rw[C k D]at d;simp at d;rcases(F k).1 t with h5|h5;rw[C k h5.1]at d;simp at d;exact h5
   have L:∀s,qL G s ((E0.filter p.quiet).filterMap λq=>p.hops[q]?)->qL G s (if iE o.op then [] else p.pend (i::E)):=λs hc=>by split;trivial;exact aCp M hc
   refine WK hp hh v hi W (C i D) z (K:=λx T=>IH P G ((E0.filter p.quiet).filterMap λq=>p.hops[q]?) n ((R.eraseIdx j).map λi=>(p.hops[i]?).getD default) ⟨st.r,fV st.s o.dst x,T⟩ K) ?_ ?_;have ad:(R.map λi=>(p.hops[i]?).getD default).eraseIdx j=(R.eraseIdx j).map λi=>(p.hops[i]?).getD default:=CD _ R j;rw[ad]at f
   cases aa:fY st.s o.guard with
   |none=>rw[aa]at f;exact f|some b=>
    rw[aa]at f
    cases b with
    |true=>exact Cg (λx T ⟨h1,h2⟩=>⟨L _ h1,h2⟩) f|false=>exact⟨L _ f.1,f.2⟩
   intro x T a' w' Y X;refine NS hp hh C B ae A J n (R.eraseIdx j) (i::E) _ (by rw[Rg hj];omega) (λk Y=>g k ((m k).1 Y).1) (λk=>?_) (O.eraseIdx j) Y fuel _ a' w' X ai;rw[cS,F,m];constructor;rintro(rfl|h|h);exact .inl ⟨D,λh=>h.2 rfl⟩;exact .inl ⟨h.1,λh2=>h.2 h2.1⟩;exact .inr h;rintro(h|h);by_cases af:k=i;exact .inl af;exact .inr (.inl ⟨h.1,λh2=>h.2 ⟨h2,af⟩⟩);exact .inr (.inr h)
  intro fuel
  induction fuel with
  | zero=>
   intro c a w v hf;exfalso;have u:=IX (Tb.1 hf)
   cases R with
   |nil=>simp at hR|cons r R=>
    have y:=g r EV;obtain⟨o,z⟩:=B r y;have h4:=v.sub r (u r (sV.1 z).1);rcases(F r).1 h4 with h5|h5;exact absurd EV h5.2;exact absurd h5 (A r y)
  | succ fuel ih=>
   intro c a w v hf;refine⟨λy=>?_,Z fuel (λl a w=>ih l a w) c a w v hf⟩;exfalso;have u:=Jh hp v.size y
   cases R with
   |nil=>simp at hR|cons r R=>
    have y:=g r EV;obtain⟨o,z⟩:=B r y;have h4:=v.sub r (u r (sV.1 z).1);rcases(F r).1 h4 with h5|h5;exact absurd EV h5.2;exact absurd h5 (A r y)
def DK (m:PlanOk p ops) (W:∀(i:Nat) U,p.hops[i]?=some U->∃o,ops[i]?=some o/\(qP P N ops o).map (Gu H)=some U) {K:St->Prop}
 (hn:∀M J F,K M->SInv P G N h0 φ0 T0 w0 M J F->Q .normal J F):∀(n:Nat)(I:Bool)(E:V_)(st:St),vU P G p n I E st K ->
 ∀(fuel:Nat)(b:Array Bool)(a:Act)(w:World),Drawn P G N h0 φ0 T0 w0 p E st b a w->Kt b p.hops.length<=fuel->wpAnyIn (fe ro) 0 P .any ops Q fuel b a w
 |0,I,E,st,g=>g.elim| n+1,I,E,st,g=>by
  intro fuel b a w d v;simp only[vU]at g;split at g;rename_i i X;have e:=Mg X;have R:=aGO X;split at g;rename_i o U;split at g;rename_i A;split at g;rename_i x T' z;exact DK m W hn n I (i::E) _ g fuel b a w (L8 m d e R U (.inl ⟨A,T',z⟩)) v;exact g.elim;rename_i A;exact DK m W hn n I (i::E) _ g fuel b a w (L8 m d e R U (.inr ⟨A,rfl⟩)) v;exact g.elim;exact g.elim;rename_i B;have ac:∀i∈p.ready E,p.quiet i=false:=λi V=>by have:=Eb.1 B i V;simpa using this
  have L:∀(fuel:Nat),(∀(b:Array Bool)(a:Act)(w:World),Drawn P G N h0 φ0 T0 w0 p E st b a w->Kt b p.hops.length<=fuel->wpAnyIn (fe ro) 0 P .any ops Q fuel b a w) ->
   ∀(b:Array Bool)(a:Act)(w:World),Drawn P G N h0 φ0 T0 w0 p E st b a w->Kt b p.hops.length<=fuel+1->∀i∈Region.ready .any ops b,wpOpIn (fe ro) 0 P ops Q i (wpAnyIn (fe ro) 0 P .any ops Q fuel (b.setIfInBounds i true)) a w:=by
   intro fuel ih b a w d v i V;obtain⟨u,j,_,S⟩:=uG m d V;have Y:Kt (b.setIfInBounds i true) p.hops.length<=fuel:=by have:=L7 (by rw[d.size];exact j) u j;omega
   by_cases C:i∈E;exact WJ m W d V C λJ F D=>ih _ J F D Y;have e:i∈p.ready E:=by simp only[Plan.ready,gR,uM,zJ,EX,JW,decide_eq_false_iff_not,oD,decide_eq_true_eq];exact⟨j,C,λq hq=>d.sub q (S q hq)⟩
   split at g;rename_i z;rw[z]at e;simp at e;rename_i c cs z;rw[z]at e;obtain⟨o,h1,h3⟩:=g i e;exact WK m W d V C (ac i (by rw[z];exact e)) h1 (K:=λy T=>vU P G p n (I||!cs.isEmpty) (i::E) ⟨st.r,fV st.s o.dst y,T⟩ K) h3 λy T J F hk D=>DK m W hn n _ (i::E) _ hk fuel _ J F D Y
  have aa:∀(b:Array Bool)(a:Act)(w:World),Drawn P G N h0 φ0 T0 w0 p E st b a w->(∀i,i<p.hops.length->b.getD i false=true)->Q .normal a w:=by
   intro b a w d f;split at g;obtain⟨s',hs,hS⟩:=d.inv;have Z:SInv P G N h0 φ0 T0 w0 st a w:=by
    obtain⟨O,_,⟨h,φ,hG,hE,hI,ae⟩,ab,ad⟩:=hS;refine⟨O,d.once,⟨h,φ,hG,hE,hI,λt=>?_⟩,ab,ad⟩;have h1:=ae t;rcases hs t with h2|⟨k,ok,h2,h3,_⟩
    simp only at h1;rw[h2]at h1;exact h1;rw[f k (d.lt k h2)]at h3;simp at h3
   apply hn _ a w g;split;exact Ep _ Z;exact Z;rename_i c cs z;have hc:c∈p.ready E:=by rw[z];simp
   simp only[Plan.ready,gR,uM,zJ,EX,JW,decide_eq_false_iff_not]at hc;exact absurd (d.sub c (f c hc.1)) hc.2.1
  refine(?_:∀(fuel:Nat)(b:Array Bool)(a:Act)(w:World),Drawn P G N h0 φ0 T0 w0 p E st b a w->Kt b p.hops.length<=fuel->wpAnyIn (fe ro) 0 P .any ops Q fuel b a w) fuel b a w d v;clear v d b a w fuel;intro fuel b a w
  induction fuel generalizing b a w with
  | zero=>
   intro d v;have f:=IX (Tb.1 v);refine⟨?_,aa b a w d f⟩
   cases O:Region.ready .any ops b with
   |nil=>rfl|cons i l=>
    obtain⟨u,j,_,_⟩:=uG m d (i:=i) (by rw[O];simp);rw[f i j]at u;simp at u
  |succ fuel ih=>
   intro d v;exact⟨λO=>aa b a w d (Jh m d.size O),L fuel (λl a w=>ih l a w) b a w d v⟩
def Es (hp:PlanOk p ops) (hh:∀(i:Nat) ho,p.hops[i]?=some ho->∃o,ops[i]?=some o/\(qP P N ops o).map (Gu H)=some ho) {K:St->Prop}
  (hn:∀st' a' w',K st'->SInv P G N h0 φ0 T0 w0 st' a' w'->Q .normal a' w'):∀(n:Nat)(gc:Bool)(E:V_)(hd:HD)(st:St),LH p n gc E=some hd->JV P G hd st K ->
  ∀(fuel:Nat)(listed:Array Bool)(a:Act)(w:World),Drawn P G N h0 φ0 T0 w0 p E st listed a w->Kt listed p.hops.length<=fuel->wpAnyIn (fe ro) 0 P .any ops Q fuel listed a w
 |0,gc,E,hd,st,hm,_=>by simp[LH]at hm
 | n+1,gc,E,hd,st,hm,hw=>by
  intro fuel listed a w hJ hf;simp only[LH]at hm;split at hm
  ·
   rename_i i hfi;have hri:=Mg hfi;have hqi:=aGO hfi;split at hm
   ·rename_i o ho
    cases hx:LH p n gc (i::E) with
    |none=>simp[hx]at hm
    | some hd'=>
     simp only[hx,iX,E_]at hm;subst hm;simp only[JV]at hw;split at hw
     ·rename_i hwt;split at hw
      ·rename_i x T' he;exact Es hp hh hn n gc (i::E) hd' _ hx hw fuel listed a w (L8 hp hJ hri hqi ho (.inl ⟨hwt,T',he⟩)) hf
      ·exact hw.elim
     ·rename_i hwt;exact Es hp hh hn n gc (i::E) hd' _ hx hw fuel listed a w (L8 hp hJ hri hqi ho (.inr ⟨hwt,rfl⟩)) hf
     ·exact hw.elim
   ·simp at hm
  ·rename_i hnone;have hnq:∀i∈p.ready E,p.quiet i=false:=λi hi=>by have:=Eb.1 hnone i hi;simpa using this
   by_cases hperm:∃c cs,p.ready E=c::cs/\(8<=cs.length&&NJ p E (c::cs)&&(Vs p n true ((c::cs)++E)).isSome)=true
   ·obtain⟨c,cs,he,hb⟩:=hperm;rw[he]at hm;simp only[hb,if_true]at hm
    cases hq:Vs p n true ((c::cs)++E) with
    |none=>rw[hq]at hm;simp at hm
    | some x=>
     rw[hq]at hm;simp only[iX,E_]at hm;subst hm;simp only[JV]at hw;rw[aP]at hw;have hb2:NJ p E (c::cs)=true:=by simp only[zJ]at hb;exact hb.1.2
     have hmem:∀i∈c::cs,i<p.hops.length/\i∉E:=λi hi=>by rw[<-he]at hi;simp only[Plan.ready,gR,uM,zJ,EX,JW,decide_eq_false_iff_not]at hi;exact⟨hi.1,hi.2.1⟩
     have hnd:(c::cs).Nodup:=by rw[<-he];exact List.Pairwise.filter _ aBT
     exact NS hp hh (l:=c::cs) (E0:=E) (λi hi=>hnq i (by rw[he];exact hi)) (λi hi=>⟨_,jN (hmem i hi).1⟩) hb2 (λi hi=>(hmem i hi).2)
      (λE2 st2 hE2 hk fuel listed a w hJ hf=>Es hp hh hn n true E2 x st2 (NR _ _ _ _ ((Qh n true E2 _ hE2).trans hq)) hk fuel listed a w hJ hf)
      (c::cs).length (c::cs) E st rfl (λ_ h=>h) (λi=>⟨λh=>.inr h,λh=>h.elim (λh=>absurd h.1 h.2) id⟩) hnd hw fuel listed a w hJ hf
   by_cases hplan:∃c cs,p.ready E=c::cs/\(!cs.isEmpty&&12<=((List.range p.hops.length).filter λk=>!E.contains k&&!p.quiet k).length)=true
   ·obtain⟨c,cs,he,hb⟩:=hplan;rw[he]at hm;simp only at hm;rw[if_neg (λh=>hperm ⟨c,cs,he,h⟩),if_pos hb]at hm;injection hm with hm;subst hm;simp only[JV]at hw;exact DK hp hh hn n gc E st hw fuel listed a w hJ hf
   replace hm:(match p.ready E with
    |[]=>some (.done gc)
    |c::cs=>(c::cs).foldr (λi acc=>match acc,p.hops[i]?,LH p n (gc||(!p.ng&&!cs.isEmpty)) (i::E) with
     |some t,some o,some x=>some (.alt o (if iE o.op then [] else p.pend (i::E)) x t)
     |_,_,_=>none) (some .no))=some hd:=by
    cases he:p.ready E with
    |nil=>rw[he]at hm;exact hm
    |cons c cs=>
     rw[he]at hm;simp only at hm⊢;rw[if_neg (λh=>hperm ⟨c,cs,he,h⟩),if_neg (λh=>hplan ⟨c,cs,he,h⟩)]at hm;exact hm
   have step:∀(fuel:Nat),(∀(listed:Array Bool)(a:Act)(w:World),Drawn P G N h0 φ0 T0 w0 p E st listed a w->Kt listed p.hops.length<=fuel->wpAnyIn (fe ro) 0 P .any ops Q fuel listed a w) ->
     ∀(listed:Array Bool)(a:Act)(w:World),Drawn P G N h0 φ0 T0 w0 p E st listed a w->Kt listed p.hops.length<=fuel+1->∀i∈Region.ready .any ops listed,wpOpIn (fe ro) 0 P ops Q i (wpAnyIn (fe ro) 0 P .any ops Q fuel (listed.setIfInBounds i true)) a w:=by
    intro fuel ih listed a w hJ hf i hi;obtain⟨hul,hlt,_,hpre⟩:=uG hp hJ hi;have hf':Kt (listed.setIfInBounds i true) p.hops.length<=fuel:=by have:=L7 (by rw[hJ.size];exact hlt) hul hlt;omega
    by_cases hiE:i∈E
    ·exact WJ hp hh hJ hi hiE λa' w' hJ'=>ih _ a' w' hJ' hf'
    ·have hri:i∈p.ready E:=by simp only[Plan.ready,gR,uM,zJ,EX,JW,decide_eq_false_iff_not,oD,decide_eq_true_eq];exact⟨hlt,hiE,λq hq=>hJ.sub q (hpre q hq)⟩
     split at hm
     ·rename_i he;rw[he]at hri;simp at hri
     ·rename_i c cs he;rw[he]at hri;obtain⟨o,x,h1,h2,h3⟩:=T7 hm hw i hri;exact WK hp hh hJ hi hiE (hnq i (by rw[he];exact hri)) h1 h3 λy T a' w' hk hJ'=>Es hp hh hn n _ (i::E) x _ h2 hk fuel _ a' w' hJ' hf'
   have fin:∀(listed:Array Bool)(a:Act)(w:World),Drawn P G N h0 φ0 T0 w0 p E st listed a w->(∀i,i<p.hops.length->listed.getD i false=true)->Q .normal a w:=by
    intro listed a w hJ hall;split at hm
    ·injection hm with hm;subst hm;simp only[JV]at hw;obtain⟨s',hs,hS⟩:=hJ.inv;have hS':SInv P G N h0 φ0 T0 w0 st a w:=by
      obtain⟨hr,_,⟨h,φ,hG,hE,hI,hSl⟩,hsz,hdf⟩:=hS;refine⟨hr,hJ.once,⟨h,φ,hG,hE,hI,λt=>?_⟩,hsz,hdf⟩;have h1:=hSl t;rcases hs t with h2|⟨k,ok,h2,h3,_⟩
      ·simp only at h1;rw[h2]at h1;exact h1
      ·rw[hall k (hJ.lt k h2)]at h3;simp at h3
     apply hn _ a w hw;split
     ·exact Ep _ hS'
     ·exact hS'
    ·rename_i c cs he;have hc:c∈p.ready E:=by rw[he];simp
     simp only[Plan.ready,gR,uM,zJ,EX,JW,decide_eq_false_iff_not]at hc;exact absurd (hJ.sub c (hall c hc.1)) hc.2.1
   refine(?_:∀(fuel:Nat)(listed:Array Bool)(a:Act)(w:World),Drawn P G N h0 φ0 T0 w0 p E st listed a w->Kt listed p.hops.length<=fuel->wpAnyIn (fe ro) 0 P .any ops Q fuel listed a w) fuel listed a w hJ hf;clear hf hJ listed a w fuel;intro fuel listed a w
   induction fuel generalizing listed a w with
   | zero=>
    intro hJ hf;have hall:=IX (Tb.1 hf);refine⟨?_,fin listed a w hJ hall⟩
    cases hr:Region.ready .any ops listed with
    |nil=>rfl
    |cons i l=>
     obtain⟨hul,hlt,_,_⟩:=uG hp hJ (i:=i) (by rw[hr];simp);rw[hall i hlt]at hul;simp at hul
   |succ fuel ih=>
    intro hJ hf;exact⟨λhr=>fin listed a w hJ (Jh hp hJ.size hr),step fuel (λl a w=>ih l a w) listed a w hJ hf⟩
def WM {p:HD} {K:St->Prop} (c:IW P N H ops=some p) (A:JV P G p st K) (y:SInv P G N h0 φ0 T0 w0 st a w)
 (C:∀d z r,K d->SInv P G N h0 φ0 T0 w0 d z r->Q .normal z r):wpAnyIn (fe ro) 0 P .any ops Q ops.size (Array.replicate ops.size false) a w:=by
 unfold IW at c;split at c;simp at c;rename_i F q;simp only at c;generalize WG ops.toList []++(if(H.any λx=>x.2.2==1002)=true then [[]] else [])=pr at c;split at c;rename_i b;simp only[zJ,beq_iff_eq]at b;obtain⟨D,g,f⟩:=X9.1 q;obtain⟨u,e⟩:=Ku g;have B:=aF4 b.2 b.1;have n:∀i,(Array.replicate ops.size false).getD i false=false:=λi=>by simp[TR,Array.getElem?_replicate];split<;>rfl
 refine Es (H:=H) B (λi E v=>?_) C _ _ [] p st c A _ _ a w ⟨by simpa using b.2.symm,s_,λi h=>by rw[n]at h;simp at h,λi h=>by rw[n]at h;simp at h,s_,s_,s_,y.once,st.s,λt=>.inl rfl,y⟩ ?_;rw[<-f,gE]at v;obtain⟨j,l,k⟩:=X9.1 v;obtain⟨o,h1,h2⟩:=e i j l;exact⟨o,by simpa using h1,by rw[h2,iX,k]⟩;have:∀m,Kt (Array.replicate ops.size false) m=m:=λm=>by
  induction m with
  |zero=>rfl|succ m ih=>simp only[Kt,ih,n];simp
 rw[this];exact Nat.le_of_eq b.2;simp at c
end
def SInv.drawn{P:Program}{G:L_}{N:Nat}{h0:GH}{φ0:Nat->Value}{T0:aK}{w0:World}{st:St}{a:Act}{w:World}(j:SInv P G N h0 φ0 T0 w0 st a w):
 SInv P G N h0 φ0 T0 w0 st a {w with drawn:=w.drawn+1}:=by
 obtain⟨i,c,⟨h,g,k,b,hI,f⟩,d,e⟩:=j;exact⟨i,c,⟨h,g,k,⟨b.os,b.tape,b.output,b.size,b.frame,b.le,b.gfr,b.phi,b.org,b.len,uR b.drawn (Kl _)⟩,⟨hI.gh,hI.obj,hI.dis⟩,f⟩,d,e⟩
end Hud
