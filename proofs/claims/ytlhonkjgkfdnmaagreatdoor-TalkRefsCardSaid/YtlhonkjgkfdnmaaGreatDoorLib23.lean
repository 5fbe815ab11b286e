import Derived.Test.YtlhonkjgkfdnmaaGreatDoorLib17
import Derived.ProofKit
import Derived.Deep.Slices
set_option linter.all false
namespace Hud
open Go
structure CE where
 i:Nat
 d:Nat
 f:Nat
 xs:List Operand
structure IE where
 i:Nat
 k:Int
 s:Nat
 n:Nat
 deriving DecidableEq
def Ix{s:List (Nat×AV)}{j:Nat}(h:j∉s.map (·.1)):LE s j=s:=by
 induction s with
 |nil=>rfl|cons p s ih=>
  grind[LE]
def Cn{s:List (Nat×AV)}{j:Nat}{x:AV}(a:(s.map (·.1)).Nodup)(h:(j,x)∈s):bA s j=x:=by
 induction s with
 |nil=>simp at h|cons p s ih=>
  grind[List.nodup_cons,bA]
def UR{s:List (Nat×AV)}{j:Nat}(h:j∈s.map (·.1)):(j,bA s j)∈s:=by
 induction s with
 |nil=>simp at h|cons p s ih=>
  grind[bA]
def aAv{s t:List (Nat×AV)}(a:(t.map (·.1)).Nodup)(h:s.Perm t){j:Nat}(b:j∈t.map (·.1)):bA s j=bA t j :=
 Cn ((h.map _).nodup_iff.2 a) (h.mem_iff.2 (UR b))
def Wj{s t:List (Nat×AV)}(a:(s.map (·.1)).Nodup)(h:s.Perm t):sA s=sA t:=by
 induction h with
 |nil=>rfl|cons p h ih=>simp only[fG,BU]at a;simp only[sA];rw[ih a.2]| swap p q l=>
  simp only[fG,BU,cS,not_or]at a;simp only[sA];generalize sA l=d;have e:q.1≠p.1:=a.1.1
  induction d with
  |nil=>
   grind[LG]
  |cons x d ih=>
   grind[LG]
 |trans h1 h2 c b=>rw[c a,b ((h1.map _).nodup_iff.1 a)]
def Qo:∀s:List (Nat×AV),mV [] s=s|[]=>rfl|p::s=>by simp[mV,Qo s]
def US{r:Nat}{s t:List (Nat×AV)}{T:aK}(a:(s.map (·.1)).Nodup)(h:s.Perm t):DB [] ⟨r,s,T⟩=DB [] ⟨r,t,T⟩:=by simp only[DB,Qo,Wj a h]
def SX{G:L_}{st:St}:∀{l:List HOper},(∀o∈l,qL G st [o])->qL G st l|[],_=>trivial|o::l,h=>⟨(h o EV).1,SX λx a=>h x (GU _ a)⟩
def nW{p:Plan}{E:V_}{k:Nat}:k∈p.ready E↔k<p.hops.length/\k∉E/\∀q∈p.p k,q∈E:=by simp_all[Plan.ready,gR,uM,zJ,EX,oD,JW]
def UT{p:Plan}{E:V_}{o:HOper}(h:o∈p.pend E):∃q,q∈E/\p.quiet q=true/\(∀k∈E,p.quiet k=false->q∉p.p k)/\p.hops[q]?=some o:=by grind[Plan.pend]
structure PlOk(p:Plan)(Q:List Nat)(z y:Nat)(ci:List Nat)(es:List IE):Prop where
 all:∀k,k<p.hops.length->k∈Q\/k=0\/k∈ci\/k∈es.map (·.i)\/k=z\/k=y
 lt:∀k∈0::z::y::(ci++es.map (·.i)),k<p.hops.length
 cp:∀j,j<ci.length->(j=0\/ci.getD (j-1) 0∈p.p (ci.getD j 0))/\∀q∈p.p (ci.getD j 0),q∈Q++ci.take j
 ep:∀e∈es,e.n<=ci.length/\0∈p.p e.i/\(e.n=0\/ci.getD (e.n-1) 0∈p.p e.i)/\∀q∈p.p e.i,q∈0::(Q++ci.take e.n)
 mp:∀q∈p.p 0,q∈Q
 zp:(∀q∈0::(ci++es.map (·.i)),q∈p.p z)/\∀q∈p.p z,q∈0::(Q++(ci++es.map (·.i)))
 yp:z∈p.p y/\∀q∈p.p y,q∈z::0::(Q++(ci++es.map (·.i)))
 nd:(Q++0::z::y::(ci++es.map (·.i))).Nodup
 qn:∀k∈0::y::(ci++es.map (·.i)),p.quiet k=false
 qz:p.quiet z=true
def aFo{T:aK}{ev:Operand->AV}:cE T ev (.mkm false)=some (.mp T.length,T++[some (MP [])]):=fI rfl rfl
def UU{T0:aK}{a b:Option AObj}:(T0++[a]).set T0.length b=T0++[b]:=s_
section
variable{P:Program}{G:L_}{p:Plan}{Q:V_}{m z y dz dy r0:Nat}{cs:List CE}{es:List IE}{s0:List (Nat×AV)}{T0:aK}{vs:Nat->Bool}{K:St->Prop}
abbrev Qp(m:Nat)(cs:List CE)(s0:List (Nat×AV))(a:Nat)(vs:Nat->Bool)(mm:Bool)(i:Nat):List (Nat×AV):=
 s0++((cs.take i).map (λc=>(c.d,.v (.bool (vs c.d))))++if mm then [(m,.mp a)] else [])
abbrev plT(T0:aK)(vs:Nat->Bool)(mm:Bool)(D:List IE):aK:=T0++if mm then [some (MP (D.map λe=>(e.k,vs e.s)))] else []
def Wk{l:List CE}{j:Nat}(a:j<l.length):(l.map (·.i)).getD j 0=l[j].i:=by simp[a]
def aHV (hok:PlOk p Q z y (cs.map (·.i)) es) (h0:p.hops[0]?=some ⟨some m,.mkm false,none⟩)
  (hc:∀c∈cs,p.hops[c.i]?=some ⟨some c.d,.call (.func c.f) c.xs,none⟩)
  (he:∀e∈es,p.hops[e.i]?=some ⟨none,.mup false [.int .i64] (.tmp m) (.const (.int .i64 e.k)) (.tmp e.s),none⟩)
  (hz:p.hops[z]?=some ⟨some dz,.mov (.tmp m),none⟩) (hy:p.hops[y]?=some ⟨some dy,.rgm (.tmp dz),none⟩)
  (hkeys:(s0.map (·.1)++(cs.map (·.d)++[m,dz,dy])).Nodup) (hek:(es.map (·.k)).Nodup)
  (hcall:∀c∈cs,∀(s:List (Nat×AV))(T:aK)(K':AV->aK->Prop),(∀x∈s0.map (·.1),bA s x=bA s0 x)->K' (.v (.bool (vs c.d))) T->IG P G c.f (c.xs.map (dW G s)) T K')
  (hval:∀e∈es,(e.s∈s0.map (·.1)/\bA s0 e.s=.v (.bool (vs e.s)))\/(∃c,cs[e.n-1]?=some c/\0<e.n/\c.d=e.s))
  (hq:∀(s:List (Nat×AV))(T:aK),(∀x∈s0.map (·.1),bA s x=bA s0 x)->(∀j,j<T0.length->cR T j=cR T0 j)->∀q∈Q,∀o,p.hops[q]?=some o->qL G ⟨r0,s,T⟩ [o])
  (hcs:0<cs.length)
  (hK:∀X,X.Perm (es.map λe=>(e.k,vs e.s))->K (DB [] ⟨r0,(dy,.ptr (T0.length+1) 0)::(dz,.mp T0.length)::Qp m cs s0 T0.length vs true cs.length,T0++[some (MP X),some (.mit (some T0.length) X.length [] X.length)]⟩)):
  ∀(n:Nat)(gc mm:Bool)(i:Nat)(D:List IE)(E:V_)(s:List (Nat×AV)),i<=cs.length->D.Nodup->(∀e∈D,e∈es/\e.n<=i/\mm=true)->s.Perm (Qp m cs s0 T0.length vs mm i) ->
   (∀k,k∈E↔k∈Q\/(mm=true/\k=0)\/k∈(cs.map (·.i)).take i\/k∈D.map (·.i))->(gc=true\/(mm=false/\i=0))->cs.length+es.length+4<=n+i+D.length+mm.toNat ->
   vU P G p n gc E ⟨r0,s,plT T0 vs mm D⟩ K:=by
 have hnd:=vQ.1 hok.nd;have hQ:=λk(hk:k∈Q) k2(hk2:k2∈0::z::y::(cs.map (·.i)++es.map (·.i)))=>hnd.2.2 k hk k2 hk2;have hN:=hnd.2.1;simp only[BU,cS,not_or]at hN;obtain⟨⟨h0z,h0y,h0m⟩,⟨hzy,hzm⟩,hym,hN⟩:=hN;have hcN:=(vQ.1 hN).1;have heN:=(vQ.1 hN).2.1;have hce:=(vQ.1 hN).2.2;have hkn:=vQ.1 hkeys;have keysOf:∀(mm:Bool)(i:Nat),((Qp m cs s0 T0.length vs mm i).map (·.1)).Nodup:=λmm i=>by
  have hsub:((Qp m cs s0 T0.length vs mm i).map (·.1)).Sublist (s0.map (·.1)++(cs.map (·.d)++[m,dz,dy])):=by
   simp only[bZ,rI];refine List.Sublist.append (List.Sublist.refl _) (List.Sublist.append ?_ ?_)
   ·show((cs.take i).map _).Sublist _;exact(List.take_sublist i cs).map _
   ·cases mm
    ·exact List.nil_sublist _
    ·exact List.Sublist.cons_cons _ (List.nil_sublist _)
  exact hsub.nodup hkeys
 intro n
 induction n with
 | zero=>
  intro gc mm i D E s hi hD hDe _ _ _ hn;exfalso;have h1:D.length<=es.length:=by
   have:(D.map (·.i)).length<=(es.map (·.i)).length:=xY (by
    refine(Rh.2 ?_);rw[Mh];refine TU (λ{a b} ha hb hab e=>hab ?_) (Rh.1 hD);have:=hDe a ha;have hb2:=hDe b hb;obtain⟨ia,hia,rfl⟩:=CU this.1;obtain⟨ib,hib,rfl⟩:=CU hb2.1;have:=(C9 (h₀:=by simpa using hia) (h₁:=by simpa using hib) heN).1 X_
    subst this;rfl) (λx hx=>by obtain⟨e,he1,rfl⟩:=dF.1 hx;exact dF.2 ⟨e,(hDe e he1).1,rfl⟩)
   simpa using this
  have h2:mm.toNat<=1:=by cases mm<;>decide
  omega
 | succ n ih=>
  intro gc mm i D E s hi hD hDe hs hE hgc hn;have hgetI:∀j(hj:j<cs.length),(cs.map (·.i)).getD j 0=cs[j].i:=λj hj=>Wk hj;have hcmem:∀j(hj:j<cs.length),cs[j].i∈cs.map (·.i):=λj hj=>dF.2 ⟨_,eQ hj,rfl⟩;have hctake:∀j(hj:j<cs.length),cs[j].i∈(cs.map (·.i)).take i↔j<i:=λj hj=>by
   rw[TT];constructor
   ·rintro⟨k,hk,e⟩;simp only[aP]at hk;have:=(C9 (h₀:=c_) (h₁:=kh) hcN).1 (show(cs.map (·.i))[k]'c_=(cs.map (·.i))[j]'kh by rw[e];simp);omega
   ·intro h;exact⟨j,c_,s_⟩
  have einj:∀a∈es,∀b∈es,a.i=b.i->a=b:=λa ha b hb e=>by obtain⟨ia,hia,rfl⟩:=CU ha;obtain⟨ib,hib,rfl⟩:=CU hb;have:=(C9 (h₀:=by simpa using hia) (h₁:=by simpa using hib) heN).1 X_;subst this;rfl
  have hzE:z∉E:=λh=>by
   rcases(hE z).1 h with h|⟨_,h⟩|h|h
   ·exact hQ z h z s_ rfl
   ·exact h0z h.symm
   ·exact hzm (cG.2 (.inl (C8 h)))
   ·obtain⟨e,h1,h2⟩:=dF.1 h;exact hzm (cG.2 (.inr (dF.2 ⟨e,(hDe e h1).1,h2⟩)))
  have hyR:y∉p.ready E:=λh=>hzE ((nW.1 h).2.2 z hok.yp.1);have h0E:0∈E↔mm=true:=by
   rw[hE];constructor
   ·rintro(h|⟨h,_⟩|h|h)
    ·exact(hQ 0 h 0 s_ rfl).elim
    ·exact h
    ·exact(h0m (cG.2 (.inl (C8 h)))).elim
    ·obtain⟨e,h1,h2⟩:=dF.1 h;exact(h0m (cG.2 (.inr (dF.2 ⟨e,(hDe e h1).1,h2⟩)))).elim
   ·intro h;exact .inr (.inl ⟨h,rfl⟩)
  have hcE:∀j(hj:j<cs.length),cs[j].i∈E↔j<i:=λj hj=>by
   rw[hE,hctake j hj];constructor
   ·rintro(h|⟨_,h⟩|h|h)
    ·exact(hQ _ h cs[j].i (by simp[hcmem j hj]) rfl).elim
    ·exact(h0m (cG.2 (.inl (h ▸ hcmem j hj)))).elim
    ·exact h
    ·obtain⟨e,h1,h2⟩:=dF.1 h;exact(hce _ (hcmem j hj) _ (dF.2 ⟨e,(hDe e h1).1,rfl⟩) h2.symm).elim
   ·intro h;exact .inr (.inr (.inl h))
  have heE:∀e∈es,e.i∈E↔e∈D:=λe he1=>by
   have hm:e.i∈es.map (·.i):=dF.2 ⟨e,he1,rfl⟩;rw[hE];constructor
   ·rintro(h|⟨_,h⟩|h|h)
    ·exact(hQ _ h e.i (by simp only[cS,cG];exact .inr (.inr (.inr (.inr hm)))) rfl).elim
    ·exact(h0m (cG.2 (.inr (h ▸ hm)))).elim
    ·exact(hce _ (C8 h) _ hm rfl).elim
    ·obtain⟨e',h1,h2⟩:=dF.1 h;rw[<-einj e' (hDe e' h1).1 e he1 h2];exact h1
   ·intro h;exact .inr (.inr (.inr (dF.2 ⟨e,h,rfl⟩)))
  have hgS:∀(s':List (Nat×AV))(mm':Bool)(i':Nat),s'.Perm (Qp m cs s0 T0.length vs mm' i')->∀x∈s0.map (·.1),bA s' x=bA s0 x:=λs' mm' i' hp x hx=>by have hk:=keysOf mm' i';rw[aAv hk hp (by simp only[bZ,cG];exact .inl hx)];apply Cn hk;exact cG.2 (.inl (UR hx))
  have hqn:∀q,p.quiet q=true->q∈E->q∈Q:=λq h1 h2=>by
   rcases(hE q).1 h2 with h|⟨_,h⟩|h|h
   ·exact h
   ·rw[h,hok.qn 0 s_]at h1;simp at h1
   ·rw[hok.qn q (by simp only[cS,cG];exact .inr (.inr (.inl (C8 h))))]at h1;simp at h1
   ·obtain⟨e,h3,h4⟩:=dF.1 h;rw[hok.qn q (by simp only[cS,cG];exact .inr (.inr (.inr (dF.2 ⟨e,(hDe e h3).1,h4⟩))))]at h1;simp at h1
  have chk:∀(k:Nat)(s':List (Nat×AV))(T':aK),p.quiet k=false->(∀x∈s0.map (·.1),bA s' x=bA s0 x)->(∀j,j<T0.length->cR T' j=cR T0 j)->qL G ⟨r0,s',T'⟩ (p.pend (k::E)):=λk s' T' hk h1 h2=>SX λo ho=>by
   obtain⟨q,hq1,hq2,_,hq4⟩:=UT ho;refine hq s' T' h1 h2 q ?_ o hq4;rcases cS.1 hq1 with e|h
   ·rw[e,hk]at hq2;simp at hq2
   ·exact hqn q hq2 h
  have getT_app:∀(T0 R:aK) j,j<T0.length->cR (T0++R) j=cR T0 j:=λT0 R j hj=>by unfold cR;rw[mY hj]
  have hDl:D.length<=es.length:=by
   have:(D.map (·.i)).length<=(es.map (·.i)).length:=xY (by
    refine(Rh.2 ?_);rw[Mh]
    exact TU (λ{a b} ha hb hab e=>hab (einj a (hDe a ha).1 b (hDe b hb).1 e)) (Rh.1 hD)) (λx hx=>by obtain⟨e,he1,rfl⟩:=dF.1 hx;exact dF.2 ⟨e,(hDe e he1).1,rfl⟩)
   simpa using this
  have hmN:mm.toNat<=1:=by cases mm<;>decide
  have hks:=keysOf mm i;have hsn:(s.map (·.1)).Nodup:=(hs.map _).nodup_iff.2 hks;have hnew:∀x∈cs.map (·.d)++[m,dz,dy],x∉s0.map (·.1):=λx hx h=>hkn.2.2 x h x hx rfl;have hdN:=vQ.1 hkn.2.1;by_cases hdone:mm=true/\i=cs.length/\∀e∈es,e∈D
  ·obtain⟨rfl,rfl,hall⟩:=hdone;have hgt:gc=true:=by
    rcases hgc with h|⟨h,_⟩
    ·exact h
    ·simp at h
   subst hgt
   have hzR:z∈p.ready E:=nW.2 ⟨hok.lt z s_,hzE,λq hq1=>by
    have:=hok.zp.2 q hq1;simp only[cS,cG]at this;rcases this with rfl|h|h|h
    ·exact h0E.2 rfl
    ·exact(hE q).2 (.inl h)
    ·obtain⟨j,hj,rfl⟩:=CU h;simp only[aP]at hj;simp only[zL];exact(hcE j hj).2 hj
    ·obtain⟨e,h1,rfl⟩:=dF.1 h
     exact(heE e h1).2 (hall e h1)⟩
   have hRz:∀k∈p.ready E,k=z:=λk hk=>by
    have h1:=nW.1 hk;rcases hok.all k h1.1 with h|h|h|h|h|h
    ·exact(h1.2.1 ((hE k).2 (.inl h))).elim
    ·exact(h1.2.1 (h ▸ h0E.2 rfl)).elim
    ·obtain⟨j,hj,rfl⟩:=CU h;simp only[aP]at hj;simp only[zL]at h1;exact(h1.2.1 ((hcE j hj).2 hj)).elim
    ·obtain⟨e,h3,rfl⟩:=dF.1 h;exact(h1.2.1 ((heE e h3).2 (hall e h3))).elim
    ·exact h
    ·exact(hyR (h ▸ hk)).elim
   have hfz:(p.ready E).find? p.quiet=some z:=by
    cases h:(p.ready E).find? p.quiet with
    |none=>have:=Eb.1 h z hzR;rw[hok.qz]at this;simp at this
    |some k=>rw[hRz k (Mg h)]
   have hDlen:D.length=es.length:=Nat.le_antisymm hDl (by
    have:(es.map (·.i)).length<=(D.map (·.i)).length:=xY heN (λx hx=>by obtain⟨e,he1,rfl⟩:=dF.1 hx;exact dF.2 ⟨e,hall e he1,rfl⟩)
    simpa using this)
   obtain⟨n,rfl⟩:∃n',n=n'+2:=⟨n-2,by simp only[Bool.toNat_true]at hn;omega⟩
   have hgm:bA s m=.mp T0.length:=Cn hsn (hs.mem_iff.2 s_);rw[vU,hfz];have hopz:cE (plT T0 vs true D) (dW G s) (.mov (.tmp m))=some (.mp T0.length,plT T0 vs true D):=by simp only[cE,dW,hgm]
   simp only[hz,fY,hopz,fV];have hEz:∀k∈p.ready (z::E),k=y:=λk hk=>by
    have h1:=nW.1 hk;simp only[cS,not_or]at h1;rcases hok.all k h1.1 with h|h|h|h|h|h
    ·exact(h1.2.1.2 ((hE k).2 (.inl h))).elim
    ·exact(h1.2.1.2 (h ▸ h0E.2 rfl)).elim
    ·obtain⟨j,hj,rfl⟩:=CU h;simp only[aP]at hj;simp only[zL]at h1;exact(h1.2.1.2 ((hcE j hj).2 hj)).elim
    ·obtain⟨e,h3,rfl⟩:=dF.1 h;exact(h1.2.1.2 ((heE e h3).2 (hall e h3))).elim
    ·exact(h1.2.1.1 h).elim
    ·exact h
   have hyE:y∉E:=λh=>by
    rcases(hE y).1 h with h|⟨_,h⟩|h|h
    ·exact hQ y h y s_ rfl
    ·exact h0y h.symm
    ·exact hym (cG.2 (.inl (C8 h)))
    ·obtain⟨e,h1,h2⟩:=dF.1 h;exact hym (cG.2 (.inr (dF.2 ⟨e,(hDe e h1).1,h2⟩)))
   have hyz:y∈p.ready (z::E):=nW.2 ⟨hok.lt y s_,by simp only[cS,not_or];exact⟨λh=>hzy h.symm,hyE⟩,λq hq1=>by
    have:=hok.yp.2 q hq1;simp only[cS,cG]at this⊢;rcases this with rfl|rfl|h|h|h
    ·exact .inl rfl
    ·exact .inr (h0E.2 rfl)
    ·exact .inr ((hE q).2 (.inl h))
    ·obtain⟨j,hj,rfl⟩:=CU h;simp only[aP]at hj;simp only[zL];exact .inr ((hcE j hj).2 hj)
    ·obtain⟨e,h1,rfl⟩:=dF.1 h
     exact .inr ((heE e h1).2 (hall e h1))⟩
   have hfy:(p.ready (z::E)).find? p.quiet=none:=Eb.2 λk hk=>by rw[hEz k hk,hok.qn y s_];simp
   have hdzs:dz∉s.map (·.1):=λh=>by
    have:=(hs.map (·.1)).mem_iff.1 h;simp only[Qp,bZ,cG,rI]at this;rcases this with h|h|h
    ·exact hnew dz s_ h
    ·obtain⟨c,h1,h2⟩:=dF.1 h;exact hdN.2.2 c.d (dF.2 ⟨c,C8 h1,rfl⟩) dz s_ h2
    ·simp at h;have:=hdN.2.1;simp[h]at this
   have hdys:dy∉s.map (·.1):=λh=>by
    have:=(hs.map (·.1)).mem_iff.1 h;simp only[Qp,bZ,cG,rI]at this;rcases this with h|h|h
    ·exact hnew dy s_ h
    ·obtain⟨c,h1,h2⟩:=dF.1 h;exact hdN.2.2 c.d (dF.2 ⟨c,C8 h1,rfl⟩) dy s_ h2
    ·simp at h;have:=hdN.2.1;simp[h]at this
   have hzyd:dz≠dy:=by have:=hdN.2.1;simp at this;exact this.2
   have hs1:GW s dz (.mp T0.length)=(dz,.mp T0.length)::s:=by simp only[GW,Ix hdzs]
   rw[hs1,vU,hfy];have hXl:(D.map λe=>(e.k,vs e.s)).Perm (es.map λe=>(e.k,vs e.s)):=by
    apply List.Perm.map _
    exact(aBH hD (by
     refine Rh.2 (TU (λ{a b} ha hb hab e=>hab (congrArg IE.i e)) (Mh.1 (Rh.1 heN)))
     )).2 λe=>⟨λh=>(hDe e h).1,hall e⟩
   generalize hX:(D.map λe=>(e.k,vs e.s))=X at *
   have hTX:plT T0 vs true D=T0++[some (MP X)]:=by simp only[plT,hX,if_true]
   rw[hTX];have hgX:cR (T0++[some (MP X)]) T0.length=some (MP X):=by simp[cR]
   have hopy:cE (T0++[some (MP X)]) (dW G ((dz,.mp T0.length)::s)) (.rgm (.tmp dz))=some (.ptr (T0.length+1) 0,T0++[some (MP X),some (.mit (some T0.length) X.length [] X.length)]):=by
    have h1:dW G ((dz,.mp T0.length)::s) (.tmp dz)=.mp T0.length:=by simp only[dW,bA,if_true]
    simp only[cE,h1,hgX];simp only[MP,dZ,sE,gQ,eB,jC,dM,pQ]
   have last:∀gc',vU P G p (n+1) (true||gc') (y::z::E) ⟨r0,(dy,.ptr (T0.length+1) 0)::(dz,.mp T0.length)::s,T0++[some (MP X),some (.mit (some T0.length) X.length [] X.length)]⟩ K:=λgc'=>by
    have hr0:p.ready (y::z::E)=[]:=by
     refine TS.2 λk hk=>?_;have h1:=nW.1 hk;simp only[cS,not_or]at h1;rcases hok.all k h1.1 with h|h|h|h|h|h
     ·exact(h1.2.1.2.2 ((hE k).2 (.inl h))).elim
     ·exact(h1.2.1.2.2 (h ▸ h0E.2 rfl)).elim
     ·obtain⟨j,hj,rfl⟩:=CU h;simp only[aP]at hj;simp only[zL]at h1;exact(h1.2.1.2.2 ((hcE j hj).2 hj)).elim
     ·obtain⟨e,h3,rfl⟩:=dF.1 h;exact(h1.2.1.2.2 ((heE e h3).2 (hall e h3))).elim
     ·exact(h1.2.1.2.1 h).elim
     ·exact(h1.2.1.1 h).elim
    rw[vU,hr0];simp only[List.find?_nil,EI,if_true];have hpm:=((hs.cons (dz,AV.mp T0.length)).cons (dy,AV.ptr (T0.length+1) 0))
    have hn2:(((dy,AV.ptr (T0.length+1) 0)::(dz,AV.mp T0.length)::s).map (·.1)).Nodup:=by simp only[fG,BU,cS,not_or];exact⟨⟨λh=>hzyd h.symm,hdys⟩,hdzs,hsn⟩
    rw[US hn2 hpm];exact hK X hXl
   cases hR:p.ready (z::E) with
   |nil=>rw[hR]at hyz;simp at hyz
   | cons c cs'=>
    simp only;intro k hk;have hky:=hEz k (by rw[hR];exact hk);subst hky;refine⟨_,hy,?_⟩;simp only[fY,yF,hopy,fV,iE,jJ,if_false];have hs2:GW ((dz,AV.mp T0.length)::s) dy (.ptr (T0.length+1) 0)=(dy,.ptr (T0.length+1) 0)::(dz,.mp T0.length)::s:=by simp only[GW];rw[Ix];simp only[fG,cS,not_or];exact⟨λh=>hzyd h.symm,hdys⟩
    rw[hs2];refine⟨SX λo ho=>?_,last _⟩;obtain⟨q,hq1,hq2,hq3,hq4⟩:=UT ho;refine hq _ _ (λx hx=>?_) (λj hj=>getT_app _ _ j hj) q ?_ o hq4
    ·have e1:dy≠x:=λe=>hnew dy s_ (e ▸ hx);have e2:dz≠x:=λe=>hnew dz s_ (e ▸ hx);simp only[bA,e1,e2,if_false];exact hgS s true cs.length hs x hx
    ·rcases cS.1 hq1 with e|h
     ·rw[e,hok.qn k s_]at hq2;simp at hq2
     ·rcases cS.1 h with e|h
      ·exact(hq3 k s_ (hok.qn k s_) (e ▸ hok.yp.1)).elim
      ·exact hqn q hq2 h
  ·have hfn:(p.ready E).find? p.quiet=none:=Eb.2 λk hk=>by
    have h1:=nW.1 hk;rcases hok.all k h1.1 with h|h|h|h|h|h
    ·exact(h1.2.1 ((hE k).2 (.inl h))).elim
    ·rw[h,hok.qn 0 s_];simp
    ·rw[hok.qn k (by simp only[cS,cG];exact .inr (.inr (.inl h)))];simp
    ·rw[hok.qn k (by simp only[cS,cG];exact .inr (.inr (.inr h)))];simp
    ·exfalso;subst h;have h2:=λq hq1=>h1.2.2 q (hok.zp.1 q hq1);refine hdone ⟨h0E.1 (h2 0 s_),?_,λe he1=>(heE e he1).1 (h2 e.i (by simp only[cS,cG];exact .inr (.inr (dF.2 ⟨e,he1,rfl⟩))))⟩;have h3:cs.length-1<i:=(hcE (cs.length-1) o_).1 (h2 _ (by simp only[cS,cG];exact .inr (.inl (hcmem _ _))));omega
    ·exact(hyR (h ▸ hk)).elim
   have hr0:mm=false->0∈p.ready E:=λh=>nW.2 ⟨hok.lt 0 s_,λh2=>by rw[h0E,h]at h2;simp at h2,λq hq1=>(hE q).2 (.inl (hok.mp q hq1))⟩
   have hrc:∀hi2:i<cs.length,cs[i].i∈p.ready E:=λhi2=>nW.2 ⟨hok.lt _ (by simp only[cS,cG];exact .inr (.inr (.inr (.inl (hcmem i hi2))))),λh2=>by have:=(hcE i hi2).1 h2;omega,λq hq1=>by
    have:=(hok.cp i (by simpa using hi2)).2 q (by rw[hgetI i hi2];exact hq1);rcases cG.1 this with h|h
    ·exact(hE q).2 (.inl h)
    ·exact(hE q).2 (.inr (.inr (.inl h)))⟩
   rw[vU,hfn]
   cases hR:p.ready E with
   | nil=>
    exfalso;rw[hR]at hr0 hrc
    cases mm with
    |false=>exact absurd (hr0 rfl) s_
    | true=>
     by_cases hi2:i<cs.length
     ·exact absurd (hrc hi2) s_
     ·have hie:i=cs.length:=o_;refine hdone ⟨rfl,hie,λe he1=>?_⟩;refine QB λhne=>?_;have h1:=hok.ep e he1
      have:e.i∈p.ready E:=nW.2 ⟨hok.lt _ (by simp only[cS,cG];exact .inr (.inr (.inr (.inr (dF.2 ⟨e,he1,rfl⟩))))),λh2=>hne ((heE e he1).1 h2),λq hq1=>by
       have:=h1.2.2.2 q hq1;simp only[cS,cG]at this;rcases this with rfl|h|h
       ·exact h0E.2 rfl
       ·exact(hE q).2 (.inl h)
       ·refine(hE q).2 (.inr (.inr (.inl ?_)));rw[hie,sG s_]
        exact C8 h⟩
      rw[hR]at this;simp at this
   | cons c cs'=>
    simp only;have hgc':(gc||!cs'.isEmpty)=true:=by
     rcases hgc with h|⟨h1,h2⟩
     ·rw[h];rfl
     ·have ha:=hr0 h1;have hb:=hrc o_;rw[hR]at ha hb
      cases cs' with
      |cons _ _=>simp
      |nil=>
       exfalso;simp only[cA]at ha hb;exact h0m (cG.2 (.inl (by rw[ha,<-hb];exact hcmem _ _)))
    intro k hk;have h1:=nW.1 (show k∈p.ready E by rw[hR];exact hk);have hTg:∀(R:aK) j,j<T0.length->cR (T0++R) j=cR T0 j:=λR j hj=>getT_app T0 R j hj;rcases hok.all k h1.1 with h|h|h|h|h|h
    ·exact(h1.2.1 ((hE k).2 (.inl h))).elim
    ·
     subst h;have hmf:mm=false:=by
      cases mm with
      |false=>rfl
      |true=>exact(h1.2.1 (h0E.2 rfl)).elim
     subst hmf;have hD0:D=[]:=TS.2 λe h=>by have:=(hDe e h).2.2;simp at this
     subst hD0;refine⟨_,h0,?_⟩;have hms:m∉s.map (·.1):=λh=>by
      have:=(hs.map (·.1)).mem_iff.1 h;simp only[Qp,bZ,cG,rI]at this;rcases this with h|h|h
      ·exact hnew m s_ h
      ·obtain⟨c,h1,h2⟩:=dF.1 h;exact hdN.2.2 c.d (dF.2 ⟨c,C8 h1,rfl⟩) m s_ h2
      ·simp at h
     simp only[fY,yF,aFo,fV,iE,jJ,if_false];have hT:(plT T0 vs false [])=T0:=by simp[plT]
     have hs1:GW s m (.mp T0.length)=(m,.mp T0.length)::s:=by simp only[GW,Ix hms]
     rw[hT,hs1];have hp2:((m,AV.mp T0.length)::s).Perm (Qp m cs s0 T0.length vs true i):=by refine(hs.cons _).trans ?_;simp only[Qp,jJ,if_false,jO,if_true,<-eB];exact(List.perm_append_singleton _ _).symm
     refine⟨chk 0 _ _ (hok.qn 0 s_) (hgS _ true i hp2) (hTg _),?_⟩;have:=ih (gc||!cs'.isEmpty) true i [] (0::E) _ hi Mm (λe h=>by simp at h) hp2 (λq=>?_) (.inl hgc') ?_
     ·simpa[plT]using this
     ·rw[cS,hE];simp only[jJ,false_and,false_or,true_and];constructor
      ·rintro(h|h|h)
       ·exact .inr (.inl h)
       ·exact .inl h
       ·exact .inr (.inr h)
      ·rintro(h|h|h)
       ·exact .inr (.inl h)
       ·exact .inl h
       ·exact .inr (.inr h)
     ·simp only[Bool.toNat_true,Bool.toNat_false]at hn⊢;omega
    ·
     obtain⟨j,hj,rfl⟩:=CU h;simp only[aP]at hj;simp only[zL]at h1 hk⊢;have hji:j=i:=by
      have h2:=hok.cp j kh;have h3:¬j<i:=λh=>h1.2.1 ((hcE j hj).2 h);rcases h2.1 with h4|h4
      ·omega
      ·have h5:=h1.2.2 _ (by rw[hgetI j hj]at h4;exact h4);rw[hgetI (j-1) o_]at h5;have:=(hcE (j-1) o_).1 h5;omega
     subst hji;refine⟨_,hc cs[j] (eQ hj),?_⟩;simp only[fY,yF,dW,fnA,jO];apply hcall cs[j] (eQ hj) s _ _ (hgS s mm j hs);have hcs1:cs[j].d∉s.map (·.1):=λh=>by
      have:=(hs.map (·.1)).mem_iff.1 h;simp only[Qp,bZ,cG,rI]at this;have hdn:(cs.map (·.d)).Nodup:=hdN.1;rcases this with h|h|h
      ·exact hnew _ (cG.2 (.inl (dF.2 ⟨_,eQ hj,rfl⟩))) h
      ·obtain⟨c,h3,h4⟩:=dF.1 h;obtain⟨k,hk2,rfl⟩:=TT.1 h3;have:=(C9 (h₀:=c_) (h₁:=kh) hdn).1 (show(cs.map (·.d))[k]'c_=(cs.map (·.d))[j]'kh by simpa using h4);omega
      ·cases mm with
       |false=>simp at h
       |true=>
        simp at h;exact hdN.2.2 cs[j].d (dF.2 ⟨_,eQ hj,rfl⟩) m s_ h
     have hp2:((cs[j].d,AV.v (.bool (vs cs[j].d)))::s).Perm (Qp m cs s0 T0.length vs mm (j+1)):=by refine(hs.cons _).trans ?_;simp only[Qp];rw[lB hj,bZ,fG,uP,eB];refine(YJ (l₁:=s0)).symm.trans (YB _ ?_);exact(YJ (a:=(cs[j].d,AV.v (.bool (vs cs[j].d)))) (l₁:=(cs.take j).map λc=>(c.d,AV.v (.bool (vs c.d))))).symm
     have hs1:fV s (some cs[j].d) (.v (.bool (vs cs[j].d)))=(cs[j].d,.v (.bool (vs cs[j].d)))::s:=by simp only[fV,GW,Ix hcs1]
     rw[hs1];simp only[iE,jJ,if_false];have hqk:=hok.qn cs[j].i (by simp only[cS,cG];exact .inr (.inr (.inl (hcmem j hj))));refine⟨chk _ _ _ hqk (hgS _ mm (j+1) hp2) (hTg _),?_⟩;refine ih (gc||!cs'.isEmpty) mm (j+1) D (cs[j].i::E) _ hj hD (λe h=>by have:=hDe e h;exact⟨this.1,o_,this.2.2⟩) hp2 (λq=>?_) (.inl hgc') o_;rw[cS,hE,lB kh];simp only[cG,cA,zL];constructor
     ·rintro(h|h|h|h|h)
      ·exact .inr (.inr (.inl (.inr h)))
      ·exact .inl h
      ·exact .inr (.inl h)
      ·exact .inr (.inr (.inl (.inl h)))
      ·exact .inr (.inr (.inr h))
     ·rintro(h|h|(h|h)|h)
      ·exact .inr (.inl h)
      ·exact .inr (.inr (.inl h))
      ·exact .inr (.inr (.inr (.inl h)))
      ·exact .inl h
      ·exact .inr (.inr (.inr (.inr h)))
    ·
     obtain⟨e,he1,rfl⟩:=dF.1 h;have h2:=hok.ep e he1;have hmt:mm=true:=h0E.1 (h1.2.2 0 h2.2.1);subst hmt;have hni:e.n<=i:=by
      rcases h2.2.2.1 with h3|h3
      ·omega
      ·rcases JX e.n with h5|h5
       ·omega
       have h4:=h1.2.2 _ h3;have hlt:e.n-1<cs.length:=by have:=h2.1;simp at this;omega
       rw[hgetI _ hlt]at h4;have:=(hcE _ hlt).1 h4;omega
     have hnD:e∉D:=λh=>h1.2.1 ((heE e he1).2 h);refine⟨_,he e he1,?_⟩;have hgm:bA s m=.mp T0.length:=Cn hsn (hs.mem_iff.2 s_);have hgv:bA s e.s=.v (.bool (vs e.s)):=by
      rcases hval e he1 with⟨h3,h4⟩|⟨c,h3,h4,h5⟩
      ·rw[hgS s true i hs e.s h3,h4]
      ·refine Cn hsn (hs.mem_iff.2 ?_);obtain⟨hlt,rfl⟩:=sV.1 h3;simp only[Qp,cG,dF];exact .inr (.inl ⟨cs[e.n-1],TT.2 ⟨e.n-1,o_,rfl⟩,by rw[h5]⟩)
     have hkn:e.k∉(D.map λe=>(e.k,vs e.s)).map (·.1):=λh=>by
      simp only[rI,dF,Function.comp]at h;obtain⟨e',h3,h4⟩:=h;apply hnD;have h6:e'=e:=by obtain⟨ia,hia,rfl⟩:=CU (hDe e' h3).1;obtain⟨ib,hib,rfl⟩:=CU he1;have:=(C9 (h₀:=by simpa using hia) (h₁:=by simpa using hib) hek).1 (by simpa using h4);subst this;rfl
      rw[<-h6];exact h3
     have hT0:T0++[some (MP (D.map λe:IE=>(e.k,vs e.s)))]=(T0++[none]).set T0.length (some (MP (D.map λe:IE=>(e.k,vs e.s)))):=by rw[UU]
     have hstep:=Yp (T:=T0++[none]) (i:=T0.length) s_ (ev:=dW G s) (m:=m) (D:=D.map λe:IE=>(e.k,vs e.s)) (e:=(e.k,e.s,vs e.s)) (by simp only[dW,hgm]) rfl (by simp only[dW,hgv]) hkn;have hpT:plT T0 vs true D=(T0++[none]).set T0.length (some (MP (D.map λe:IE=>(e.k,vs e.s)))):=by simp only[plT,if_true,hT0]
     rw[hpT];simp only[fY,yF,hstep,fV,iE,jJ,if_false];rw[UU];have hqk:=hok.qn e.i (by simp only[cS,cG];exact .inr (.inr (.inr (dF.2 ⟨e,he1,rfl⟩))));refine⟨chk _ _ _ hqk (hgS _ true i hs) (hTg _),?_⟩
     have:=ih (gc||!cs'.isEmpty) true i (D++[e]) (e.i::E) s hi (vQ.2 ⟨hD,s_,λa ha b hb hab=>by rw[cA]at hb;subst hb;subst hab;exact hnD ha⟩) (λx hx=>by
      rcases cG.1 hx with h|h
      ·exact hDe x h
      ·rw[cA]at h;subst h;exact⟨he1,hni,rfl⟩) hs (λq=>?_) (.inl hgc') (by simp only[dZ,sE,gQ];omega)
     ·simpa[plT]using this
     ·rw[cS,hE];simp only[bZ,fG,uP,cG,cA];constructor
      ·rintro(h|h|h|h|h)
       ·exact .inr (.inr (.inr (.inr h)))
       ·exact .inl h
       ·exact .inr (.inl h)
       ·exact .inr (.inr (.inl h))
       ·exact .inr (.inr (.inr (.inl h)))
      ·rintro(h|h|h|h|h)
       ·exact .inr (.inl h)
       ·exact .inr (.inr (.inl h))
       ·exact .inr (.inr (.inr (.inl h)))
       ·exact .inr (.inr (.inr (.inr h)))
       ·exact .inl h
    ·exfalso;have:=Eb.1 hfn k (by rw[hR];exact hk);rw[h,hok.qz]at this;simp at this
    ·exact(hyR (h ▸ (by rw[hR];exact hk))).elim
end
def aFp{P:Program}{G:L_}{a:List HOper}{b:List V_}{n:Nat}{c:Bool}{E:V_}{st:St}{K:St->Prop}(h:∀p:Plan,p=⟨a,b⟩->vU P G p n c E st K):@hdC P G (.plan a b n c E) st ⟨K⟩:=h _ rfl
def Qq(p:Nat×AV):∀l:List (Nat×AV),(LG p l).Perm (p::l)|[]=>by simp[LG]|q::l=>by simp only[LG];split;rfl;exact((Qq p l).cons q).trans (List.Perm.swap p q l)
def UV:∀l:List (Nat×AV),(sA l).Perm l|[]=>List.Perm.refl _|p::l=>(Qq p _).trans ((UV l).cons p)
def aAw{P:Program}{G:L_}{a b c:HC}{st:St}{Q:Ex->St->Prop}(h:@cW P G (.seq (.seq a b) c) st ⟨Q⟩):@cW P G (.seq a (.seq b c)) st ⟨Q⟩:=by
 simp only[bC]at h⊢;refine oN (λe s d=>?_) h
 cases e with
 |normal=>simp only[aHy]at d⊢;rw[bC];exact d|exit i=>simp only[aHz]at d⊢;exact d|ret=>simp only[aHA]at d⊢;exact d
end Hud
namespace Hud
open Go Go.RowKit Go.WideShapes Go.ChangeShapes Go.Deep
def Hb:LK->Value->Prop|.int k,v=>∃n,v=.int k n/\(Lit.int k n).wf=true|.bool,v=>∃b,v=.bool b|.str,v=>∃s,v=.string s/\s.size<=maxLen
def kC:List LK->C_->Prop|[],a=>a=[]|k::b,a=>∃v r,a=v::r/\Hb k v/\kC b r
def UY{a b:List LK}{u v:C_}(h:kC a u)(k:kC b v):kC (a++b) (u++v):=by
 induction a generalizing u with
 |nil=>simp only[kC]at h;subst h;simpa using k|cons x a ih=>
  simp only[kC]at h;obtain⟨w,r,rfl,h1,h2⟩:=h;simp only[jC,kC];exact⟨w,r++v,rfl,h1,ih h2⟩
mutual
def OE(P:Program):Nat->TypeId->Option (List LK)|0,_=>none|n+1,t=>match P.underlying t with|some .bool=>some [.bool]|some (.int k)=>some [.int k]|some .string=>some [.str]|some (.struct a)=>Jz P n a.toList 0|_=>none
def Jz(P:Program):Nat->List Field->Nat->Option (List LK)|0,_,_=>none|_+1,[],_=>some []|n+1,f::d,c=>match OE P n f.type,Jz P n d (c+P.cellsOf f.type) with|some a,some b=>if f.offset=c/\a.length=P.cellsOf f.type then some (a++b) else none|_,_=>none
end
section
variable{H:Type}{enc:TypeId×Value->H}{P:Program}{w:World}{base:Nat}{spare:Nat->Bool}{held:Bool}
mutual
def Qr:∀{n:Nat}{t:TypeId}{ks:List LK},OE P n t=some ks->ks.length=P.cellsOf t->∀{fuel:Nat}{cs:C_}{x:DataW H×List MemPlace},DataW.trod enc P w base spare held fuel t cs=some x->kC ks cs
 |0,_,_,h,_,_,_,_,_=>by simp[OE]at h
 | n+1,t,ks,h,q,fuel,cs,x,e=>by
  simp only[OE]at h;split at h;rename_i a;cases h;obtain⟨b,d,_⟩:=DataW.trod_bool a e;subst d;simp[kC,Hb];rename_i k a;cases h;obtain⟨m,d,_,g⟩:=DataW.trod_int a e;subst d;simp[kC,Hb,g];rename_i a;cases h;obtain⟨s,d,_,g⟩:=DataW.trod_string a e;subst d;simp[kC,Hb,g];rename_i u a;obtain⟨p,m,_,_,o,c,r⟩:=DataW.trod_struct a e
  have:=Qs h (cs:=cs) (λi f j=>by
   have h1:=r i f sf;have h2:i<p.length:=by rw[c];rcases eD i u.size with l|l;exact l;rw[sX Z_]at j;simp at j
   exact⟨m,_,h1.trans (jN h2)⟩) (by rw[o,<-q,pQ])
  simpa using this;simp at h
def Qs:∀{n:Nat}{p:List Field}{off:Nat}{ks:List LK},Jz P n p off=some ks->∀{cs:C_},(∀(i:Nat)(f:Field),p[i]?=some f->∃c x,DataW.trod enc P w base spare held c f.type ((cs.drop f.offset).take (P.cellsOf f.type))=some x) ->
 cs.length=off+ks.length->kC ks (cs.drop off)
 |0,_,_,_,h,_,_,_=>by simp[Jz]at h|n+1,[],off,ks,h,cs,m,l=>by
  simp only[Jz,E_]at h;subst h;simp only[kC];exact LB (by simp at l;omega)
 | n+1,f::p,off,ks,h,cs,m,l=>by
  simp only[Jz]at h;split at h;rename_i a b h1 h2;split at h;rename_i r;cases h;obtain⟨o,j⟩:=r;obtain⟨c,x,e⟩:=m 0 f rfl;have d:=Qr h1 j e;rw[dZ]at l;have k:=Qs h2 (cs:=cs) (λi g q=>m (i+1) g (by simpa using q)) (by rw[<-j];omega);rw[o]at d;have:cs.drop off=(cs.drop off).take (P.cellsOf f.type)++cs.drop (off+P.cellsOf f.type):=by rw[<-Kg,LC]
  rw[this];exact UY d k;simp at h;simp at h
end
end
def Iy(w:World):GH:=λb=>match w.heap[b]? with|some (.cells a _ _)=>some a|_=>none
def aD4(w:World)(φ:Nat->Value):Inv (Iy w) φ w [] where
 gh:=λb g e=>by unfold Iy at e;split at e;rename_i c E a h;cases e;exact⟨E,a,h⟩;simp at e
 obj:=λi o e=>so
 dis:=λi j f d b e=>so
def aAz{w:World}{b o:Nat}{v:Value}(h:w.cell? ⟨b,o,none⟩=some v):oY (Iy w) b o=some v:=by unfold World.cell? at h;unfold oY Iy;split at h;rename_i c E a h1;simp only at h1;rw[h1];simpa using h;simp at h
def UZ{k:LK}{v:Value}(h:Hb k v):aX (.v v)=true:=by
 cases k with
 |int k=>obtain⟨n,rfl,_⟩:=h;rfl
 |bool=>obtain⟨b,rfl⟩:=h;rfl
 |str=>obtain⟨s,rfl,_⟩:=h;rfl
def Ua{ks:List LK}{vs:C_}(h:kC ks vs):∀{i:Nat}{v:Value},vs[i]?=some v->∃k,Hb k v:=by
 induction ks generalizing vs with
 |nil=>simp only[kC]at h;subst h;simp|cons k ks ih=>
  simp only[kC]at h;obtain⟨u,r,rfl,h1,h2⟩:=h;intro i v a
  cases i with
  |zero=>simp only[sW,E_]at a;subst a;exact⟨k,h1⟩|succ i=>exact ih h2 ov
section
variable{H:Type}{enc:TypeId×Value->H}{P:Program}{W:World}{base:Nat}{spare:Nat->Bool}{held:Bool}{h:GH}{φ:Nat->Value}
def aD5 {t e:TypeId} {ks:List LK} {n:Nat} (U:P.underlying t=some (.slice e)) (G:OE P n e=some ks) (J:ks.length=P.cellsOf e) (Y:0<ks.length) {A:Option Addr} {h B:Nat} {d:DataW H} {ps:List MemPlace}
 (K:DataW.Trod enc P W base spare held t (.slice A h B) d ps):
 ∃N:List C_,(∀x∈N,kC ks x)/\N.length<=maxLen/\Rp (Iy W) φ 0 (.ls ks.length (N.map λx=>x.map .v)) (.slice A h B):=by
 obtain⟨S,K⟩:=K;rcases open_slice U K with⟨h1,_⟩|⟨a,F,Q,m,n',D,Pl,h1,_,h3,R,V,_,z⟩
 obtain⟨rfl,rfl,rfl⟩:A=none/\h=0/\B=0:=by simpa[Value.cells]using h1
 refine⟨[],s_,s_,?_⟩;simp only[Rp,oB,uP,gQ];exact⟨none,0,rfl,cN _,pR _,s_⟩;obtain⟨rfl,rfl,rfl⟩:A=some a/\h=F/\B=Q:=by simpa[Value.cells]using h1
 have X:h<=m:=by rw[V];split<;>omega
 have f:∀i,∃C:C_,i<h->(W.cells? base (a.add (i*P.cellsOf e)) (P.cellsOf e)=some C/\kC ks C):=by intro i;by_cases w:i<h;obtain⟨C,M,L⟩:=z i o_;exact⟨C,λ_=>⟨M,Qr G J L⟩⟩;exact⟨[],λy=>absurd y w⟩
 refine⟨(List.range h).map λi=>(f i).choose,?_,by simpa using uR h3 R,?_⟩;intro x T;obtain⟨i,w,rfl⟩:=dF.1 T;exact((f i).choose_spec (uM.1 w)).2;simp only[Rp,oB,aP,QK];refine⟨some a,B,rfl,h3,R,?_⟩;rcases JX h with h0|h0;exact .inl (by subst h0;rfl);refine .inr ?_;have s:a.spot=none:=by
  obtain⟨C,c1,_⟩:=z 0 o_;obtain⟨_,E,O⟩:=World.cells?_some c1;have g:=O 0 o_;rw[jN (by rw[E];omega),Nat.zero_mul]at g;have:(a.add 0).add 0=a:=by simp[Addr.add]
  rw[this]at g;unfold World.cell? at g;split at g;split at g;simp at g;rename_i G;simpa using G;simp at g
 obtain⟨b,o,Z⟩:=a;simp only at s;subst s;refine⟨b,o,rfl,kF.mk λj e' q=>?_⟩;rw[gE,gE]at q;rcases eD j h with l|l;rw[aBQ l]at q;simp only[iX,E_]at q;subst q;obtain⟨c1,c2⟩:=(f j).choose_spec l;obtain⟨_,E,O⟩:=World.cells?_some c1;refine⟨by rw[aP,E,J],mR.mk λi c r=>?_⟩;rw[gE]at r
 cases p:(f j).choose[i]? with
 |none=>rw[p]at r;simp at r| some u=>
  rw[p]at r;simp only[iX,E_]at r;subst r;obtain⟨k,I⟩:=Ua c2 p;have w:i<P.cellsOf e:=by rw[<-E];rcases eD i (f j).choose.length with y|y;exact y;rw[sX y]at p;simp at p
  have g:=O i w;rw[p]at g;refine⟨u,UZ I,?_,by simp[oB]⟩;have:((Addr.mk b o none).add (j*P.cellsOf e)).add i=⟨b,o+j*ks.length+i,none⟩:=by rw[J];by_cases h1:j*P.cellsOf e=0<;>by_cases h2:i=0<;>simp[Addr.add,h1,h2,sY]
  rw[this]at g;exact aAz g
 rw[sX Z_]at q;simp at q
def aHX{n:Int}(a:(Lit.int .i64 n).wf=true):-9223372036854775808<=n/\n<=(2^63-1):=by simp only[Lit.wf,zJ,decide_eq_true_eq]at a;exact a
def Y2:∀{es:List C_},(∀x∈es,kC [.int .i64] x)->∃l:B_,es.map (λx=>x.map AV.v)=l.map (λn=>[AV.v (.int .i64 n)])/\∀n∈l,-9223372036854775808<=n/\n<=2^63-1
 |[],_=>⟨[],rfl,s_⟩
 |e::es,b=>by obtain⟨l,h1,h2⟩:=Y2 (es:=es) λx c=>b x (by simp[c]);have:=b e s_;simp only[kC,Hb]at this;obtain⟨v,r,rfl,⟨n,rfl,d⟩,rfl⟩:=this;refine⟨n::l,s7,?_⟩;intro m a;rcases cS.1 a with rfl|a;exact aHX d;exact h2 m a
def Qt{k:World}(i:laidOutB P=true)(j:Below W.heap.size W k){e:Nat->Bool}:∀{ts:List TypeId}{vs:C_}{ds:List (DataW H)}{ps:List MemPlace},(∀t∈ts,P.readableRec t=true/\t<P.types.size) ->
 DataW.TrodAll enc P W 0 (λ_=>true) true ts vs ds ps->(∀x∈ps,x.block<W.heap.size)->(∀x∈ps,e x.block=true)->DataW.TrodAll enc P k 0 e true ts vs ds ps
 |[],[],[],ps,_,h,_,_=>by simpa[DataW.TrodAll]using h| t::ts,v::vs,d::ds,ps,f,h,b,g=>by
  simp only[DataW.TrodAll]at h⊢;obtain⟨p,q,h1,h2,rfl⟩:=h;obtain⟨m,l⟩:=f t s_
  exact⟨p,q,WideElems.Trod_stays i m l h1 (λx a=>j.same (b x (by simp[a]))) (λx a=>g x (by simp[a])),
   Qt i j (λt c=>f t (by simp[c])) h2 (λx a=>b x (by simp[a])) (λx a=>g x (by simp[a])),rfl⟩
 |[],_::_,_,_,_,h,_,_=>by simp[DataW.TrodAll]at h|[],[],_::_,_,_,h,_,_=>by simp[DataW.TrodAll]at h|_::_,[],_,_,_,h,_,_=>by simp[DataW.TrodAll]at h|_::_,_::_,[],_,_,h,_,_=>by simp[DataW.TrodAll]at h
def aAA{h':GH}{b:Nat->Value}{T':aK}{c:World}(a:Evo h φ [] W h' b T' c):Go.RowKit.Below W.heap.size W c :=
 ⟨a.os,a.tape,a.output,a.size,λk d=>a.frame k d λi o e=>so⟩
end
end Hud
namespace Hud
open Go
section
variable{h h1:GH}{φ φ1:Nat->Value}{m n:Nat}
mutual
def aEf:∀{x:AV}{u u1:Value},Rp h φ m x u->Rp h1 φ1 n x u1->Rp h φ n x u
 |.v _,_,_,e,_=>by simpa[Rp]using e|.ls _ _,_,_,e,_=>by simp only[Rp]at *;exact e|.ag g,_,_,e,f=>by simp only[Rp]at *;obtain⟨d,a,b⟩:=e;obtain⟨_,_,c⟩:=f;exact⟨d,a,B4 b c⟩
 |.own _,_,_,e,f=>by simp only[Rp]at *;exact⟨f.1,e.2⟩|.ptr _ _,_,_,e,f=>by simp only[Rp]at *;exact⟨f.1,e.2⟩|.elt _ _ _ _,_,_,e,f=>by simp only[Rp]at *;exact⟨f.1,e.2⟩|.vw _ _ _ _,_,_,e,f=>by simp only[Rp]at *;exact⟨f.1,e.2⟩|.mp _,_,_,e,f=>by simp only[Rp]at *;exact⟨f.1,e.2⟩|.yl _,_,_,e,f=>by simp only[Rp]at *;exact⟨f.1,e.2⟩|.rp _,_,_,e,_=>by simp only[Rp]at *;exact e|.cl _ g,_,_,e,f=>by simp only[Rp]at *;obtain⟨d,a,b⟩:=e;obtain⟨_,_,c⟩:=f;exact⟨d,a,B4 b c⟩
 |.bm _ _ g,_,_,e,f=>by simp only[Rp]at *;obtain⟨d,a,b⟩:=e;obtain⟨_,_,c⟩:=f;exact⟨d,a,B4 b c⟩
 |.tup g,_,_,e,f=>by simp only[Rp]at *;obtain⟨d,a,b⟩:=e;obtain⟨_,_,c⟩:=f;exact⟨d,a,B4 b c⟩
 |.any,_,_,_,_=>z_
def B4:∀{cs:O_}{us vs:C_},cC h φ m cs us->cC h1 φ1 n cs vs->cC h φ n cs us
 |[],us,vs,e,_=>by simpa[cC]using e
 |c::cs,us,vs,e,f=>by
  simp only[cC]at *
  obtain⟨u,d,a,b,c⟩:=e;obtain⟨_,_,_,i,g⟩:=f;exact⟨u,d,a,aEf b i,B4 c g⟩
end
def GP{w w1:World}{i D:Nat}:∀{o:AObj},uF h φ m w i o->uF h1 φ1 n w1 D o->uF h φ n w i o
 |.box O,e,f=>by
  obtain⟨g,B,E,a,b,c,d⟩:=e;obtain⟨_,_,_,_,_,_,F⟩:=f;exact⟨g,B,E,a,b,c,B4 d F⟩
 |.arr _ _,e,_=>e
 |.arf k N,e,f=>by
  refine⟨e.1,e.2.imp id ?_⟩;rintro⟨g,c,y,E,t,q,j,u,v,z,J⟩;refine⟨g,c,y,E,t,q,j,u,v,z,?_⟩;rcases f.2 with⟨_,_,M⟩|⟨_,_,_,_,_,_,_,_,_,_,G⟩
  grind[cC];exact B4 J G
 |.lp r s,e,f=>by
  obtain⟨l,t,q,j,u,v⟩:=e;obtain⟨_,_,_,_,_,I⟩:=f;exact⟨l,t,q,j,u,λp A=>aEf (v p A) (I p A)⟩
 |.mit k a b c,e,f=>by
  obtain⟨g,C,t,q,j,u⟩:=e;obtain⟨_,_,_,_,_,Q⟩:=f;refine⟨g,C,t,q,j,?_⟩;grind
 |.map R L K bs P,e,f=>by obtain⟨g,x,t,q,j,u,v,z⟩:=e;obtain⟨_,_,_,_,_,_,_,H⟩:=f;exact⟨g,x,t,q,j,u,v,B4 z H⟩
end
def aA.keep{P:Program}{G:L_}{f:FuncId}{args:O_}{T:aK}{q:Value->Prop}(B:aA P G f args T λr d=>(∃J,d=T++J)/\∃v,r=.v v/\q v):
 aA P G f args T λr d=>(∃v,r=.v v/\q v)/\d=T:=by
 have n:∀{h:GH}{φ:Nat->Value}{w w':World}{v:Value},Inv h φ w T->CS h φ T w (λr d=>(∃J,d=T++J)/\∃v,r=.v v/\q v) v w'->CS h φ T w (λr d=>(∃v,r=.v v/\q v)/\d=T) v w':=by
  rintro h φ w w' v hI ⟨r,d,F,m,⟨⟨J,rfl⟩,x,rfl,z⟩,c,g,y⟩;have l:∀i o,T[i]?=some (some o)->(T++J)[i]?=some (some o):=λi o e=>by rw[mY];exact e;grind
  refine⟨.v x,T,F,m,⟨⟨x,rfl,z⟩,rfl⟩,?_,?_,by simpa[Rp]using y⟩;exact⟨c.os,c.tape,c.output,c.size,c.frame,c.le,c.gfr,c.phi,λi o b A C=>c.org i o b (l i o A) C,cN _,c.drawn⟩;exact⟨g.gh,λi o e=>GP (g.obj i o (l i o e)) (hI.obj i o e),λi j u t b s p=>g.dis i j u t b (l i u s) (l j t p)⟩
 intro h φ w k D hI E;rcases B h φ w k D hI E with⟨a,b⟩|⟨v,w',a,b⟩
 exact .inl ⟨a,b.mono λe w' ⟨v,s,p⟩=>⟨v,s,n hI p⟩⟩;grind
def eH{P:Program}{G:L_}{f:FuncId}{b:HFun}{H:List (Nat×Option Nat×Nat)}(e:tF P f H=some b){args:O_}{T:aK}{x:Value}
 (c:aF8 P G b args T λr a=>r=.v x/\a.take T.length=T):aA P G f args T λr a=>r=.v x/\a=T:=by
 refine(aA.keep (q:=λv=>v=x) ((fT e c).mono ?_)).mono ?_;rintro r a ⟨rfl,d⟩;exact⟨⟨a.drop T.length,by have:=(LC T.length a).symm;rwa[d]at this⟩,x,rfl,rfl⟩;simp
section
variable{h:GH}{φ:Nat->Value}{n i k:Nat}{es:N_}
mutual
def aHa(a:n<=i):∀{x:AV}{u:Value},Rp h φ n x u->CB i k es x=x
 |.v _,_,_=>rfl|.ls _ _,_,_=>rfl|.rp _,_,_=>rfl|.any,_,_=>rfl|.ptr _ _,_,_=>rfl|.mp _,_,_=>rfl|.yl _,_,_=>rfl|.own j,_,e=>by simp only[Rp]at e;simp only[CB];rw[if_neg o_]|.elt j _ _ _,_,e=>by simp only[Rp]at e;simp only[CB];rw[if_neg o_]|.vw j _ _ _,_,e=>by simp only[Rp]at e;simp only[CB];rw[if_neg o_]|.ag d,_,e=>by simp only[Rp]at e;obtain⟨c,_,b⟩:=e;simp only[CB];rw[Fo a b]
 |.cl _ d,_,e=>by simp only[Rp]at e;obtain⟨c,_,b⟩:=e;simp only[CB];rw[Fo a b]
 |.bm _ _ d,_,e=>by simp only[Rp]at e;obtain⟨c,_,b⟩:=e;simp only[CB];rw[Fo a b]
 |.tup d,_,e=>by simp only[Rp]at e;obtain⟨c,_,b⟩:=e;simp only[CB];rw[Fo a b]
def Fo(a:n<=i):∀{cs:O_}{us:C_},cC h φ n cs us->IB i k es cs=cs|[],_,_=>rfl|c::cs,_,e=>by simp only[cC]at e;obtain⟨u,d,_,b,c⟩:=e;simp only[IB];rw[aHa a b,Fo a c]
end
def RI:∀{a b:O_}{us:C_},cC h φ n (a++b) us->(∃d,cC h φ n a d)/\∃f,cC h φ n b f|[],_,us,e=>⟨⟨[],by simp[cC]⟩,us,e⟩|c::a,b,us,e=>by simp only[jC,cC]at e;obtain⟨u,g,_,l,k⟩:=e;obtain⟨⟨d,j⟩,i⟩:=RI k;exact⟨⟨u::d,by simp only[cC];exact⟨u,d,rfl,l,j⟩⟩,i⟩
def aEl(d:n<=i):∀{c:N_}{us:C_},cC h φ n c.flatten us->Zk i k es c=c|[],_,_=>rfl|e::c,us,f=>by rw[zK]at f;obtain⟨⟨j,a⟩,g,b⟩:=RI f;simp only[Zk];rw[Fo d a,aEl d b]
def aIs{l:List (Nat×AV)}{f:Nat->Value}(c:n<=i)(a:∀p∈l,Rp h φ n p.2 (f p.1)):QR i k es l=l:=by
 induction l with
 |nil=>rfl|cons p l ih=>
  obtain⟨j,x⟩:=p;simp only[QR];rw[aHa c (a (j,x) EV),ih λp b=>a p (GU _ b)]
def aEm{w:World}{j:Nat}(a:n<=i):∀{o:AObj},uF h φ n w j o->Vq i k es o=some o
 |.box y,e=>by
  obtain⟨_,_,_,_,_,_,d⟩:=e;simp only[Vq];rw[Fo a d]
 |.arr _ _,_=>rfl|.mit _ _ _ _,_=>rfl| .arf q g,e=>by
  have v:Zk i k es g=g:=by
   rcases e.2 with⟨_,_,p⟩|⟨_,_,_,_,_,_,_,_,_,_,b⟩
   subst p;rfl;exact aEl a b
  have l:(g.all λx=>x.all gS)=true:=oD.2 λx m=>oD.2 λc t=>(e.1 x m).2 c t;grind[Vq]
 |.lp r s,e=>by
  obtain⟨_,_,_,_,_,u⟩:=e;simp only[Vq];rw[aIs (f:=λq=>r.tmps.getD q undef) a u]
 |.map _ _ _ _ _,e=>by obtain⟨_,_,_,_,_,_,_,d⟩:=e;simp only[Vq];rw[Fo a d]
end
def aA.keepLs {P:Program} {G:L_} {f:FuncId} {args:O_} {T:aK} {q:Nat->N_->Prop} (M:aA P G f args T λr d=>d.take T.length=T/\∃i k c,r=.own i/\T.length<=i/\d[i]?=some (some (.arr k c))/\q k c):
 aA P G f args T λr d=>(∃k c,q k c/\r=.ls k c)/\d=T:=by
 have A:∀{h:GH}{φ:Nat->Value}{w w':World}{v:Value},tU G h->Inv h φ w T->CS h φ T w (λr d=>d.take T.length=T/\∃i k c,r=.own i/\T.length<=i/\d[i]?=some (some (.arr k c))/\q k c) v w'->CS h φ T w (λr d=>(∃k c,q k c/\r=.ls k c)/\d=T) v w':=by
  rintro h φ w w' v u hI ⟨r,d,R,z,⟨W,i,k,c,rfl,B,I,K⟩,J,C,X⟩;have O:SInv P G 0 h φ T w ⟨T.length,[(0,.own i)],d⟩ ⟨#[v],[]⟩ w':=by refine⟨rfl,?_,⟨R,z,u.mono J.le,J,C,λi=>?_⟩,s_,gu⟩;intro i x y I V;simp_all;simp only[bA];split;simp_all;simp[Rp]
  have L:cR d i=some (.arr k c):=by simp[cR,I]
  have n:=O.shutI i;unfold Hud.shutI at n;simp only[L]at n;obtain⟨_,_,⟨h2,p,_,g,D,S⟩,_,_⟩:=n;have l:=S 0;have U:bA (QR i k c [(0,AV.own i)]) 0=.ls k c:=by simp[QR,bA,CB]
  rw[U]at l;replace l:Rp h2 p ((QS i k c d).set i none).length (.ls k c) v:=l;have m:∀j o,T[j]?=some (some o)->((QS i k c d).set i none)[j]?=some (some o):=λj o e=>by
   have Y:j<T.length:=(sV.1 e).1;rw[List.getElem?_set_ne o_,Ry];have t:d[j]?=some (some o):=m_;rw[t];show some (Vq i k c o)=some (some o);rw[aEm B (hI.obj j o e)]
  refine⟨.ls k c,T,h2,p,⟨⟨k,c,K,rfl⟩,rfl⟩,?_,?_,by simpa only[Rp]using l⟩;exact⟨g.os,g.tape,g.output,g.size,g.frame,g.le,g.gfr,g.phi,λi o b B N=>g.org i o b (m i o B) N,cN _,g.drawn⟩;exact⟨D.gh,λi o e=>GP (D.obj i o (m i o e)) (hI.obj i o e),λi j H F b t E=>D.dis i j H F b (m i H t) (m j F E)⟩
 intro h φ w s u hI Q;rcases M h φ w s u hI Q with⟨a,b⟩|⟨v,w',a,b⟩
 exact .inl ⟨a,b.mono λe w' ⟨v,t,E⟩=>⟨v,t,A u hI E⟩⟩;grind
def O6{J a:St->Prop}{Q:Ex->St->Prop}(h:∀s,J s->a s):∀e s,@Kv ⟨J⟩ ⟨Q⟩ e s->@Kv ⟨a⟩ ⟨Q⟩ e s:=by
 intro e s
 cases e with
 |normal=>exact h _|exit i=>exact id|ret=>exact id
def O7{P:Program}{G:L_}{st:St}{d:V_}{a:HC}{Q:Ex->St->Prop}(N:Nat)(S:Nat->St)(J:Nat->Prop)(h0:st=S 0)(e:J 0)(f:∀i,i<N->J i->@cW P G a (S i) ⟨@Kv ⟨λc=>c=S (i+1)/\J (i+1)⟩ ⟨Q⟩⟩)
 (j:J N->@cW P G a (S N) ⟨@Kv ⟨λ_=>False⟩ ⟨Q⟩⟩):@cW P G (.loop d a) st ⟨Q⟩:=by
 apply kL (λn s=>∃i,i<=N/\n=N-i/\s=S i/\J i) N ⟨0,pR _,s_,h0,e⟩;rintro n s ⟨i,k,rfl,rfl,g⟩;rcases eD i N with b|h;exact oN (O6 λs ⟨h1,h2⟩=>⟨N-(i+1),o_,i+1,o_,rfl,h1,h2⟩) (f i b g);grind
end Hud
