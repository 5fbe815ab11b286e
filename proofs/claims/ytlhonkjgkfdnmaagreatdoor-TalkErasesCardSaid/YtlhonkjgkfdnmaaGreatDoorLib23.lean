import Derived.Test.YtlhonkjgkfdnmaaGreatDoorLib18
set_option linter.all false
namespace Hud
open Go
structure CE where
 i:Nat
 d:Nat
 f:Nat
 xs:List Operand
structure IE where
 i:Nat
 k:Int
 s:Nat
 n:Nat
 deriving DecidableEq
def Ix{s:List (Nat×AV)}{j:Nat}(h:j∉s.map (·.1)):LE s j=s:=by
 induction s with
 |nil=>rfl|cons p s ih=>
  grind[LE]
def Cn{s:List (Nat×AV)}{j:Nat}{x:AV}(a:(s.map (·.1)).Nodup)(h:(j,x)∈s):bA s j=x:=by
 induction s with
 |nil=>simp at h|cons p s ih=>
  grind[List.nodup_cons,bA]
def UR{s:List (Nat×AV)}{j:Nat}(h:j∈s.map (·.1)):(j,bA s j)∈s:=by
 induction s with
 |nil=>simp at h|cons p s ih=>
  grind[bA]
def aAv{s t:List (Nat×AV)}(a:(t.map (·.1)).Nodup)(h:s.Perm t){j:Nat}(b:j∈t.map (·.1)):bA s j=bA t j :=
 Cn ((h.map _).nodup_iff.2 a) (h.mem_iff.2 (UR b))
def Wj{s t:List (Nat×AV)}(a:(s.map (·.1)).Nodup)(h:s.Perm t):sA s=sA t:=by
 induction h with
 |nil=>rfl|cons p h ih=>simp only[fG,BU]at a;simp only[sA];rw[ih a.2]| swap p q l=>
  simp only[fG,BU,cS,not_or]at a;simp only[sA];generalize sA l=d;have e:q.1≠p.1:=a.1.1
  induction d with
  |nil=>
   grind[LG]
  |cons x d ih=>
   grind[LG]
 |trans h1 h2 c b=>rw[c a,b ((h1.map _).nodup_iff.1 a)]
def Qo:∀s:List (Nat×AV),mV [] s=s|[]=>rfl|p::s=>by simp[mV,Qo s]
def US{r:Nat}{s t:List (Nat×AV)}{T:aK}(a:(s.map (·.1)).Nodup)(h:s.Perm t):DB [] ⟨r,s,T⟩=DB [] ⟨r,t,T⟩:=by simp only[DB,Qo,Wj a h]
def SX{G:L_}{st:St}:∀{l:List HOper},(∀o∈l,qL G st [o])->qL G st l|[],_=>trivial|o::l,h=>⟨(h o EV).1,SX λx a=>h x (GU _ a)⟩
def nW{p:Plan}{E:V_}{k:Nat}:k∈p.ready E↔k<p.hops.length/\k∉E/\∀q∈p.p k,q∈E:=by simp_all[Plan.ready,gR,uM,zJ,EX,oD,JW]
def UT{p:Plan}{E:V_}{o:HOper}(h:o∈p.pend E):∃q,q∈E/\p.quiet q=true/\(∀k∈E,p.quiet k=false->q∉p.p k)/\p.hops[q]?=some o:=by grind[Plan.pend]
structure PlOk(p:Plan)(Q:List Nat)(z y:Nat)(ci:List Nat)(es:List IE):Prop where
 all:∀k,k<p.hops.length->k∈Q\/k=0\/k∈ci\/k∈es.map (·.i)\/k=z\/k=y
 lt:∀k∈0::z::y::(ci++es.map (·.i)),k<p.hops.length
 cp:∀j,j<ci.length->(j=0\/ci.getD (j-1) 0∈p.p (ci.getD j 0))/\∀q∈p.p (ci.getD j 0),q∈Q++ci.take j
 ep:∀e∈es,e.n<=ci.length/\0∈p.p e.i/\(e.n=0\/ci.getD (e.n-1) 0∈p.p e.i)/\∀q∈p.p e.i,q∈0::(Q++ci.take e.n)
 mp:∀q∈p.p 0,q∈Q
 zp:(∀q∈0::(ci++es.map (·.i)),q∈p.p z)/\∀q∈p.p z,q∈0::(Q++(ci++es.map (·.i)))
 yp:z∈p.p y/\∀q∈p.p y,q∈z::0::(Q++(ci++es.map (·.i)))
 nd:(Q++0::z::y::(ci++es.map (·.i))).Nodup
 qn:∀k∈0::y::(ci++es.map (·.i)),p.quiet k=false
 qz:p.quiet z=true
def aFo{T:aK}{ev:Operand->AV}:cE T ev (.mkm false)=some (.mp T.length,T++[some (MP [])]):=fI rfl rfl
def UU{T0:aK}{a b:Option AObj}:(T0++[a]).set T0.length b=T0++[b]:=s_
section
variable{P:Program}{G:L_}{p:Plan}{Q:V_}{m z y dz dy r0:Nat}{cs:List CE}{es:List IE}{s0:List (Nat×AV)}{T0:aK}{vs:Nat->Bool}{K:St->Prop}
abbrev Qp(m:Nat)(cs:List CE)(s0:List (Nat×AV))(a:Nat)(vs:Nat->Bool)(mm:Bool)(i:Nat):List (Nat×AV):=
 s0++((cs.take i).map (λc=>(c.d,.v (.bool (vs c.d))))++if mm then [(m,.mp a)] else [])
abbrev plT(T0:aK)(vs:Nat->Bool)(mm:Bool)(D:List IE):aK:=T0++if mm then [some (MP (D.map λe=>(e.k,vs e.s)))] else []
def Wk{l:List CE}{j:Nat}(a:j<l.length):(l.map (·.i)).getD j 0=l[j].i:=by simp[a]
def aHV (hok:PlOk p Q z y (cs.map (·.i)) es) (h0:p.hops[0]?=some ⟨some m,.mkm false,none⟩)
  (hc:∀c∈cs,p.hops[c.i]?=some ⟨some c.d,.call (.func c.f) c.xs,none⟩)
  (he:∀e∈es,p.hops[e.i]?=some ⟨none,.mup false [.int .i64] (.tmp m) (.const (.int .i64 e.k)) (.tmp e.s),none⟩)
  (hz:p.hops[z]?=some ⟨some dz,.mov (.tmp m),none⟩) (hy:p.hops[y]?=some ⟨some dy,.rgm (.tmp dz),none⟩)
  (hkeys:(s0.map (·.1)++(cs.map (·.d)++[m,dz,dy])).Nodup) (hek:(es.map (·.k)).Nodup)
  (hcall:∀c∈cs,∀(s:List (Nat×AV))(T:aK)(K':AV->aK->Prop),(∀x∈s0.map (·.1),bA s x=bA s0 x)->K' (.v (.bool (vs c.d))) T->IG P G c.f (c.xs.map (dW G s)) T K')
  (hval:∀e∈es,(e.s∈s0.map (·.1)/\bA s0 e.s=.v (.bool (vs e.s)))\/(∃c,cs[e.n-1]?=some c/\0<e.n/\c.d=e.s))
  (hq:∀(s:List (Nat×AV))(T:aK),(∀x∈s0.map (·.1),bA s x=bA s0 x)->(∀j,j<T0.length->cR T j=cR T0 j)->∀q∈Q,∀o,p.hops[q]?=some o->qL G ⟨r0,s,T⟩ [o])
  (hcs:0<cs.length)
  (hK:∀X,X.Perm (es.map λe=>(e.k,vs e.s))->K (DB [] ⟨r0,(dy,.ptr (T0.length+1) 0)::(dz,.mp T0.length)::Qp m cs s0 T0.length vs true cs.length,T0++[some (MP X),some (.mit (some T0.length) X.length [] X.length)]⟩)):
  ∀(n:Nat)(gc mm:Bool)(i:Nat)(D:List IE)(E:V_)(s:List (Nat×AV)),i<=cs.length->D.Nodup->(∀e∈D,e∈es/\e.n<=i/\mm=true)->s.Perm (Qp m cs s0 T0.length vs mm i) ->
   (∀k,k∈E↔k∈Q\/(mm=true/\k=0)\/k∈(cs.map (·.i)).take i\/k∈D.map (·.i))->(gc=true\/(mm=false/\i=0))->cs.length+es.length+4<=n+i+D.length+mm.toNat ->
   vU P G p n gc E ⟨r0,s,plT T0 vs mm D⟩ K:=by
 have hnd:=vQ.1 hok.nd;have hQ:=λk(hk:k∈Q) k2(hk2:k2∈0::z::y::(cs.map (·.i)++es.map (·.i)))=>hnd.2.2 k hk k2 hk2;have hN:=hnd.2.1;simp only[BU,cS,not_or]at hN;obtain⟨⟨h0z,h0y,h0m⟩,⟨hzy,hzm⟩,hym,hN⟩:=hN;have hcN:=(vQ.1 hN).1;have heN:=(vQ.1 hN).2.1;have hce:=(vQ.1 hN).2.2;have hkn:=vQ.1 hkeys;have keysOf:∀(mm:Bool)(i:Nat),((Qp m cs s0 T0.length vs mm i).map (·.1)).Nodup:=λmm i=>by
  have hsub:((Qp m cs s0 T0.length vs mm i).map (·.1)).Sublist (s0.map (·.1)++(cs.map (·.d)++[m,dz,dy])):=by
   simp only[bZ,rI];refine List.Sublist.append (List.Sublist.refl _) (List.Sublist.append ?_ ?_)
   ·show((cs.take i).map _).Sublist _;exact(List.take_sublist i cs).map _
   ·cases mm
    ·exact List.nil_sublist _
    ·exact List.Sublist.cons_cons _ (List.nil_sublist _)
  exact hsub.nodup hkeys
 intro n
 induction n with
 | zero=>
  intro gc mm i D E s hi hD hDe _ _ _ hn;exfalso;have h1:D.length<=es.length:=by
   have:(D.map (·.i)).length<=(es.map (·.i)).length:=xY (by
    refine(Rh.2 ?_);rw[Mh];refine TU (λ{a b} ha hb hab e=>hab ?_) (Rh.1 hD);have:=hDe a ha;have hb2:=hDe b hb;obtain⟨ia,hia,rfl⟩:=CU this.1;obtain⟨ib,hib,rfl⟩:=CU hb2.1;have:=(C9 (h₀:=by simpa using hia) (h₁:=by simpa using hib) heN).1 X_
    subst this;rfl) (λx hx=>by obtain⟨e,he1,rfl⟩:=dF.1 hx;exact dF.2 ⟨e,(hDe e he1).1,rfl⟩)
   simpa using this
  have h2:mm.toNat<=1:=by cases mm<;>decide
  omega
 | succ n ih=>
  intro gc mm i D E s hi hD hDe hs hE hgc hn;have hgetI:∀j(hj:j<cs.length),(cs.map (·.i)).getD j 0=cs[j].i:=λj hj=>Wk hj;have hcmem:∀j(hj:j<cs.length),cs[j].i∈cs.map (·.i):=λj hj=>dF.2 ⟨_,eQ hj,rfl⟩;have hctake:∀j(hj:j<cs.length),cs[j].i∈(cs.map (·.i)).take i↔j<i:=λj hj=>by
   rw[TT];constructor
   ·rintro⟨k,hk,e⟩;simp only[aP]at hk;have:=(C9 (h₀:=c_) (h₁:=kh) hcN).1 (show(cs.map (·.i))[k]'c_=(cs.map (·.i))[j]'kh by rw[e];simp);omega
   ·intro h;exact⟨j,c_,s_⟩
  have einj:∀a∈es,∀b∈es,a.i=b.i->a=b:=λa ha b hb e=>by obtain⟨ia,hia,rfl⟩:=CU ha;obtain⟨ib,hib,rfl⟩:=CU hb;have:=(C9 (h₀:=by simpa using hia) (h₁:=by simpa using hib) heN).1 X_;subst this;rfl
  have hzE:z∉E:=λh=>by
   rcases(hE z).1 h with h|⟨_,h⟩|h|h
   ·exact hQ z h z s_ rfl
   ·exact h0z h.symm
   ·exact hzm (cG.2 (.inl (C8 h)))
   ·obtain⟨e,h1,h2⟩:=dF.1 h;exact hzm (cG.2 (.inr (dF.2 ⟨e,(hDe e h1).1,h2⟩)))
  have hyR:y∉p.ready E:=λh=>hzE ((nW.1 h).2.2 z hok.yp.1);have h0E:0∈E↔mm=true:=by
   rw[hE];constructor
   ·rintro(h|⟨h,_⟩|h|h)
    ·exact(hQ 0 h 0 s_ rfl).elim
    ·exact h
    ·exact(h0m (cG.2 (.inl (C8 h)))).elim
    ·obtain⟨e,h1,h2⟩:=dF.1 h;exact(h0m (cG.2 (.inr (dF.2 ⟨e,(hDe e h1).1,h2⟩)))).elim
   ·intro h;exact .inr (.inl ⟨h,rfl⟩)
  have hcE:∀j(hj:j<cs.length),cs[j].i∈E↔j<i:=λj hj=>by
   rw[hE,hctake j hj];constructor
   ·rintro(h|⟨_,h⟩|h|h)
    ·exact(hQ _ h cs[j].i (by simp[hcmem j hj]) rfl).elim
    ·exact(h0m (cG.2 (.inl (h ▸ hcmem j hj)))).elim
    ·exact h
    ·obtain⟨e,h1,h2⟩:=dF.1 h;exact(hce _ (hcmem j hj) _ (dF.2 ⟨e,(hDe e h1).1,rfl⟩) h2.symm).elim
   ·intro h;exact .inr (.inr (.inl h))
  have heE:∀e∈es,e.i∈E↔e∈D:=λe he1=>by
   have hm:e.i∈es.map (·.i):=dF.2 ⟨e,he1,rfl⟩;rw[hE];constructor
   ·rintro(h|⟨_,h⟩|h|h)
    ·exact(hQ _ h e.i (by simp only[cS,cG];exact .inr (.inr (.inr (.inr hm)))) rfl).elim
    ·exact(h0m (cG.2 (.inr (h ▸ hm)))).elim
    ·exact(hce _ (C8 h) _ hm rfl).elim
    ·obtain⟨e',h1,h2⟩:=dF.1 h;rw[<-einj e' (hDe e' h1).1 e he1 h2];exact h1
   ·intro h;exact .inr (.inr (.inr (dF.2 ⟨e,h,rfl⟩)))
  have hgS:∀(s':List (Nat×AV))(mm':Bool)(i':Nat),s'.Perm (Qp m cs s0 T0.length vs mm' i')->∀x∈s0.map (·.1),bA s' x=bA s0 x:=λs' mm' i' hp x hx=>by have hk:=keysOf mm' i';rw[aAv hk hp (by simp only[bZ,cG];exact .inl hx)];apply Cn hk;exact cG.2 (.inl (UR hx))
  have hqn:∀q,p.quiet q=true->q∈E->q∈Q:=λq h1 h2=>by
   rcases(hE q).1 h2 with h|⟨_,h⟩|h|h
   ·exact h
   ·rw[h,hok.qn 0 s_]at h1;simp at h1
   ·rw[hok.qn q (by simp only[cS,cG];exact .inr (.inr (.inl (C8 h))))]at h1;simp at h1
   ·obtain⟨e,h3,h4⟩:=dF.1 h;rw[hok.qn q (by simp only[cS,cG];exact .inr (.inr (.inr (dF.2 ⟨e,(hDe e h3).1,h4⟩))))]at h1;simp at h1
  have chk:∀(k:Nat)(s':List (Nat×AV))(T':aK),p.quiet k=false->(∀x∈s0.map (·.1),bA s' x=bA s0 x)->(∀j,j<T0.length->cR T' j=cR T0 j)->qL G ⟨r0,s',T'⟩ (p.pend (k::E)):=λk s' T' hk h1 h2=>SX λo ho=>by
   obtain⟨q,hq1,hq2,_,hq4⟩:=UT ho;refine hq s' T' h1 h2 q ?_ o hq4;rcases cS.1 hq1 with e|h
   ·rw[e,hk]at hq2;simp at hq2
   ·exact hqn q hq2 h
  have getT_app:∀(T0 R:aK) j,j<T0.length->cR (T0++R) j=cR T0 j:=λT0 R j hj=>by unfold cR;rw[mY hj]
  have hDl:D.length<=es.length:=by
   have:(D.map (·.i)).length<=(es.map (·.i)).length:=xY (by
    refine(Rh.2 ?_);rw[Mh]
    exact TU (λ{a b} ha hb hab e=>hab (einj a (hDe a ha).1 b (hDe b hb).1 e)) (Rh.1 hD)) (λx hx=>by obtain⟨e,he1,rfl⟩:=dF.1 hx;exact dF.2 ⟨e,(hDe e he1).1,rfl⟩)
   simpa using this
  have hmN:mm.toNat<=1:=by cases mm<;>decide
  have hks:=keysOf mm i;have hsn:(s.map (·.1)).Nodup:=(hs.map _).nodup_iff.2 hks;have hnew:∀x∈cs.map (·.d)++[m,dz,dy],x∉s0.map (·.1):=λx hx h=>hkn.2.2 x h x hx rfl;have hdN:=vQ.1 hkn.2.1;by_cases hdone:mm=true/\i=cs.length/\∀e∈es,e∈D
  ·obtain⟨rfl,rfl,hall⟩:=hdone;have hgt:gc=true:=by
    rcases hgc with h|⟨h,_⟩
    ·exact h
    ·simp at h
   subst hgt
   have hzR:z∈p.ready E:=nW.2 ⟨hok.lt z s_,hzE,λq hq1=>by
    have:=hok.zp.2 q hq1;simp only[cS,cG]at this;rcases this with rfl|h|h|h
    ·exact h0E.2 rfl
    ·exact(hE q).2 (.inl h)
    ·obtain⟨j,hj,rfl⟩:=CU h;simp only[aP]at hj;simp only[zL];exact(hcE j hj).2 hj
    ·obtain⟨e,h1,rfl⟩:=dF.1 h
     exact(heE e h1).2 (hall e h1)⟩
   have hRz:∀k∈p.ready E,k=z:=λk hk=>by
    have h1:=nW.1 hk;rcases hok.all k h1.1 with h|h|h|h|h|h
    ·exact(h1.2.1 ((hE k).2 (.inl h))).elim
    ·exact(h1.2.1 (h ▸ h0E.2 rfl)).elim
    ·obtain⟨j,hj,rfl⟩:=CU h;simp only[aP]at hj;simp only[zL]at h1;exact(h1.2.1 ((hcE j hj).2 hj)).elim
    ·obtain⟨e,h3,rfl⟩:=dF.1 h;exact(h1.2.1 ((heE e h3).2 (hall e h3))).elim
    ·exact h
    ·exact(hyR (h ▸ hk)).elim
   have hfz:(p.ready E).find? p.quiet=some z:=by
    cases h:(p.ready E).find? p.quiet with
    |none=>have:=Eb.1 h z hzR;rw[hok.qz]at this;simp at this
    |some k=>rw[hRz k (Mg h)]
   have hDlen:D.length=es.length:=Nat.le_antisymm hDl (by
    have:(es.map (·.i)).length<=(D.map (·.i)).length:=xY heN (λx hx=>by obtain⟨e,he1,rfl⟩:=dF.1 hx;exact dF.2 ⟨e,hall e he1,rfl⟩)
    simpa using this)
   obtain⟨n,rfl⟩:∃n',n=n'+2:=⟨n-2,by simp only[Bool.toNat_true]at hn;omega⟩
   have hgm:bA s m=.mp T0.length:=Cn hsn (hs.mem_iff.2 s_);rw[vU,hfz];have hopz:cE (plT T0 vs true D) (dW G s) (.mov (.tmp m))=some (.mp T0.length,plT T0 vs true D):=by simp only[cE,dW,hgm]
   simp only[hz,fY,hopz,fV];have hEz:∀k∈p.ready (z::E),k=y:=λk hk=>by
    have h1:=nW.1 hk;simp only[cS,not_or]at h1;rcases hok.all k h1.1 with h|h|h|h|h|h
    ·exact(h1.2.1.2 ((hE k).2 (.inl h))).elim
    ·exact(h1.2.1.2 (h ▸ h0E.2 rfl)).elim
    ·obtain⟨j,hj,rfl⟩:=CU h;simp only[aP]at hj;simp only[zL]at h1;exact(h1.2.1.2 ((hcE j hj).2 hj)).elim
    ·obtain⟨e,h3,rfl⟩:=dF.1 h;exact(h1.2.1.2 ((heE e h3).2 (hall e h3))).elim
    ·exact(h1.2.1.1 h).elim
    ·exact h
   have hyE:y∉E:=λh=>by
    rcases(hE y).1 h with h|⟨_,h⟩|h|h
    ·exact hQ y h y s_ rfl
    ·exact h0y h.symm
    ·exact hym (cG.2 (.inl (C8 h)))
    ·obtain⟨e,h1,h2⟩:=dF.1 h;exact hym (cG.2 (.inr (dF.2 ⟨e,(hDe e h1).1,h2⟩)))
   have hyz:y∈p.ready (z::E):=nW.2 ⟨hok.lt y s_,by simp only[cS,not_or];exact⟨λh=>hzy h.symm,hyE⟩,λq hq1=>by
    have:=hok.yp.2 q hq1;simp only[cS,cG]at this⊢;rcases this with rfl|rfl|h|h|h
    ·exact .inl rfl
    ·exact .inr (h0E.2 rfl)
    ·exact .inr ((hE q).2 (.inl h))
    ·obtain⟨j,hj,rfl⟩:=CU h;simp only[aP]at hj;simp only[zL];exact .inr ((hcE j hj).2 hj)
    ·obtain⟨e,h1,rfl⟩:=dF.1 h
     exact .inr ((heE e h1).2 (hall e h1))⟩
   have hfy:(p.ready (z::E)).find? p.quiet=none:=Eb.2 λk hk=>by rw[hEz k hk,hok.qn y s_];simp
   have hdzs:dz∉s.map (·.1):=λh=>by
    have:=(hs.map (·.1)).mem_iff.1 h;simp only[Qp,bZ,cG,rI]at this;rcases this with h|h|h
    ·exact hnew dz s_ h
    ·obtain⟨c,h1,h2⟩:=dF.1 h;exact hdN.2.2 c.d (dF.2 ⟨c,C8 h1,rfl⟩) dz s_ h2
    ·simp at h;have:=hdN.2.1;simp[h]at this
   have hdys:dy∉s.map (·.1):=λh=>by
    have:=(hs.map (·.1)).mem_iff.1 h;simp only[Qp,bZ,cG,rI]at this;rcases this with h|h|h
    ·exact hnew dy s_ h
    ·obtain⟨c,h1,h2⟩:=dF.1 h;exact hdN.2.2 c.d (dF.2 ⟨c,C8 h1,rfl⟩) dy s_ h2
    ·simp at h;have:=hdN.2.1;simp[h]at this
   have hzyd:dz≠dy:=by have:=hdN.2.1;simp at this;exact this.2
   have hs1:GW s dz (.mp T0.length)=(dz,.mp T0.length)::s:=by simp only[GW,Ix hdzs]
   rw[hs1,vU,hfy];have hXl:(D.map λe=>(e.k,vs e.s)).Perm (es.map λe=>(e.k,vs e.s)):=by
    apply List.Perm.map _
    exact(aBH hD (by
     refine Rh.2 (TU (λ{a b} ha hb hab e=>hab (congrArg IE.i e)) (Mh.1 (Rh.1 heN)))
     )).2 λe=>⟨λh=>(hDe e h).1,hall e⟩
   generalize hX:(D.map λe=>(e.k,vs e.s))=X at *
   have hTX:plT T0 vs true D=T0++[some (MP X)]:=by simp only[plT,hX,if_true]
   rw[hTX];have hgX:cR (T0++[some (MP X)]) T0.length=some (MP X):=by simp[cR]
   have hopy:cE (T0++[some (MP X)]) (dW G ((dz,.mp T0.length)::s)) (.rgm (.tmp dz))=some (.ptr (T0.length+1) 0,T0++[some (MP X),some (.mit (some T0.length) X.length [] X.length)]):=by
    have h1:dW G ((dz,.mp T0.length)::s) (.tmp dz)=.mp T0.length:=by simp only[dW,bA,if_true]
    simp only[cE,h1,hgX];simp only[MP,dZ,sE,gQ,eB,jC,dM,pQ]
   have last:∀gc',vU P G p (n+1) (true||gc') (y::z::E) ⟨r0,(dy,.ptr (T0.length+1) 0)::(dz,.mp T0.length)::s,T0++[some (MP X),some (.mit (some T0.length) X.length [] X.length)]⟩ K:=λgc'=>by
    have hr0:p.ready (y::z::E)=[]:=by
     refine TS.2 λk hk=>?_;have h1:=nW.1 hk;simp only[cS,not_or]at h1;rcases hok.all k h1.1 with h|h|h|h|h|h
     ·exact(h1.2.1.2.2 ((hE k).2 (.inl h))).elim
     ·exact(h1.2.1.2.2 (h ▸ h0E.2 rfl)).elim
     ·obtain⟨j,hj,rfl⟩:=CU h;simp only[aP]at hj;simp only[zL]at h1;exact(h1.2.1.2.2 ((hcE j hj).2 hj)).elim
     ·obtain⟨e,h3,rfl⟩:=dF.1 h;exact(h1.2.1.2.2 ((heE e h3).2 (hall e h3))).elim
     ·exact(h1.2.1.2.1 h).elim
     ·exact(h1.2.1.1 h).elim
    rw[vU,hr0];simp only[List.find?_nil,EI,if_true];have hpm:=((hs.cons (dz,AV.mp T0.length)).cons (dy,AV.ptr (T0.length+1) 0))
    have hn2:(((dy,AV.ptr (T0.length+1) 0)::(dz,AV.mp T0.length)::s).map (·.1)).Nodup:=by simp only[fG,BU,cS,not_or];exact⟨⟨λh=>hzyd h.symm,hdys⟩,hdzs,hsn⟩
    rw[US hn2 hpm];exact hK X hXl
   cases hR:p.ready (z::E) with
   |nil=>rw[hR]at hyz;simp at hyz
   | cons c cs'=>
    simp only;intro k hk;have hky:=hEz k (by rw[hR];exact hk);subst hky;refine⟨_,hy,?_⟩;simp only[fY,yF,hopy,fV,iE,jJ,if_false];have hs2:GW ((dz,AV.mp T0.length)::s) dy (.ptr (T0.length+1) 0)=(dy,.ptr (T0.length+1) 0)::(dz,.mp T0.length)::s:=by simp only[GW];rw[Ix];simp only[fG,cS,not_or];exact⟨λh=>hzyd h.symm,hdys⟩
    rw[hs2];refine⟨SX λo ho=>?_,last _⟩;obtain⟨q,hq1,hq2,hq3,hq4⟩:=UT ho;refine hq _ _ (λx hx=>?_) (λj hj=>getT_app _ _ j hj) q ?_ o hq4
    ·have e1:dy≠x:=λe=>hnew dy s_ (e ▸ hx);have e2:dz≠x:=λe=>hnew dz s_ (e ▸ hx);simp only[bA,e1,e2,if_false];exact hgS s true cs.length hs x hx
    ·rcases cS.1 hq1 with e|h
     ·rw[e,hok.qn k s_]at hq2;simp at hq2
     ·rcases cS.1 h with e|h
      ·exact(hq3 k s_ (hok.qn k s_) (e ▸ hok.yp.1)).elim
      ·exact hqn q hq2 h
  ·have hfn:(p.ready E).find? p.quiet=none:=Eb.2 λk hk=>by
    have h1:=nW.1 hk;rcases hok.all k h1.1 with h|h|h|h|h|h
    ·exact(h1.2.1 ((hE k).2 (.inl h))).elim
    ·rw[h,hok.qn 0 s_];simp
    ·rw[hok.qn k (by simp only[cS,cG];exact .inr (.inr (.inl h)))];simp
    ·rw[hok.qn k (by simp only[cS,cG];exact .inr (.inr (.inr h)))];simp
    ·exfalso;subst h;have h2:=λq hq1=>h1.2.2 q (hok.zp.1 q hq1);refine hdone ⟨h0E.1 (h2 0 s_),?_,λe he1=>(heE e he1).1 (h2 e.i (by simp only[cS,cG];exact .inr (.inr (dF.2 ⟨e,he1,rfl⟩))))⟩;have h3:cs.length-1<i:=(hcE (cs.length-1) o_).1 (h2 _ (by simp only[cS,cG];exact .inr (.inl (hcmem _ _))));omega
    ·exact(hyR (h ▸ hk)).elim
   have hr0:mm=false->0∈p.ready E:=λh=>nW.2 ⟨hok.lt 0 s_,λh2=>by rw[h0E,h]at h2;simp at h2,λq hq1=>(hE q).2 (.inl (hok.mp q hq1))⟩
   have hrc:∀hi2:i<cs.length,cs[i].i∈p.ready E:=λhi2=>nW.2 ⟨hok.lt _ (by simp only[cS,cG];exact .inr (.inr (.inr (.inl (hcmem i hi2))))),λh2=>by have:=(hcE i hi2).1 h2;omega,λq hq1=>by
    have:=(hok.cp i (by simpa using hi2)).2 q (by rw[hgetI i hi2];exact hq1);rcases cG.1 this with h|h
    ·exact(hE q).2 (.inl h)
    ·exact(hE q).2 (.inr (.inr (.inl h)))⟩
   rw[vU,hfn]
   cases hR:p.ready E with
   | nil=>
    exfalso;rw[hR]at hr0 hrc
    cases mm with
    |false=>exact absurd (hr0 rfl) s_
    | true=>
     by_cases hi2:i<cs.length
     ·exact absurd (hrc hi2) s_
     ·have hie:i=cs.length:=o_;refine hdone ⟨rfl,hie,λe he1=>?_⟩;refine QB λhne=>?_;have h1:=hok.ep e he1
      have:e.i∈p.ready E:=nW.2 ⟨hok.lt _ (by simp only[cS,cG];exact .inr (.inr (.inr (.inr (dF.2 ⟨e,he1,rfl⟩))))),λh2=>hne ((heE e he1).1 h2),λq hq1=>by
       have:=h1.2.2.2 q hq1;simp only[cS,cG]at this;rcases this with rfl|h|h
       ·exact h0E.2 rfl
       ·exact(hE q).2 (.inl h)
       ·refine(hE q).2 (.inr (.inr (.inl ?_)));rw[hie,sG s_]
        exact C8 h⟩
      rw[hR]at this;simp at this
   | cons c cs'=>
    simp only;have hgc':(gc||!cs'.isEmpty)=true:=by
     rcases hgc with h|⟨h1,h2⟩
     ·rw[h];rfl
     ·have ha:=hr0 h1;have hb:=hrc o_;rw[hR]at ha hb
      cases cs' with
      |cons _ _=>simp
      |nil=>
       exfalso;simp only[cA]at ha hb;exact h0m (cG.2 (.inl (by rw[ha,<-hb];exact hcmem _ _)))
    intro k hk;have h1:=nW.1 (show k∈p.ready E by rw[hR];exact hk);have hTg:∀(R:aK) j,j<T0.length->cR (T0++R) j=cR T0 j:=λR j hj=>getT_app T0 R j hj;rcases hok.all k h1.1 with h|h|h|h|h|h
    ·exact(h1.2.1 ((hE k).2 (.inl h))).elim
    ·
     subst h;have hmf:mm=false:=by
      cases mm with
      |false=>rfl
      |true=>exact(h1.2.1 (h0E.2 rfl)).elim
     subst hmf;have hD0:D=[]:=TS.2 λe h=>by have:=(hDe e h).2.2;simp at this
     subst hD0;refine⟨_,h0,?_⟩;have hms:m∉s.map (·.1):=λh=>by
      have:=(hs.map (·.1)).mem_iff.1 h;simp only[Qp,bZ,cG,rI]at this;rcases this with h|h|h
      ·exact hnew m s_ h
      ·obtain⟨c,h1,h2⟩:=dF.1 h;exact hdN.2.2 c.d (dF.2 ⟨c,C8 h1,rfl⟩) m s_ h2
      ·simp at h
     simp only[fY,yF,aFo,fV,iE,jJ,if_false];have hT:(plT T0 vs false [])=T0:=by simp[plT]
     have hs1:GW s m (.mp T0.length)=(m,.mp T0.length)::s:=by simp only[GW,Ix hms]
     rw[hT,hs1];have hp2:((m,AV.mp T0.length)::s).Perm (Qp m cs s0 T0.length vs true i):=by refine(hs.cons _).trans ?_;simp only[Qp,jJ,if_false,jO,if_true,<-eB];exact(List.perm_append_singleton _ _).symm
     refine⟨chk 0 _ _ (hok.qn 0 s_) (hgS _ true i hp2) (hTg _),?_⟩;have:=ih (gc||!cs'.isEmpty) true i [] (0::E) _ hi Mm (λe h=>by simp at h) hp2 (λq=>?_) (.inl hgc') ?_
     ·simpa[plT]using this
     ·rw[cS,hE];simp only[jJ,false_and,false_or,true_and];constructor
      ·rintro(h|h|h)
       ·exact .inr (.inl h)
       ·exact .inl h
       ·exact .inr (.inr h)
      ·rintro(h|h|h)
       ·exact .inr (.inl h)
       ·exact .inl h
       ·exact .inr (.inr h)
     ·simp only[Bool.toNat_true,Bool.toNat_false]at hn⊢;omega
    ·
     obtain⟨j,hj,rfl⟩:=CU h;simp only[aP]at hj;simp only[zL]at h1 hk⊢;have hji:j=i:=by
      have h2:=hok.cp j kh;have h3:¬j<i:=λh=>h1.2.1 ((hcE j hj).2 h);rcases h2.1 with h4|h4
      ·omega
      ·have h5:=h1.2.2 _ (by rw[hgetI j hj]at h4;exact h4);rw[hgetI (j-1) o_]at h5;have:=(hcE (j-1) o_).1 h5;omega
     subst hji;refine⟨_,hc cs[j] (eQ hj),?_⟩;simp only[fY,yF,dW,fnA,jO];apply hcall cs[j] (eQ hj) s _ _ (hgS s mm j hs);have hcs1:cs[j].d∉s.map (·.1):=λh=>by
      have:=(hs.map (·.1)).mem_iff.1 h;simp only[Qp,bZ,cG,rI]at this;have hdn:(cs.map (·.d)).Nodup:=hdN.1;rcases this with h|h|h
      ·exact hnew _ (cG.2 (.inl (dF.2 ⟨_,eQ hj,rfl⟩))) h
      ·obtain⟨c,h3,h4⟩:=dF.1 h;obtain⟨k,hk2,rfl⟩:=TT.1 h3;have:=(C9 (h₀:=c_) (h₁:=kh) hdn).1 (show(cs.map (·.d))[k]'c_=(cs.map (·.d))[j]'kh by simpa using h4);omega
      ·cases mm with
       |false=>simp at h
       |true=>
        simp at h;exact hdN.2.2 cs[j].d (dF.2 ⟨_,eQ hj,rfl⟩) m s_ h
     have hp2:((cs[j].d,AV.v (.bool (vs cs[j].d)))::s).Perm (Qp m cs s0 T0.length vs mm (j+1)):=by refine(hs.cons _).trans ?_;simp only[Qp];rw[lB hj,bZ,fG,uP,eB];refine(YJ (l₁:=s0)).symm.trans (YB _ ?_);exact(YJ (a:=(cs[j].d,AV.v (.bool (vs cs[j].d)))) (l₁:=(cs.take j).map λc=>(c.d,AV.v (.bool (vs c.d))))).symm
     have hs1:fV s (some cs[j].d) (.v (.bool (vs cs[j].d)))=(cs[j].d,.v (.bool (vs cs[j].d)))::s:=by simp only[fV,GW,Ix hcs1]
     rw[hs1];simp only[iE,jJ,if_false];have hqk:=hok.qn cs[j].i (by simp only[cS,cG];exact .inr (.inr (.inl (hcmem j hj))));refine⟨chk _ _ _ hqk (hgS _ mm (j+1) hp2) (hTg _),?_⟩;refine ih (gc||!cs'.isEmpty) mm (j+1) D (cs[j].i::E) _ hj hD (λe h=>by have:=hDe e h;exact⟨this.1,o_,this.2.2⟩) hp2 (λq=>?_) (.inl hgc') o_;rw[cS,hE,lB kh];simp only[cG,cA,zL];constructor
     ·rintro(h|h|h|h|h)
      ·exact .inr (.inr (.inl (.inr h)))
      ·exact .inl h
      ·exact .inr (.inl h)
      ·exact .inr (.inr (.inl (.inl h)))
      ·exact .inr (.inr (.inr h))
     ·rintro(h|h|(h|h)|h)
      ·exact .inr (.inl h)
      ·exact .inr (.inr (.inl h))
      ·exact .inr (.inr (.inr (.inl h)))
      ·exact .inl h
      ·exact .inr (.inr (.inr (.inr h)))
    ·
     obtain⟨e,he1,rfl⟩:=dF.1 h;have h2:=hok.ep e he1;have hmt:mm=true:=h0E.1 (h1.2.2 0 h2.2.1);subst hmt;have hni:e.n<=i:=by
      rcases h2.2.2.1 with h3|h3
      ·omega
      ·rcases JX e.n with h5|h5
       ·omega
       have h4:=h1.2.2 _ h3;have hlt:e.n-1<cs.length:=by have:=h2.1;simp at this;omega
       rw[hgetI _ hlt]at h4;have:=(hcE _ hlt).1 h4;omega
     have hnD:e∉D:=λh=>h1.2.1 ((heE e he1).2 h);refine⟨_,he e he1,?_⟩;have hgm:bA s m=.mp T0.length:=Cn hsn (hs.mem_iff.2 s_);have hgv:bA s e.s=.v (.bool (vs e.s)):=by
      rcases hval e he1 with⟨h3,h4⟩|⟨c,h3,h4,h5⟩
      ·rw[hgS s true i hs e.s h3,h4]
      ·refine Cn hsn (hs.mem_iff.2 ?_);obtain⟨hlt,rfl⟩:=sV.1 h3;simp only[Qp,cG,dF];exact .inr (.inl ⟨cs[e.n-1],TT.2 ⟨e.n-1,o_,rfl⟩,by rw[h5]⟩)
     have hkn:e.k∉(D.map λe=>(e.k,vs e.s)).map (·.1):=λh=>by
      simp only[rI,dF,Function.comp]at h;obtain⟨e',h3,h4⟩:=h;apply hnD;have h6:e'=e:=by obtain⟨ia,hia,rfl⟩:=CU (hDe e' h3).1;obtain⟨ib,hib,rfl⟩:=CU he1;have:=(C9 (h₀:=by simpa using hia) (h₁:=by simpa using hib) hek).1 (by simpa using h4);subst this;rfl
      rw[<-h6];exact h3
     have hT0:T0++[some (MP (D.map λe:IE=>(e.k,vs e.s)))]=(T0++[none]).set T0.length (some (MP (D.map λe:IE=>(e.k,vs e.s)))):=by rw[UU]
     have hstep:=Yp (T:=T0++[none]) (i:=T0.length) s_ (ev:=dW G s) (m:=m) (D:=D.map λe:IE=>(e.k,vs e.s)) (e:=(e.k,e.s,vs e.s)) (by simp only[dW,hgm]) rfl (by simp only[dW,hgv]) hkn;have hpT:plT T0 vs true D=(T0++[none]).set T0.length (some (MP (D.map λe:IE=>(e.k,vs e.s)))):=by simp only[plT,if_true,hT0]
     rw[hpT];simp only[fY,yF,hstep,fV,iE,jJ,if_false];rw[UU];have hqk:=hok.qn e.i (by simp only[cS,cG];exact .inr (.inr (.inr (dF.2 ⟨e,he1,rfl⟩))));refine⟨chk _ _ _ hqk (hgS _ true i hs) (hTg _),?_⟩
     have:=ih (gc||!cs'.isEmpty) true i (D++[e]) (e.i::E) s hi (vQ.2 ⟨hD,s_,λa ha b hb hab=>by rw[cA]at hb;subst hb;subst hab;exact hnD ha⟩) (λx hx=>by
      rcases cG.1 hx with h|h
      ·exact hDe x h
      ·rw[cA]at h;subst h;exact⟨he1,hni,rfl⟩) hs (λq=>?_) (.inl hgc') (by simp only[dZ,sE,gQ];omega)
     ·simpa[plT]using this
     ·rw[cS,hE];simp only[bZ,fG,uP,cG,cA];constructor
      ·rintro(h|h|h|h|h)
       ·exact .inr (.inr (.inr (.inr h)))
       ·exact .inl h
       ·exact .inr (.inl h)
       ·exact .inr (.inr (.inl h))
       ·exact .inr (.inr (.inr (.inl h)))
      ·rintro(h|h|h|h|h)
       ·exact .inr (.inl h)
       ·exact .inr (.inr (.inl h))
       ·exact .inr (.inr (.inr (.inl h)))
       ·exact .inr (.inr (.inr (.inr h)))
       ·exact .inl h
    ·exfalso;have:=Eb.1 hfn k (by rw[hR];exact hk);rw[h,hok.qz]at this;simp at this
    ·exact(hyR (h ▸ (by rw[hR];exact hk))).elim
end
def aFp{P:Program}{G:L_}{a:List HOper}{b:List V_}{n:Nat}{c:Bool}{E:V_}{st:St}{K:St->Prop}(h:∀p:Plan,p=⟨a,b⟩->vU P G p n c E st K):@hdC P G (.plan a b n c E) st ⟨K⟩:=h _ rfl
def Qq(p:Nat×AV):∀l:List (Nat×AV),(LG p l).Perm (p::l)|[]=>by simp[LG]|q::l=>by simp only[LG];split;rfl;exact((Qq p l).cons q).trans (List.Perm.swap p q l)
def UV:∀l:List (Nat×AV),(sA l).Perm l|[]=>List.Perm.refl _|p::l=>(Qq p _).trans ((UV l).cons p)
def aAw{P:Program}{G:L_}{a b c:HC}{st:St}{Q:Ex->St->Prop}(h:@cW P G (.seq (.seq a b) c) st ⟨Q⟩):@cW P G (.seq a (.seq b c)) st ⟨Q⟩:=by
 simp only[bC]at h⊢;refine oN (λe s d=>?_) h
 cases e with
 |normal=>simp only[aHy]at d⊢;rw[bC];exact d|exit i=>simp only[aHz]at d⊢;exact d|ret=>simp only[aHA]at d⊢;exact d
end Hud
namespace Hud
set_option maxRecDepth 99999
open Go
def BZ:=eVf (cF kO [])
def wK:=eVf (cF eE [])
def sT:=eVf (cF iA [])
def vT:=eVf (cF kP [(2,some 0,1)])
end Hud
namespace Hud
set_option maxRecDepth 99999
open Go
def aLM:=eVf (cF aEV [(3,some 2,35)])
def aLN:=eVf (cF aFc [])
def aLY:=eVf (cF aJG [(26,none,1000)])
def aLZ:=eVf (cF aCZ [])
def aK5:=eVf (cF aIz [])
def aLO:=eVf (cF aJc [])
end Hud
