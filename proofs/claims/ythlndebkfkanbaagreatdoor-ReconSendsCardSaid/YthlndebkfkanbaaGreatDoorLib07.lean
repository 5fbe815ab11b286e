import Derived.Test.YthlndebkfkanbaaGreatDoorLib06
set_option linter.all false
namespace Hud
open Go
section
open Classical in
noncomputable def shutG (h:GH) (φ:Nat→Value) (i:Nat) (w:World):GH:=λb =>
 if mC (φ i)=some b then (match w.heap[b]? with | some (.cells cs _ _)=>some cs | _=>none) else h b
section
variable {h:GH} {φ:Nat→Value} {T:aQ} {w:World} {i k:Nat} {es:List (List AV)}
def Nu (hI:Inv h φ w T) (hi:T[i]?=some (some (.arr k es))) {b:Nat} (hb:mC (φ i)=some b):∃ cs E,w.heap[b]?=some (.cells cs E (0,0))∧shutG h φ i w b=some cs:=by
 have:∃ cs E,w.heap[b]?=some (.cells cs E (0,0)):=by
  obtain ⟨_,⟨A,h1⟩ | ⟨g,c,cur,E,h1,h2,_⟩⟩:=hI.obj i _ hi
  ·rw [h1.1] at hb;simp [mC] at hb
  ·rw [h1] at hb;simp only [mC,Option.some.injEq] at hb;subst hb;exact ⟨cur,E,h2⟩
 obtain ⟨cs,E,hw⟩:=this;refine ⟨cs,E,hw,?_⟩;unfold shutG;rw [if_pos hb,hw]
def D9 {b:Nat} (hb:mC (φ i)≠some b):shutG h φ i w b=h b:=by unfold shutG;rw [if_neg hb]
def As (hI:Inv h φ w T) (hi:T[i]?=some (some (.arr k es))):Ad h (shutG h φ i w):=by
 intro b cs e;rw [D9]
 ·exact e
 ·intro hb;have:=(gM (hI.obj i _ hi) hb).2;rw [e] at this;simp at this
def Hc (hI:Inv h φ w T) (hi:T[i]?=some (some (.arr k es))):(∃ A,φ i=.slice A 0 0∧es=[])∨∃ g c,φ i=.slice (some ⟨g,0,none⟩) es.length c∧es.length≤c∧c≤maxLen∧iY (shutG h φ i w) g k es 0:=by
 obtain ⟨hl,h1 | ⟨g,c,cur,E,hφ,hw,h2,h3,h4,h5,h6⟩⟩:=hI.obj i _ hi
 ·exact .inl h1
 ·refine .inr ⟨g,c+1,hφ,h2,h3,?_⟩;obtain ⟨cs',E',hw',hlent⟩:=Nu hI hi (b:=g) (by rw [hφ];rfl);rw [hw] at hw';injection hw' with hw';injection hw' with hw';subst hw';refine iY.of_list (h6.mono (As hI hi)) hl λj v hj=>?_;unfold nZ;rw [hlent];rw [AI] at hj;split at hj
  ·simpa using hj
  ·simp at hj
mutual
def Oz (hI:Inv h φ w T) (hi:T[i]?=some (some (.arr k es))) {n:Nat}:∀ {x:AV} {u:Value},Rp h φ n x u→Rp (shutG h φ i w) φ n (HK i k es x) u
 | .v _,_,e=>by simpa [Rp,HK] using e
 | .ls _ _,_,e=>by simp only [Rp,HK] at *;exact e.mono (As hI hi)
 | .ag cs,_,e=>by simp only [Rp,HK] at *;obtain ⟨us,h1,h2⟩:=e;exact ⟨us,h1,Cx hI hi h2⟩
 | .own j,u,e=>by
  simp only [HK];split
  ·rename_i hj;subst hj;simp only [Rp] at e;simp only [Rp,mB];rcases Hc hI hi with ⟨A,h1,h2⟩ | ⟨g,c,h1,h2,h3,h4⟩
   ·exact ⟨A,0,by rw [e.2.1,h1,h2];rfl,by rw [h2];simp,by simp,.inl h2⟩
   ·exact ⟨_,c,by rw [e.2.1,h1],h2,h3,.inr ⟨g,0,rfl,h4⟩⟩
  ·simpa only [Rp] using e
 | .ptr j o,u,e=>by simpa only [Rp,HK] using e
 | .mp j,u,e=>by simpa only [Rp,HK] using e
 | .yl j,u,e=>by simpa only [Rp,HK] using e
 | .elt j k' m off,u,e=>by
  simp only [HK];split
  ·rename_i hj;subst hj;split
   ·rename_i hk;subst hk;split
    ·rename_i d hd;simp only [Rp] at e ⊢;obtain ⟨_,g,l,c,hφ,hu⟩:=e;rcases Hc hI hi with ⟨A,h1,h2⟩ | ⟨g',c',h1,h2,h3,h4⟩
     ·rw [h2] at hd;simp at hd
     ·rw [hφ] at h1;injection h1 with e1 e2 e3;injection e1 with e1;injection e1 with e1;subst e1;obtain ⟨_,h5⟩:=h4.get hd;exact ⟨g,m*k'+off,hu,by simpa using h5.drop off⟩
    ·simp [Rp]
   ·simp [Rp]
  ·simpa only [Rp] using e
 | .vw j k' lo m,u,e=>by
  simp only [HK];split
  ·rename_i hj;subst hj;split
   ·rename_i hk;obtain ⟨rfl,hlen⟩:=hk;simp only [Rp] at e;obtain ⟨_,A,c,hu,hmc,hcm,h0⟩:=e;have hln:((es.drop lo).take m).length=m:=by rw [hZ,tT];omega
    simp only [Rp,mB];refine ⟨A,c,by rw [hln];exact hu,by rw [hln];exact hmc,hcm,?_⟩;rcases h0 with rfl | ⟨g,l,c',hφ,rfl,hle⟩
    ·exact .inl (by simp)
    ·rcases Hc hI hi with ⟨A,h1,h2⟩ | ⟨g',c',h1,h2,h3,h4⟩
     ·subst h2;exact .inl (by simp)
     ·rw [hφ] at h1;injection h1 with e1 e2 e3;injection e1 with e1;injection e1 with e1;subst e1;exact .inr ⟨g,lo*k',rfl,by simpa using (h4.drop lo).take m⟩
   ·simp [Rp]
  ·simpa only [Rp] using e
 | .rp cs,u,e=>by
  simp only [Rp,HK] at *
  obtain ⟨b,o,h1,h2⟩:=e;exact ⟨b,o,h1,h2.mono (As hI hi)⟩
 | .cl f cs,_,e=>by simp only [Rp,HK] at *;obtain ⟨us,h1,h2⟩:=e;exact ⟨us,h1,Cx hI hi h2⟩
 | .bm f kk cs,_,e=>by simp only [Rp,HK] at *;obtain ⟨us,h1,h2⟩:=e;exact ⟨us,h1,Cx hI hi h2⟩
 | .tup cs,_,e=>by simp only [Rp,HK] at *;obtain ⟨us,h1,h2⟩:=e;exact ⟨us,h1,Cx hI hi h2⟩
 | .any,_,_=>by simp [Rp,HK]
def Cx (hI:Inv h φ w T) (hi:T[i]?=some (some (.arr k es))) {n:Nat}:∀ {cs:List AV} {us:List Value},bW h φ n cs us→bW (shutG h φ i w) φ n (Ib i k es cs) us
 | [],_,e=>by simpa [bW,Ib] using e
 | c::cs,us,e=>by
  simp only [bW,Ib] at *
  obtain ⟨u,us',h1,h2,h3⟩:=e;exact ⟨u,us',h1,Oz hI hi h2,Cx hI hi h3⟩
end
def Jq:∀ T:aQ,(QT i k es T).length=T.length
 | []=>rfl
 | _::r=>by simp [QT,Jq r]
def Vd:∀ {T:aQ} {j:Nat},(QT i k es T)[j]?=(T[j]?).map (λo=>Option.bind o (slO i k es))
 | [],j=>by simp [QT]
 | o::r,0=>by simp [QT]
 | o::r,j+1=>by simp only [QT,I8];exact Vd
def RL (hI:Inv h φ w T) (hi:T[i]?=some (some (.arr k es))):Inv (shutG h φ i w) φ w ((QT i k es T).set i none)∧Evo h φ T w (shutG h φ i w) φ ((QT i k es T).set i none) w:=by
 have get:∀ {j:Nat} {x:AObj},((QT i k es T).set i none)[j]?=some (some x)→j≠i∧∃ y,T[j]?=some (some y)∧slO i k es y=some x:=by
  intro j x e;rw [Ec] at e;split at e
  ·rename_i hh;split at e<;>simp at e
  ·rename_i hh;refine ⟨λh=>hh h.symm,?_⟩;rw [Vd] at e
   cases hT:T[j]? with
   | none=>rw [hT] at e;simp at e
   | some o =>
    rw [hT] at e
    cases o with
    | none=>simp at e
    | some y =>
     simp only [kZ,KQ,Option.some.injEq] at e;exact ⟨y,rfl,e⟩
 have hlen:((QT i k es T).set i none).length=T.length:=by rw [mA,Jq]
 have hg:=As hI hi;refine ⟨⟨?_,?_,?_⟩,⟨rfl,rfl,rfl,fW _,λ_ _ _=>rfl,hg,?_,λ_ _=>rfl,?_,by rw [hlen];exact fW _,fW _⟩⟩
 ·intro b cs e;by_cases hb:mC (φ i)=some b
  ·obtain ⟨cs',E,hw,hs⟩:=Nu hI hi hb;rw [hs] at e;injection e with e;subst e;exact ⟨E,_,hw⟩
  ·rw [D9 hb] at e;exact hI.gh b cs e
 ·intro j x e;obtain ⟨hne,y,hy,hx⟩:=get e;rw [hlen];have ho:=hI.obj j y hy;have hoff:∀ g,mC (φ j)=some g→shutG h φ i w g=h g:=λg hb=>D9 λhb'=>hne (hI.dis j i y _ g hy hi hb hb')
  cases y with
  | box cs =>
   simp only [slO,Option.some.injEq] at hx;subst hx;obtain ⟨g,us,E,e1,e2,e3,e4⟩:=ho;exact ⟨g,us,E,e1,e2,by rw [hoff g (by rw [e1];rfl)];exact e3,Cx hI hi e4⟩
  | arf k' es' =>
   simp only [slO] at hx;split at hx
   ·rename_i hone;injection hx with hx;subst hx;have hfl:∀ l:List (List AV),(slF i k es l).flatten=Ib i k es l.flatten:=by
     have app:∀ (a b:List AV),Ib i k es (a++b)=Ib i k es a++Ib i k es b:=by
      intro a b
      induction a with
      | nil=>rfl
      | cons c a ih=>simp [Ib,ih]
     intro l
     induction l with
     | nil=>rfl
     | cons e l ih=>simp only [slF,qP,ih,app]
    have hfn:∀ l:List (List AV),(slF i k es l).length=l.length:=by
     intro l
     induction l with
     | nil=>rfl
     | cons e l ih=>simp [slF,ih]
    have hfe:∀ (l:List (List AV)) (d:List AV),d∈slF i k es l→∃ e∈l,d.length=e.length:=by
     have hll:∀ cs:List AV,(Ib i k es cs).length=cs.length:=by
      intro cs
      induction cs with
      | nil=>rfl
      | cons c cs ih=>simp [Ib,ih]
     intro l
     induction l with
     | nil=>intro d hd;simp [slF] at hd
     | cons e l ih =>
      intro d hd;simp only [slF] at hd;rcases gK.1 hd with rfl | hd
      ·exact ⟨e,by simp,hll e⟩
      ·obtain ⟨e',h1,h2⟩:=ih d hd;exact ⟨e',by simp [h1],h2⟩
    obtain ⟨hl,h1⟩:=ho;refine ⟨λd hd=>?_,?_⟩
    ·obtain ⟨e',he',hle⟩:=hfe es' d hd;exact ⟨by rw [hle];exact (hl e' he').1,λc hc=>kY.1 (kY.1 hone d hd) c hc⟩
    ·rcases h1 with ⟨A,hA,rfl⟩ | ⟨g,c,cur,E,e1,e2,e3,e4,e5,e6,e7⟩
     ·exact .inl ⟨A,hA,rfl⟩
     ·exact .inr ⟨g,c,cur,E,by rw [hfn];exact e1,e2,by rw [hfn];exact e3,e4,e5,by rw [hoff g (by rw [e1];rfl)];exact e6,by rw [hfl,hfn];exact Cx hI hi e7⟩
   ·simp at hx
  | lp r s =>
   simp only [slO,Option.some.injEq] at hx;subst hx;have mem:∀ (l:List (Nat×AV)) (q:Nat×AV),q∈Ss i k es l→∃ x,(q.1,x)∈l∧q.2=HK i k es x:=by
    intro l
    induction l with
    | nil=>intro q hq;simp [Ss] at hq
    | cons p l ih =>
     intro q hq;obtain ⟨m,y⟩:=p;simp only [Ss] at hq;rcases gK.1 hq with rfl | hq
     ·exact ⟨y,by simp,rfl⟩
     ·obtain ⟨x,h1,h2⟩:=ih q hq;exact ⟨x,by simp [h1],h2⟩
   obtain ⟨g,e1,e2,e3,e4,e5⟩:=ho;refine ⟨g,e1,e2,by rw [hoff g (by rw [e1];rfl)];exact e3,λm x y hx hy=>?_,λp hp=>?_⟩
   ·obtain ⟨x',h1,h2⟩:=mem s _ hx;obtain ⟨y',h3,h4⟩:=mem s _ hy;simp only at h2 h4;rw [h2,h4,e4 m x' y' h1 h3]
   ·obtain ⟨x',h1,h2⟩:=mem s _ hp;rw [h2];exact Oz hI hi (e5 _ h1)
  | mit m since seen st =>
   simp only [slO,Option.some.injEq] at hx;subst hx;obtain ⟨g,mo,e1,e2,e3,e4⟩:=ho;exact ⟨g,mo,e1,e2,by rw [hoff g (by rw [e1];rfl)];exact e3,e4⟩
  | arr k' es' =>
   simp only [slO,Option.some.injEq] at hx;subst hx;obtain ⟨hl,h1 | ⟨g,c,cur,E,e1,e2,e3,e4,e5,e6,e7⟩⟩:=ho
   ·exact ⟨hl,.inl h1⟩
   ·exact ⟨hl,.inr ⟨g,c,cur,E,e1,e2,e3,e4,e5,by rw [hoff g (by rw [e1];rfl)];exact e6,e7.mono hg⟩⟩
  | map ag ks vs bs cl =>
   simp only [slO,Option.some.injEq] at hx;subst hx;obtain ⟨g,ens,e1,e2,e3,e4,e5,e6⟩:=ho;exact ⟨g,ens,e1,e2,by rw [hoff g (by rw [e1];rfl)];exact e3,e4,e5,Cx hI hi e6⟩
 ·intro j m oj om b ej em hj hm;obtain ⟨_,y,hy,_⟩:=get ej;obtain ⟨_,z,hz,_⟩:=get em;exact hI.dis j m y z b hy hz hj hm
 ·intro b cs e;by_cases hb:mC (φ i)=some b
  ·exact .inr (.inr ⟨i,_,hi,hb⟩)
  ·rw [D9 hb] at e;exact .inl e
 ·intro j o b e hb;obtain ⟨_,y,hy,_⟩:=get e;exact .inr ⟨j,y,hy,hb⟩
end
def Ve {i k:Nat} {es:List (List AV)} {q:Nat×AV} {l:List (Nat×AV)} (h:q∈Ss i k es l):∃ x,(q.1,x)∈l∧q.2=HK i k es x:=by
 induction l with
 | nil=>simp [Ss] at h
 | cons p l ih =>
  obtain ⟨j,y⟩:=p;simp only [Ss] at h;rcases gK.1 h with rfl | h
  ·exact ⟨y,by simp,rfl⟩
  ·obtain ⟨x,h1,h2⟩:=ih h;exact ⟨x,by simp [h1],h2⟩
def Jr {i k:Nat} {es:List (List AV)} {j:Nat}:∀ l:List (Nat×AV),aU (Ss i k es l) j=HK i k es (aU l j)
 | []=>by simp [Ss,aU,HK]
 | (m,x)::r=>by
  simp only [Ss,aU];split
  ·rfl
  ·exact Jr r
def SInv.shutI {P:Program} {G:Nat→Option (List AV)} {N:Nat} {h0:GH} {φ0:Nat→Value} {T0:aQ} {w0:World} {a:Act} {w:World} {st:St} (hS:SInv P G N h0 φ0 T0 w0 st a w) (i:Nat):SInv P G N h0 φ0 T0 w0 (shutI st i) a w:=by
 unfold Hud.shutI;split
 ·rename_i k es hg;obtain ⟨hr,honce,⟨h,φ,hG,hE,hI,hSl⟩,hsz,hdf⟩:=hS;obtain ⟨s1,s2⟩:=RL hI (bD hg);refine ⟨hr,?_,⟨_,φ,hG.mono (As hI (bD hg)),hE.trans s2,s1,λj=>?_⟩,hsz,hdf⟩
  ·intro j x y hx hy;obtain ⟨x',h1,h2⟩:=Ve hx;obtain ⟨y',h3,h4⟩:=Ve hy;simp only at h2 h4;rw [h2,h4,honce j x' y' h1 h3]
  ·show Rp _ φ ((QT i k es st.T).set i none).length (aU (Ss i k es st.s) j) _;rw [mA,Jq,Jr];exact Oz hI (bD hg) (hSl j)
 ·exact hS
def SInv.shut {P:Program} {G:Nat→Option (List AV)} {N:Nat} {h0:GH} {φ0:Nat→Value} {T0:aQ} {w0:World} {a:Act} {w:World} {st:St} (hS:SInv P G N h0 φ0 T0 w0 st a w) (j:Nat):SInv P G N h0 φ0 T0 w0 (yR [] (Kb st j)) a w:=by
 have:∀ (l:List Nat) (st:St),SInv P G N h0 φ0 T0 w0 st a w→SInv P G N h0 φ0 T0 w0 (Am st l) a w:=by
  intro l
  induction l with
  | nil=>intro st h;exact h
  | cons i r ih=>intro st h;exact ih _ (h.shutI i)
 exact Cw [] (this _ _ hS)
end
section
def Hd {T:aQ} {ev:Operand→AV} {o:HOp} (hq:fY o=true) {x:AV} {T':aQ} (h:bK T ev o=some (x,T')):T'=T:=by
 cases o<;>simp only [fY,jZ,reduceCtorEq] at hq<;>simp only [bK] at h<;>(repeat' split at h) <;>
  first
  | (simp only [Option.some.injEq,Prod.mk.injEq] at h;exact h.2.symm)
  | (simp at h;done)
def K1 {G:Nat→Option (List AV)} {s s':List (Nat×AV)} {x:Operand} (h:∀ t∈bC x,aU s t=aU s' t):bX G s x=bX G s' x:=by
 cases x<;>simp only [bX];exact h _ (by simp [bC])
def EC {T:aQ} {ev ev':Operand→AV} {o:HOp} (h:∀ x,(∀ t∈bC x,t∈nI o)→ev x=ev' x):bK T ev o=bK T ev' o:=by
 have hps:∀ (ps:List (Nat×Nat×Operand)),(∀ t∈ps.flatMap (λp=>bC p.2.2),t∈nI o)→(ps.map λp=>(p.1,p.2.1,ev p.2.2))=ps.map λp=>(p.1,p.2.1,ev' p.2.2):=by
  intro ps hp;refine Mt λp hm=>?_;rw [h p.2.2 λt ht=>hp t (Na.2 ⟨p,hm,ht⟩)]
 cases o
 case bld z ps=>simp only [bK];rw [hps ps λt ht=>ht]
 case bsl k z ps n=>simp only [bK];rw [hps ps λt ht=>ht]
 case bslS k z ps n =>
  have h1:(ps.map λp=>ev p.2.2)=ps.map λp=>ev' p.2.2:=Mt λp hm=>h p.2.2 λt ht=>Na.2 ⟨p,hm,ht⟩;have h2:(ps.map λp=>(p.1,p.2.1,rY T (iI (ps.map λp=>ev p.2.2)) (ev p.2.2)))=ps.map λp=>(p.1,p.2.1,rY T (iI (ps.map λp=>ev p.2.2)) (ev' p.2.2)):=Mt λp hm=>by rw [h p.2.2 λt ht=>Na.2 ⟨p,hm,ht⟩]
  simp only [bK];rw [h2,h1]
 case clo f cs=>simp only [bK];rw [Mt λc hc=>h c λt ht=>Na.2 ⟨c,hc,ht⟩]
 case alloc=>rfl
 case mkm=>rfl
 case lku ag ls z m k ok=>simp only [bK];rw [h m (by simp_all [nI]),h k (by simp_all [nI])]
 case mup ag ls m k x=>simp only [bK];rw [h m (by simp_all [nI]),h k (by simp_all [nI]),h x (by simp_all [nI])]
 case men ag ls z m k=>simp only [bK];rw [h m (by simp_all [nI]),h k (by simp_all [nI])]
 case mst m k x=>simp only [bK];rw [h m (by simp_all [nI]),h k (by simp_all [nI]),h x (by simp_all [nI])]
 case del ag ls m k=>simp only [bK];rw [h m (by simp_all [nI]),h k (by simp_all [nI])]
 case lenM m=>simp only [bK];rw [h m (by simp_all [nI])]
 case mks k z b x y=>simp only [bK];rw [h x (by simp_all [nI]),h y (by simp_all [nI])]
 case s2b x=>simp only [bK];rw [h x (by simp_all [nI])]
 case b2s x=>simp only [bK];rw [h x (by simp_all [nI])]
 case b2b x=>simp only [bK];rw [h x (by simp_all [nI])]
 case apS x y=>simp only [bK];rw [h x (by simp_all [nI]),h y (by simp_all [nI])]
 case slx x lo hi mx k =>
  simp only [bK];rw [h x (by simp_all [nI]),h hi (by simp_all [nI]),h mx (by simp_all [nI])];cases lo<;>simp only<;>(try rw [h _ (by simp_all [nI])])
 case call=>rfl
 case nxt=>rfl
 case bad=>rfl
 case bmo f k cs=>simp only [bK];rw [Mt λc hc=>h c λt ht=>Na.2 ⟨c,hc,ht⟩]
 case rgm m=>simp only [bK];rw [h m (by simp_all [nI])]
 case ent m=>simp only [bK];rw [h m (by simp_all [nI])]
 case clr x k z=>simp only [bK];rw [h x (by simp_all [nI])]
 case pick c a b=>simp only [bK];rw [h c (by simp_all [nI]),h a (by simp_all [nI]),h b (by simp_all [nI])]
 case mov x=>simp only [bK];rw [h x (by simp_all [nI])]
 case un u x=>simp only [bK];rw [h x (by simp_all [nI])]
 case conv k x=>simp only [bK];rw [h x (by simp_all [nI])]
 case box x=>simp only [bK];rw [h x (by simp_all [nI])]
 case ld n x=>simp only [bK];rw [h x (by simp_all [nI])]
 case fad x n=>simp only [bK];rw [h x (by simp_all [nI])]
 case fld x n k=>simp only [bK];rw [h x (by simp_all [nI])]
 case lenS x=>simp only [bK];rw [h x (by simp_all [nI])]
 case lenL x=>simp only [bK];rw [h x (by simp_all [nI])]
 case ext x i=>simp only [bK];rw [h x (by simp_all [nI])]
 case nilc x=>simp only [bK];rw [h x (by simp_all [nI])]
 case nilS n kd x=>simp only [bK];rw [h x (by simp_all [nI])]
 case mm n x y=>simp only [bK];rw [h x (by simp_all [nI]),h y (by simp_all [nI])]
 case slc x lo hi k =>
  simp only [bK];rw [h x (by simp_all [nI])];cases lo<;>cases hi<;>simp only<;>(try rw [h _ (by simp_all [nI])])<;>(try rw [h _ (by simp_all [nI])])
 case slcS x lo hi =>
  simp only [bK];rw [h x (by simp_all [nI])];cases lo<;>cases hi<;>simp only<;>(try rw [h _ (by simp_all [nI])])<;>(try rw [h _ (by simp_all [nI])])
 case bin op x y=>simp only [bK];rw [h x (by simp_all [nI]),h y (by simp_all [nI])]
 case eqa n ks x y=>simp only [bK];rw [h x (by simp_all [nI]),h y (by simp_all [nI])]
 case eqb n x y=>simp only [bK];rw [h x (by simp_all [nI]),h y (by simp_all [nI])]
 case st n x y=>simp only [bK];rw [h x (by simp_all [nI]),h y (by simp_all [nI])]
 case iad x y k=>simp only [bK];rw [h x (by simp_all [nI]),h y (by simp_all [nI])]
 case iadA x y n k=>simp only [bK];rw [h x (by simp_all [nI]),h y (by simp_all [nI])]
 case ixS x y=>simp only [bK];rw [h x (by simp_all [nI]),h y (by simp_all [nI])]
 case app x y k b=>simp only [bK];rw [h x (by simp_all [nI]),h y (by simp_all [nI])]
def Nv {P:Program} {G:Nat→Option (List AV)} {r:Nat} {s s':List (Nat×AV)} {T:aQ} {o:HOp} {K:AV→aQ→Prop} (h:∀ t∈nI o,aU s t=aU s' t) :
  tI P G ⟨r,s,T⟩ o K=tI P G ⟨r,s',T⟩ o K:=by
 have hev:∀ x,(∀ t∈bC x,t∈nI o)→bX G s x=bX G s' x:=λx hx=>K1 λt ht=>h t (hx t ht);cases o
 case call f as_ =>
  simp only [tI];rw [hev f (by simp_all [nI]),Mt λc hc=>hev c λt ht=>by simp only [nI,eO,Na];exact .inr ⟨c,hc,ht⟩]
 case nxt p =>
  simp only [tI];rw [hev p (by simp_all [nI])]
 case nilS n k x =>
  simp only [tI];rw [hev x (by simp_all [nI]),EC hev]
 all_goals simp only [tI];rw [EC hev]
def yT {s s':List (Nat×AV)} {g:Option (Nat×Bool)} (h:∀ j b,g=some (j,b)→aU s j=aU s' j):eC s g=eC s' g:=by
 cases g with
 | none=>rfl
 | some p=>obtain ⟨j,b⟩:=p;simp only [eC];rw [h j b rfl]
def aft (o:Oper):List Nat:=(o.after.toList.filter (Region.binds .any)).map (·.on)
def aFH (done:List (List Nat)) (o:Oper):List Nat:=((aft o).flatMap λe=>e::done.getD e []).eraseDups
def Za:List Oper→List (List Nat)→List (List Nat)
 | [],d=>d
 | o::os,d=>Za os (d++[aFH d o])
def Plan.ok (p:Plan) (ops:List Oper):Bool :=
 (List.range p.hops.length).all λi=>match p.hops[i]?,ops[i]? with
  | some o,some c =>
   (aft c).all (λe=>e<i&&(p.p i).contains e) &&
   (p.p i).all (λq=>(aft c).any λe=>q==e||(p.p e).contains q) &&
   (match o.dst with
   | none=>true
   | some d=>(List.range p.hops.length).all λj=>match p.hops[j]? with
    | none=>true
    | some o'=>(j==i||!(o'.dst==some d))&&(p.quiet i||!p.quiet j||!(Su o').contains d||(p.p j).contains i||(p.p i).contains j))
  | _,_=>false
def Sv (p:Plan):Nat→Bool→List Nat→Option HD
 | 0,_,_=>none
 | n+1,gc,E=>match (p.ready E).find? p.quiet with
  | some i=>match p.hops[i]? with
   | some o=>(Sv p n gc (i::E)).map (.q o)
   | none=>none
  | none=>match p.ready E with
   | []=>some (.done gc)
   | [i]=>match p.hops[i]? with
    | some o=>if (p.pend (i::E)).isEmpty=true then (Sv p n gc (i::E)).map λx=>.alt o [] x .no else none
    | none=>none
   | _=>none
def K2 (p:Plan) (E l:List Nat):Bool:=(List.range p.hops.length).all λk=>E.contains k||l.contains k||l.all (p.p k).contains
def I9 (p:Plan):Nat→Bool→List Nat→Option HD
 | 0,_,_=>none
 | n+1,gc,E=>match (p.ready E).find? p.quiet with
  | some i=>match p.hops[i]? with
   | some o=>(I9 p n gc (i::E)).map (.q o)
   | none=>none
  | none=>match p.ready E with
   | []=>some (.done gc)
   | c::cs=>if (8≤cs.length&&K2 p E (c::cs)&&(Sv p n true ((c::cs)++E)).isSome)=true then (Sv p n true ((c::cs)++E)).map (.perm ((E.filter p.quiet).filterMap λq=>p.hops[q]?) ((c::cs).map λi=>(p.hops[i]?).getD default)) else if (!cs.isEmpty&&12≤((List.range p.hops.length).filter λk=>!E.contains k&&!p.quiet k).length)=true then some (.plan p.hops p.pre n gc E) else (c::cs).foldr (λi acc=>match acc,p.hops[i]?,I9 p n (gc||!cs.isEmpty) (i::E) with
    | some t,some o,some x=>some (.alt o (if fY o.op then [] else p.pend (i::E)) x t)
    | _,_,_=>none) (some .no)
def E9 (H:List (Nat×Option Nat×Nat)) (ho:HOper):HOper:=match ho.op with
 | .bsl k z ps len=>if H.any (λx=>ho.dst==some x.1&&x.2.2==1001)=true then ⟨ho.dst,.bslS k z ps len,ho.guard⟩ else ho
 | _=>ho
def Gf (P:Program) (N:Nat) (H:List (Nat×Option Nat×Nat)) (ops:Array Oper):Option HD :=
 match (fI P N ops ops.toList).map (·.map (E9 H)) with
 | none=>none
 | some hl=>let p:Plan:=⟨hl,Za ops.toList []⟩
  if p.ok ops.toList&&(p.hops.length==ops.size) then I9 p (ops.size+2) false [] else none
structure PlanOk (p:Plan) (ops:Array Oper):Prop where
 len:p.hops.length=ops.size
 aft:∀ i c,ops[i]?=some c→∀ e∈c.after,Region.binds .any e=true→e.on<i∧e.on∈p.p i
 pre:∀ i c,ops[i]?=some c→∀ q∈p.p i,∃ e∈c.after,Region.binds .any e=true∧(q=e.on∨q∈p.p e.on)
 dst:∀ (i j:Nat) (o o':HOper) (d:Nat),p.hops[i]?=some o→p.hops[j]?=some o'→o.dst=some d→o'.dst=some d→j=i
 rds:∀ (i j:Nat) (o o':HOper) (d:Nat),p.hops[i]?=some o→p.hops[j]?=some o'→o.dst=some d→d∈Su o'→p.quiet i=false→p.quiet j=true→i∈p.p j∨j∈p.p i
def FX {p:Plan} {i:Nat} (h:p.quiet i=true) :
  ∃ o d,p.hops[i]?=some o∧fY o.op=true∧o.dst=some d∧∀ r o',p.hops[r]?=some o'→d∈Su o'→i∈p.p r:=by
 unfold Plan.quiet at h;split at h
 ·simp at h
 ·rename_i o ho;simp only [eM] at h;obtain ⟨h1,h2⟩:=h;split at h2
  ·simp at h2
  ·rename_i d hd;refine ⟨o,d,ho,h1,hd,λr o' hr hm=>?_⟩;simp only [kY,rV] at h2;have:=h2 r (HM.1 hr).1;rw [hr] at this;simpa [hm] using this
def Vf {o:Oper} {x:Nat}:x∈Hud.aft o↔∃ e∈o.after,Region.binds .any e=true∧e.on=x:=by
 simp only [Hud.aft,dE,Ai,Array.mem_toList_iff];constructor
 ·rintro ⟨e,⟨h1,h2⟩,h3⟩;exact ⟨e,h1,h2,h3⟩
 ·rintro ⟨e,h1,h2,h3⟩;exact ⟨e,⟨h1,h2⟩,h3⟩
def aC3 {p:Plan} {ops:Array Oper} (hl:p.hops.length=ops.size) (h:p.ok ops.toList=true):PlanOk p ops:=by
 have key:∀ i o c,p.hops[i]?=some o→ops[i]?=some c→_:=λi o c hi hc=>by
  have h1:=h;simp only [Plan.ok,kY,rV] at h1;have h2:=h1 i (HM.1 hi).1;rw [hi,show ops.toList[i]?=some c from by simpa using hc] at h2;simp only [eM] at h2;exact h2
 have bK:∀ i c,ops[i]?=some c→∃ o,p.hops[i]?=some o:=λi c hc=>by
  have:=(aDn.1 hc).1;exact ⟨_,fV (by omega)⟩
 have opp:∀ (i:Nat) (o:HOper),p.hops[i]?=some o→∃ c,ops[i]?=some c:=λi o hc=>by
  have:=(HM.1 hc).1;exact ⟨_,QW (by omega)⟩
 refine ⟨hl,λi c hc e he hb=>?_,λi c hc q hq=>?_,λi j o o' d hi hj hd hd'=>?_,λi j o o' d hi hj hd hr hqi hqj=>?_⟩
 ·obtain ⟨o,ho⟩:=bK i c hc;have h1:=(key i o c ho hc).1.1;simp only [kY] at h1;have:=h1 e.on (Vf.2 ⟨e,he,hb,rfl⟩);simp only [eM,decide_eq_true_eq] at this;exact ⟨this.1,by simpa using this.2⟩
 ·obtain ⟨o,ho⟩:=bK i c hc;have h1:=(key i o c ho hc).1.2;simp only [kY] at h1;have:=h1 q hq;simp only [Nb] at this;obtain ⟨e,he,h2⟩:=this;obtain ⟨e',he',hb,rfl⟩:=Vf.1 he;refine ⟨e',he',hb,?_⟩;simpa using h2
 ·obtain ⟨c,hc⟩:=opp i o hi;have h1:=(key i o c hi hc).2;rw [hd] at h1;simp only [kY,rV] at h1;have h2:=h1 j (HM.1 hj).1;rw [hj] at h2;simp only [hd',eM,HR,beq_self_eq_true,nH,jZ,or_false,beq_iff_eq] at h2;exact h2.1
 ·obtain ⟨c,hc⟩:=opp i o hi;have h1:=(key i o c hi hc).2;rw [hd] at h1;simp only [kY,rV] at h1;have h2:=h1 j (HM.1 hj).1;rw [hj] at h2;simp only [hqi,hqj,eM,HR,jZ,nH,false_or,Cg,GB,decide_eq_true_eq,decide_eq_false_iff_not,hr,not_true_eq_false] at h2;exact h2.2
def K3 {G:Nat→Option (List AV)} {st:St} {l:List HOper}:mT G st l↔∀ o∈l,mT G st [o]:=by
 induction l with
 | nil=>simp [mT]
 | cons o l ih =>
  simp only [gK,forall_eq_or_imp];rw [←ih];simp [mT]
def K4 {G:Nat→Option (List AV)} {r:Nat} {s s':List (Nat×AV)} {T:aQ} {o:HOper} (h:∀ t∈Su o,aU s t=aU s' t) (hd:o.dst.map (aU s)=o.dst.map (aU s')) :
  mT G ⟨r,s,T⟩ [o]=mT G ⟨r,s',T⟩ [o]:=by
 have hw:eC s o.guard=eC s' o.guard:=yT λj b e=>h j (by simp [Su,e]);have hh:bK T (bX G s) o.op=bK T (bX G s') o.op:=EC λx hx=>K1 λt ht=>h t (by simp only [Su,eO];exact .inl (hx t ht));simp only [mT,hw,hh,hd]
def XF {P:Program} {G:Nat→Option (List AV)} {st:St} {o:HOp} {K:AV→aQ→Prop} (h:tI P G st o K):tI P G st o λx T=>K x T∧(fY o=true→T=st.T):=by
 cases o
 case call f as_ =>
  have:(λx T=>K x T∧(fY (HOp.call f as_)=true→T=st.T))=K:=by
   funext x T;simp [fY]
  rw [this];exact h
 case nxt p =>
  have:(λx T=>K x T∧(fY (HOp.nxt p)=true→T=st.T))=K:=by
   funext x T;simp [fY]
  rw [this];exact h
 case nilS n k x =>
  simp only [tI] at h ⊢;split at h
  ·rename_i hn;rw [if_pos hn];exact ⟨⟨h.1,λ_=>trivial⟩,⟨h.2,λ_=>trivial⟩⟩
  ·rename_i hn;rw [if_neg hn];split at h
   ·rename_i x T he;exact ⟨h,λhq=>Hd hq he⟩
   ·exact h.elim
 all_goals
  simp only [tI] at h ⊢
  split at h
  ·rename_i x T he
   exact ⟨h,λhq=>Hd hq he⟩
  ·exact h.elim
def Ik (listed:Array Bool):Nat→Nat
 | 0=>0
 | m+1=>Ik listed m+if listed.getD m false then 0 else 1
def Gg {listed:Array Bool}:∀ {m:Nat},Ik listed m=0→∀ i,i<m→listed.getD i false=true
 | 0,_,i,hi=>by omega
 | m+1,h,i,hi=>by
  simp only [Ik] at h;split at h
  ·rename_i hm;rcases bY i m with h1 | h1
   ·exact Gg (by omega) i h1
   ·have:i=m:=by omega
    subst this;exact hm
  ·omega
def Zb {listed:Array Bool} {i:Nat}:∀ {m:Nat},m≤i→Ik (listed.setIfInBounds i true) m=Ik listed m
 | 0,_=>rfl
 | m+1,h=>by
  simp only [Ik];rw [Zb (by omega),getD_set_ne false (by omega)]
def Js {listed:Array Bool} {i:Nat} (hs:i<listed.size) (hu:listed.getD i false=false):∀ {m:Nat},i<m→Ik (listed.setIfInBounds i true) m+1=Ik listed m
 | 0,h=>by omega
 | m+1,h=>by
  simp only [Ik];rcases bY i m with h1 | h1
  ·have:=Js hs hu h1;rw [getD_set_ne false (by omega)];omega
  ·have:i=m:=by omega
   subst this;have h2:(listed.setIfInBounds i true).getD i false=true:=by simp [KF,hs]
   rw [Zb (fW _),h2,hu];simp
def Il {P:Program} {N:Nat} {ops:Array Oper}:∀ {l:List Oper} {hl:List HOper},fI P N ops l=some hl→hl.length=l.length∧∀ (i:Nat) ho,hl[i]?=some ho→∃ o,l[i]?=some o∧oE P N ops o=some ho
 | [],hl,h=>by simp only [fI,Option.some.injEq] at h;subst h;simp
 | o::l,hl,h=>by
  simp only [fI] at h;split at h
  ·rename_i ho hl' h1 h2;injection h with h;subst h;obtain ⟨h3,h4⟩:=Il h2;refine ⟨by simp [h3],λi ho' hi=>?_⟩
   cases i with
   | zero=>simp only [KH,Option.some.injEq] at hi;subst hi;exact ⟨o,rfl,h1⟩
   | succ i=>simpa using h4 i ho' (by simpa using hi)
  ·simp at h
section
variable {P:Program} {G:Nat→Option (List AV)} {N:Nat} {h0:GH} {φ0:Nat→Value} {T0:aQ} {w0:World}
def He {φ:Nat→Value} {w:World} {a:Act}:∀ (I:List Nat) {st:St} {h:GH},rD G h→Inv h φ w st.T→rP h φ st.T.length st.s a →
  ∃ h2,rD G h2∧Inv h2 φ w (E6 st.T I)∧Evo h φ st.T w h2 φ (E6 st.T I) w∧∃ s2:List (Nat×AV),(∀ j,aU s2 j=rY st.T I (aU st.s j))∧rP h2 φ (E6 st.T I).length s2 a
 | [],st,h,hG,hI,hS=>⟨h,hG,hI,Evo.refl,st.s,λ_=>rfl,hS⟩
 | i::r,st,h,hG,hI,hS=>by
  simp only [E6,rY];split
  ·rename_i k es hg;obtain ⟨s1,s2⟩:=RL hI (bD hg)
   obtain ⟨h2,g1,g2,g3,s3,g4,g5⟩:=He r (st:=⟨st.r,Ss i k es st.s,(QT i k es st.T).set i none⟩) (hG.mono (As hI (bD hg))) s1 (λj=>by
    show Rp _ φ ((QT i k es st.T).set i none).length (aU (Ss i k es st.s) j) _;rw [mA,Jq,Jr]
    exact Oz hI (bD hg) (hS j))
   refine ⟨h2,g1,g2,s2.trans g3,s3,λj=>?_,g5⟩;rw [g4 j,Jr]
  ·rename_i hn;exact He r hG hI hS
def K5:∀ (I:List Nat) (T:aQ) (f:Nat),rY T I (.cl f [])=.cl f []
 | [],_,_=>rfl
 | i::r,T,f=>by
  simp only [rY];split
  ·simp only [HK,Ib];exact K5 r _ f
  ·exact K5 r T f
def O0:∀ (I:List Nat) (T:aQ) (x:Value),rY T I (.v x)=.v x
 | [],_,_=>rfl
 | i::r,T,x=>by
  simp only [rY];split
  ·simp only [HK];exact O0 r _ x
  ·exact O0 r T x
def K6:∀ (I:List Nat) (T:aQ) (cs:List AV),rY T I (.rp cs)=.rp cs
 | [],_,_=>rfl
 | i::r,T,cs=>by
  simp only [rY];split
  ·simp only [HK];exact K6 r _ cs
  ·exact K6 r T cs
def Hf:∀ (I:List Nat) (T:aQ),rY T I .any=.any
 | [],_=>rfl
 | i::r,T=>by
  simp only [rY];split
  ·simp only [HK];exact Hf r _
  ·exact Hf r T
def Zc {s s2:List (Nat×AV)} {T:aQ} {I:List Nat} (h:∀ j,aU s2 j=rY T I (aU s j)) (x:Operand):bX G s2 x=rY T I (bX G s x):=by
 cases x with
 | tmp t=>exact h t
 | const v=>exact (O0 I T v).symm
 | global g =>
  simp only [bX]
  cases G g with
  | none=>exact (Hf I T).symm
  | some cs=>exact (K6 I T cs).symm
 | func f=>exact (K5 I T f).symm
def My {h:GH} {φ:Nat→Value} {w:World} {a:Act} {st:St} {K:AV→aQ→Prop} {next:Act→World→Prop} {o:Oper} {k:Nat} {z:List Value} {ps:List (Nat×Nat×Operand)} {len:Nat} (hc:FW P o=some (.bsl k z ps len)) (hw:tI P G st (.bslS k z ps len) K) (hG:rD G h) (hI:Inv h φ w st.T) (hS:rP h φ st.T.length st.s a)
  (hn:∀ v w',Ce h φ st.T w K v w'→next (a.put o.dst v) w'):oW P o a w next:=by
 have hw2:∃ x T',bK st.T (bX G st.s) (.bslS k z ps len)=some (x,T')∧K x T':=by
  simp only [tI] at hw;split at hw
  ·rename_i x T' e;exact ⟨x,T',e,hw⟩
  ·exact hw.elim
 obtain ⟨x,T',he,hk⟩:=hw2;obtain ⟨h2,g1,g2,g3,s2,g4,g5⟩:=He (iI (ps.map λp=>bX G st.s p.2.2)) hG hI hS;refine Kw hc (st:=⟨st.r,s2,E6 st.T (iI (ps.map λp=>bX G st.s p.2.2))⟩) (K:=K) ?_ g1 g2 g5 λv w' hr=>hn v w' ?_
 ·simp only [bK] at he;simp only [tI,bK];have:(ps.map λp=>(p.1,p.2.1,bX G s2 p.2.2))=ps.map λp=>(p.1,p.2.1,rY st.T (iI (ps.map λp=>bX G st.s p.2.2)) (bX G st.s p.2.2)):=Mt λp _=>by rw [Zc g4]
  rw [this];split at he
  ·rename_i cs hcs;split at he
   ·rename_i hcl;simp only [Option.some.injEq,Prod.mk.injEq] at he;obtain ⟨rfl,rfl⟩:=he;rw [if_pos hcl];exact hk
   ·simp at he
  ·simp at he
 ·obtain ⟨r,T2,h3,φ3,e1,e2,e3,e4⟩:=hr;exact ⟨r,T2,h3,φ3,e1,g3.trans e2,e3,e4⟩
def K7 {H:List (Nat×Option Nat×Nat)} (ho:HOper):E9 H ho=ho∨∃ k z ps len,ho.op=.bsl k z ps len∧E9 H ho=⟨ho.dst,.bslS k z ps len,ho.guard⟩:=by
 unfold E9;split
 ·rename_i k z ps len e;split
  ·exact .inr ⟨k,z,ps,len,e,rfl⟩
  ·exact .inl rfl
 ·exact .inl rfl
def Vg {H:List (Nat×Option Nat×Nat)} {ro:Option Nat} {ops:Array Oper} {Q:Exit→Act→World→Prop} {i:Nat} {o:Oper} {ho:HOper} {st:St} {a:Act} {w:World} {next:Act→World→Prop} (hi:ops[i]?=some o) (hc:(oE P N ops o).map (E9 H)=some ho)
  (hS:SInv P G N h0 φ0 T0 w0 st a w) (hw:match eC st.s ho.guard with
   | some true=>tI P G st ho.op λx T=>∀ a' w',SInv P G N h0 φ0 T0 w0 ⟨st.r,dT st.s ho.dst x,T⟩ a' w'→next a' w'
   | some false=>∀ a' w',SInv P G N h0 φ0 T0 w0 ⟨st.r,dT st.s ho.dst (.v undef),st.T⟩ a' w'→next a' w'
   | none=>False):wpOpIn (fe ro) 0 P ops Q i next a w:=by
 obtain ⟨hr,honce,⟨h,φ,hG,hE,hI,hSl⟩,hsz,hdf⟩:=hS;obtain ⟨ho0,hc0,hseal⟩:=Yf.1 hc;obtain ⟨c1,c2,c3,c4⟩:=E8 hc0;have hdst:∀ j,o.dst=some j→j<a.tmps.size:=λj hj=>CU (c1 j hj) hsz;have hput:∀ v,N≤(a.put o.dst v).tmps.size:=by
  intro v
  cases o.dst with
  | none=>exact hsz
  | some j=>simpa [Act.put] using hsz
 unfold wpOpIn;simp only [hi];have hdd:ho.dst=o.dst∧ho.guard=ho0.guard:=by
  rcases K7 (H:=H) ho0 with e | ⟨_,_,_,_,_,e⟩
  ·rw [←hseal,e];exact ⟨c2,rfl⟩
  ·rw [←hseal,e];exact ⟨c2,rfl⟩
 rw [hdd.1,hdd.2] at hw;split at hw
 ·rename_i hwt;have hwant:=Gd hSl c4 hwt;rw [if_pos hwant];have hso:∀ {nx:Act→World→Prop},(∀ v w',Ce h φ st.T w _ v w'→nx (a.put o.dst v) w')→oW P o a w nx:=λhret=>by
   rcases K7 (H:=H) ho0 with e | ⟨k,z,ps,len,e1,e2⟩
   ·rw [←hseal,e] at hw;exact Kw c3 hw hG hI hSl hret
   ·rw [←hseal,e2] at hw;exact My (by rw [c3,e1]) hw hG hI hSl hret
  refine aDA (Gb c3) (hso λv w' hret=>?_);obtain ⟨x,T',h',φ',hk,hE',hI',hx⟩:=hret;have hSl':rP h' φ' T'.length st.s a:=λi=>(hSl i).mono hE'.le hE'.len hE'.phi;exact hk _ _ ⟨hr,wV honce _ _,⟨h',φ',hG.mono hE'.le,hE.trans hE',hI',Gc hSl' hx hdst⟩,hput v,(hdf.keep hI hE').put _ _⟩
 ·rename_i hwt;have hwant:=Gd hSl c4 hwt;rw [if_neg (by simp [hwant])];exact ⟨λf _=>Vc ro f,hw _ _ ⟨hr,wV honce _ _,⟨h,φ,hG,hE,hI,Gc hSl (by simp [Rp]) hdst⟩,hput _,hdf.put _ _⟩⟩
 ·exact hw.elim
structure Drawn (P:Program) (G:Nat→Option (List AV)) (N:Nat) (h0:GH) (φ0:Nat→Value) (T0:aQ) (w0:World) (p:Plan) (E:List Nat) (st:St) (listed:Array Bool) (a:Act) (w:World):Prop where
 size:listed.size=p.hops.length
 lt:∀ i∈E,i<p.hops.length
 sub:∀ i,listed.getD i false=true→i∈E
 clo:∀ i,listed.getD i false=true→∀ q∈p.p i,listed.getD q false=true
 heavy:∀ i∈E,p.quiet i=false→listed.getD i false=true
 ecl:∀ i∈E,∀ q∈p.p i,q∈E
 pend:∀ i∈E,listed.getD i false=false→∀ o,p.hops[i]?=some o→mT G st [o]
 once:Hb st.s
 inv:∃ s',(∀ t,aU s' t=aU st.s t∨∃ i o,i∈E∧listed.getD i false=false∧p.hops[i]?=some o∧o.dst=some t)∧SInv P G N h0 φ0 T0 w0 ⟨st.r,s',st.T⟩ a w
variable {p:Plan} {ops:Array Oper} {E:List Nat} {st:St} {listed:Array Bool} {a:Act} {w:World}
def Vh {listed:Array Bool} {i:Nat}:(i<listed.size∧listed.getD i true=false)↔(i<listed.size∧listed.getD i false=false):=by
 constructor<;>rintro ⟨h,h1⟩<;>exact ⟨h,by simpa [KF,h] using h1⟩
def rE (hp:PlanOk p ops) (hJ:Drawn P G N h0 φ0 T0 w0 p E st listed a w) {i:Nat} (hr:i∈Region.ready .any ops listed) :
  listed.getD i false=false∧i<p.hops.length∧(∃ o,ops[i]?=some o)∧∀ q∈p.p i,listed.getD q false=true:=by
 obtain ⟨h1,o,ho,h2⟩:=mem_ready.1 hr;have hlt:i<listed.size:=by have:=(aDn.1 ho).1;have:=hp.len;have:=hJ.size;omega
 refine ⟨(Vh.1 ⟨hlt,h1⟩).2,by have:=hJ.size;omega,⟨o,ho⟩,λq hq=>?_⟩;obtain ⟨e,he,hb,h3⟩:=hp.pre i o ho q hq;have h4:=h2 e he hb;rcases h3 with rfl | h3
 ·exact h4
 ·exact hJ.clo _ h4 _ h3
def Hg (hp:PlanOk p ops) (hs:listed.size=p.hops.length) (hr:Region.ready .any ops listed=[]):∀ i,i<p.hops.length→listed.getD i false=true:=by
 intro i
 induction i using Nat.strongRecOn with
 | _ i ih =>
  intro hi;have hlt:i<ops.size:=by have:=hp.len;omega
  by_cases hu:listed.getD i false=true
  ·exact hu
  ·have:i∈Region.ready .any ops listed:=by
    refine mem_ready.2 ⟨(Vh.2 ⟨by omega,by simpa using hu⟩).2,ops[i],QW hlt,λe he hb=>?_⟩;have:=(hp.aft i _ (QW hlt) e he hb).1;exact ih e.on this (by omega)
   rw [hr] at this;simp at this
end
end
section
section
variable {P:Program} {G:Nat→Option (List AV)} {N:Nat} {h0:GH} {φ0:Nat→Value} {T0:aQ} {w0:World}
variable {H:List (Nat×Option Nat×Nat)} {ro:Option Nat} {p:Plan} {ops:Array Oper} {E:List Nat} {st:St} {listed:Array Bool} {a:Act} {w:World} {Q:Exit→Act→World→Prop}
def FY {f:FuncId} {args:List AV} {T:aQ} {K K':AV→aQ→Prop} (h:∀ x T,K x T→K' x T) (hw:GO P G f args T K):GO P G f args T K':=by
 obtain ⟨as_,hs,hw⟩:=hw;refine ⟨as_,hs,?_⟩;rcases hw with hw | ⟨h1,hw⟩
 ·obtain ⟨L,h1,h2,hw⟩:=hw;exact .inl ⟨L,h1,h2,hw.mono λr T' hk=>h _ _ hk⟩
 ·exact .inr ⟨h1,hw.mono λr T' hk=>⟨hk.1,hk.2.1,h _ _ hk.2.2⟩⟩
def Au {st:St} {o:HOp} {K K':AV→aQ→Prop} (h:∀ x T,K x T→K' x T) (hw:tI P G st o K):tI P G st o K':=by
 cases o
 case call f as_ =>
  simp only [tI] at hw ⊢;split at hw
  ·rename_i g caps he;exact FY h hw
  ·rename_i g k cs he;exact FY h hw
  ·rename_i i he;exact hw.mono λr T' hk=>h _ _ hk
  ·exact hw.elim
 case nxt p =>
  simp only [tI] at hw ⊢;split at hw
  ·split at hw
   ·exact h _ _ hw
   ·split at hw
    ·exact ⟨hw.1,hw.2.1,λha=>h _ _ (hw.2.2.1 ha),λe k v b h1 h2 h3 h4=>h _ _ (hw.2.2.2 e k v b h1 h2 h3 h4)⟩
    ·exact hw.elim
   ·exact hw.elim
  ·exact hw.elim
 case nilS n k x =>
  simp only [tI] at hw ⊢;split at hw
  ·rename_i hn;rw [if_pos hn];exact ⟨h _ _ hw.1,h _ _ hw.2⟩
  ·rename_i hn;rw [if_neg hn];split at hw
   ·exact h _ _ hw
   ·exact hw.elim
 all_goals
  simp only [tI] at hw ⊢
  split at hw
  ·exact h _ _ hw
  ·exact hw.elim
def TR {st:St} {o:HOp} {K:AV→aQ→Prop} {x:AV} {T:aQ} (hq:fY o=true) (he:bK st.T (bX G st.s) o=some (x,T)) (hk:K x T):tI P G st o K:=by
 cases o
 case call f as_=>simp [fY] at hq
 case nxt p=>simp [fY] at hq
 case nilS n k y =>
  have hn:Oj k (bX G st.s y)≠true:=λhn=>by
   unfold Oj at hn;split at hn
   ·rename_i h1;simp [bK,h1] at he
   ·simp at hn
  simp only [tI,he];rw [if_neg hn];exact hk
 all_goals
  simp only [tI,he]
  exact hk
def TS (s:List (Nat×AV)) (d:Nat) (x:AV):aU (dT s (some d) x) d=x:=by simp [dT,GY]
def Vi {s:List (Nat×AV)} {d t:Nat} {x:AV} (h:d≠t):aU (dT s (some d) x) t=aU s t:=by simp [dT,GY,h]
def Av {s:List (Nat×AV)} {o:Option Nat} {t:Nat} {x:AV} (h:o≠some t):aU (dT s o x) t=aU s t:=by
 cases o with
 | none=>rfl
 | some d=>exact Vi λe=>h (by rw [e])
def gD {i:Nat} (hs:i<listed.size) (j:Nat):(listed.setIfInBounds i true).getD j false=true↔j=i∨listed.getD j false=true:=by
 by_cases h:i=j
 ·subst h;simp [KF,hs]
 ·rw [getD_set_ne false h];constructor
  ·exact .inr
  ·rintro (rfl | h')
   ·exact absurd rfl h
   ·exact h'
def Jt (hp:PlanOk p ops) (hJ:Drawn P G N h0 φ0 T0 w0 p E st listed a w) {i:Nat} (hr:i∈p.ready E) (hq:p.quiet i=true) {o:HOper} (ho:p.hops[i]?=some o) {x:AV}
  (hx:(eC st.s o.guard=some true∧∃ T',bK st.T (bX G st.s) o.op=some (x,T'))∨(eC st.s o.guard=some false∧x=.v undef)) :
  Drawn P G N h0 φ0 T0 w0 p (i::E) ⟨st.r,dT st.s o.dst x,st.T⟩ listed a w:=by
 obtain ⟨o',d,ho',hqh,hd,hrd⟩:=FX hq;rw [ho] at ho';injection ho' with ho';subst ho';simp only [Plan.ready,Ai,rV,eM,Cg,GB,decide_eq_false_iff_not,kY,decide_eq_true_eq] at hr;obtain ⟨hlt,hni,hpre⟩:=hr;have hnl:listed.getD i false=false:=by
  cases hb:listed.getD i false
  ·rfl
  ·exact absurd (hJ.sub i hb) hni
 have noread:∀ (k:Nat) ok,k∈E∨k=i→p.hops[k]?=some ok→d∉Su ok:=λk ok hk hok hm=>by
  have h1:=hrd k ok hok hm;rcases hk with hk | rfl
  ·exact hni (hJ.ecl k hk i h1)
  ·exact hni (hpre k h1)
 have keep:∀ (k:Nat) ok,k∈E∨k=i→p.hops[k]?=some ok→∀ t∈Su ok,aU (dT st.s o.dst x) t=aU st.s t:=λk ok hk hok t ht=>by
  rw [hd];exact Vi λe=>noread k ok hk hok (e ▸ ht)
 refine ⟨hJ.size,?_,λk hk=>FL _ (hJ.sub k hk),hJ.clo,?_,?_,?_,wV hJ.once _ _,?_⟩
 ·intro k hk;rcases gK.1 hk with rfl | hk
  ·exact hlt
  ·exact hJ.lt k hk
 ·intro k hk hqk;rcases gK.1 hk with rfl | hk
  ·rw [hq] at hqk;simp at hqk
  ·exact hJ.heavy k hk hqk
 ·intro k hk q hqm;rcases gK.1 hk with rfl | hk
  ·exact FL _ (hpre q hqm)
  ·exact FL _ (hJ.ecl k hk q hqm)
 ·intro k hk hul ok hok;by_cases hki:k=i
  ·subst hki;rw [ho] at hok;injection hok with hok;subst hok;have hg:eC (dT st.s o.dst x) o.guard=eC st.s o.guard:=yT λj b e=>keep k o (.inr rfl) ho j (by simp [Su,e]);have hh:bK st.T (bX G (dT st.s o.dst x)) o.op=bK st.T (bX G st.s) o.op:=EC λy hy=>K1 λt ht=>keep k o (.inr rfl) ho t (by simp only [Su,eO];exact .inl (hy t ht));rw [hd] at hg hh ⊢;simp only [mT,hg,hh,hd,kZ,TS,and_true];rcases hx with ⟨h1,T',h2⟩ | ⟨h1,h2⟩
   ·simp [h1,h2]
   ·simp [h1,h2]
  ·have hkE:k∈E:=by
    rcases gK.1 hk with h | h
    ·exact absurd h hki
    ·exact h
   rw [K4 (s':=st.s) (keep k ok (.inl hkE) hok) ?_]
   ·exact hJ.pend k hkE hul ok hok
   ·cases hdk:ok.dst with
    | none=>rfl
    | some dk =>
     simp only [kZ,Option.some.injEq];refine Av λe=>hki ?_;exact hp.dst i k o ok dk ho hok (e ▸ rfl) hdk
 ·obtain ⟨s',hs,hS⟩:=hJ.inv;refine ⟨s',λt=>?_,hS⟩;by_cases ht:o.dst=some t
  ·exact .inr ⟨i,o,by simp,hnl,ho,ht⟩
  ·rcases hs t with h | ⟨k,ok,h1,h2,h3,h4⟩
   ·exact .inl (by rw [h];exact (Av ht).symm)
   ·exact .inr ⟨k,ok,by simp [h1],h2,h3,h4⟩
def K8 (hp:PlanOk p ops) (hJ:Drawn P G N h0 φ0 T0 w0 p E st listed a w) {i:Nat} (hr:i∈Region.ready .any ops listed) {o:HOper} (ho:p.hops[i]?=some o) {s':List (Nat×AV)}
  (hs:∀ t,aU s' t=aU st.s t∨∃ i o,i∈E∧listed.getD i false=false∧p.hops[i]?=some o∧o.dst=some t):∀ t∈Su o,aU s' t=aU st.s t:=by
 intro t ht;obtain ⟨_,_,_,hpre⟩:=rE hp hJ hr;rcases hs t with h | ⟨k,ok,h1,h2,h3,h4⟩
 ·exact h
 ·have hqk:p.quiet k=true:=by
   cases hb:p.quiet k
   ·rw [hJ.heavy k h1 hb] at h2;simp at h2
   ·rfl
  obtain ⟨o',d,ho',_,hd,hrd⟩:=FX hqk;rw [h3] at ho';injection ho' with ho';subst ho';rw [h4] at hd;injection hd with hd;subst hd;rw [hpre k (hrd i o ho ht)] at h2;simp at h2
def TT (hp:PlanOk p ops) (hh:∀ (i:Nat) ho,p.hops[i]?=some ho→∃ o,ops[i]?=some o∧(oE P N ops o).map (E9 H)=some ho) (hJ:Drawn P G N h0 φ0 T0 w0 p E st listed a w) {i:Nat} (hr:i∈Region.ready .any ops listed) (hi:i∈E) {next:Act→World→Prop}
  (hn:∀ a' w',Drawn P G N h0 φ0 T0 w0 p E st (listed.setIfInBounds i true) a' w'→next a' w'):wpOpIn (fe ro) 0 P ops Q i next a w:=by
 obtain ⟨hul,hlt,⟨c,hc⟩,hpre⟩:=rE hp hJ hr;have hq:p.quiet i=true:=by
  cases hb:p.quiet i
  ·rw [hJ.heavy i hi hb] at hul;simp at hul
  ·rfl
 obtain ⟨o,d,ho,hqh,hd,hrd⟩:=FX hq;obtain ⟨s',hs,hS⟩:=hJ.inv;have hrs:=K8 hp hJ hr ho hs;have hck:=hJ.pend i hi hul o ho;obtain ⟨c',hc',hcomp⟩:=hh i o ho;have fin:∀ x a' w',x=aU st.s d→SInv P G N h0 φ0 T0 w0 ⟨st.r,dT s' o.dst x,st.T⟩ a' w'→next a' w':=by
  intro x a' w' hx hS';have hsz:i<listed.size:=by rw [hJ.size];exact hlt
  refine hn a' w' ⟨by simpa using hJ.size,hJ.lt,λk hk=>?_,λk hk q hqm=>?_,λk hk hqk=>?_,hJ.ecl,λk hk hk2=>?_,hJ.once,dT s' o.dst x,λt=>?_,hS'⟩
  ·rcases (gD hsz k).1 hk with rfl | h
   ·exact hi
   ·exact hJ.sub k h
  ·refine (gD hsz q).2 (.inr ?_);rcases (gD hsz k).1 hk with rfl | h
   ·exact hpre q hqm
   ·exact hJ.clo k h q hqm
  ·exact (gD hsz k).2 (.inr (hJ.heavy k hk hqk))
  ·refine hJ.pend k hk ?_;cases hb:listed.getD k false
   ·rfl
   ·rw [(gD hsz k).2 (.inr hb)] at hk2;simp at hk2
  ·by_cases ht:o.dst=some t
   ·rw [ht];rw [hd] at ht;injection ht with ht;subst ht;exact .inl (by rw [TS];exact hx)
   ·rw [Av ht];rcases hs t with h | ⟨k,ok,h1,h2,h3,h4⟩
    ·exact .inl h
    ·refine .inr ⟨k,ok,h1,?_,h3,h4⟩;cases hb:(listed.setIfInBounds i true).getD k false
     ·rfl
     ·rcases (gD hsz k).1 hb with rfl | h
      ·rw [ho] at h3;injection h3 with h3;subst h3;exact absurd h4 ht
      ·rw [h2] at h;simp at h
 refine Vg hc' hcomp hS ?_;have hw:eC s' o.guard=eC st.s o.guard:=yT λj b e=>hrs j (by simp [Su,e]);simp only [mT,and_true] at hck;simp only [hw]
 cases hwv:eC st.s o.guard with
 | none=>simp [hwv] at hck
 | some b =>
  rw [hwv] at hck
  cases b with
  | false =>
   simp only [hd,kZ,Option.some.injEq] at hck;exact λa' w' hS'=>fin _ a' w' hck.symm hS'
  | true =>
   simp only at hck ⊢;rw [Nv (s':=st.s) λt ht=>hrs t (by simp only [Su,eO];exact .inl ht)];split at hck
   ·rename_i x T' he;simp only [hd,kZ,Option.some.injEq] at hck;have hT:=Hd hqh he;subst hT;exact TR (st:=⟨st.r,st.s,st.T⟩) hqh he λa' w' hS'=>fin x a' w' hck.symm hS'
   ·exact hck.elim
def TU (hp:PlanOk p ops) (hh:∀ (i:Nat) ho,p.hops[i]?=some ho→∃ o,ops[i]?=some o∧(oE P N ops o).map (E9 H)=some ho) (hJ:Drawn P G N h0 φ0 T0 w0 p E st listed a w) {i:Nat} (hr:i∈Region.ready .any ops listed) (hi:i∉E) (hq:p.quiet i=false)
  {o:HOper} (ho:p.hops[i]?=some o) {K:AV→aQ→Prop}
  (hw:match eC st.s o.guard with
   | some true=>tI P G st o.op λx T=>mT G ⟨st.r,dT st.s o.dst x,T⟩ (if fY o.op then [] else p.pend (i::E))∧K x T
   | some false=>mT G ⟨st.r,dT st.s o.dst (.v undef),st.T⟩ (if fY o.op then [] else p.pend (i::E))∧K (.v undef) st.T
   | none=>False) {next:Act→World→Prop}
  (hn:∀ x T a' w',K x T→Drawn P G N h0 φ0 T0 w0 p (i::E) ⟨st.r,dT st.s o.dst x,T⟩ (listed.setIfInBounds i true) a' w'→next a' w'):wpOpIn (fe ro) 0 P ops Q i next a w:=by
 obtain ⟨hul,hlt,⟨c,hc⟩,hpre⟩:=rE hp hJ hr;obtain ⟨s',hs,hS⟩:=hJ.inv;have hrs:=K8 hp hJ hr ho hs;obtain ⟨c',hc',hcomp⟩:=hh i o ho;have hsz:i<listed.size:=by rw [hJ.size];exact hlt
 have fin:∀ x T a' w',mT G ⟨st.r,dT st.s o.dst x,T⟩ (if fY o.op then [] else p.pend (i::E))→(fY o.op=true→T=st.T)→K x T →
   SInv P G N h0 φ0 T0 w0 ⟨st.r,dT s' o.dst x,T⟩ a' w'→next a' w':=by
  intro x T a' w' hck hqT hk hS';have hclo:∀ k,(listed.setIfInBounds i true).getD k false=true→∀ q∈p.p k,(listed.setIfInBounds i true).getD q false=true:=λk hk q hqm=>by
   refine (gD hsz q).2 (.inr ?_);rcases (gD hsz k).1 hk with rfl | h
   ·exact hpre q hqm
   ·exact hJ.clo k h q hqm
  have hheavy:∀ k∈i::E,p.quiet k=false→(listed.setIfInBounds i true).getD k false=true:=λk hk hqk=>by
   rcases gK.1 hk with rfl | hk
   ·exact (gD hsz k).2 (.inl rfl)
   ·exact (gD hsz k).2 (.inr (hJ.heavy k hk hqk))
  refine hn x T a' w' hk ⟨by simpa using hJ.size,λk hk=>?_,λk hk=>?_,hclo,hheavy,λk hk q hqm=>?_,λk hk hk2 ok hok=>?_,wV hJ.once _ _,dT s' o.dst x,λt=>?_,hS'⟩
  ·rcases gK.1 hk with rfl | hk
   ·exact hlt
   ·exact hJ.lt k hk
  ·rcases (gD hsz k).1 hk with rfl | h
   ·simp
   ·exact FL _ (hJ.sub k h)
  ·rcases gK.1 hk with rfl | hk
   ·exact FL _ (hJ.sub q (hpre q hqm))
   ·exact FL _ (hJ.ecl k hk q hqm)
  ·have hki:k≠i:=λe=>by
    rw [(gD hsz k).2 (.inl e)] at hk2;simp at hk2
   have hkE:k∈E:=by
    rcases gK.1 hk with h | h
    ·exact absurd h hki
    ·exact h
   have hkl:listed.getD k false=false:=by
    cases hb:listed.getD k false
    ·rfl
    ·rw [(gD hsz k).2 (.inr hb)] at hk2;simp at hk2
   have hqk:p.quiet k=true:=by
    cases hb:p.quiet k
    ·rw [hJ.heavy k hkE hb] at hkl;simp at hkl
    ·rfl
   by_cases hqo:fY o.op=true
   ·have hT:=hqT hqo;subst hT;rw [K4 (s':=st.s) ?_ ?_]
    ·exact hJ.pend k hkE hkl ok hok
    ·intro t ht;refine Av λe=>?_;rcases hp.rds i k o ok t ho hok e ht hq hqk with h1 | h1
     ·exact hi (hJ.ecl k hkE i h1)
     ·rw [hpre k h1] at hkl;simp at hkl
    ·cases hdk:ok.dst with
     | none=>rfl
     | some dk =>
      simp only [kZ,Option.some.injEq];exact Av λe=>hki (hp.dst i k o ok dk ho hok e hdk)
   ·rw [if_neg hqo] at hck;refine (K3.1 hck) ok ?_;simp only [Plan.pend,U9,Ai,eM,Cg,List.any_eq_false];refine ⟨k,⟨hk,hqk,λh hm hb=>?_⟩,hok⟩;simp only [Cg,eM,rU,nH,GB,decide_eq_true_eq] at hb;rw [hclo h (hheavy h hm hb.1) k hb.2] at hk2;simp at hk2
  ·by_cases ht:o.dst=some t
   ·simp only [ht,TS,true_or]
   ·simp only [Av ht];rcases hs t with h | ⟨k,ok,h1,h2,h3,h4⟩
    ·exact .inl h
    ·refine .inr ⟨k,ok,by simp [h1],?_,h3,h4⟩;cases hb:(listed.setIfInBounds i true).getD k false
     ·rfl
     ·rcases (gD hsz k).1 hb with rfl | h
      ·exact absurd h1 hi
      ·rw [h2] at h;simp at h
 refine Vg hc' hcomp hS ?_;have hwe:eC s' o.guard=eC st.s o.guard:=yT λj b e=>hrs j (by simp [Su,e]);simp only [hwe]
 cases hwv:eC st.s o.guard with
 | none=>simp [hwv] at hw
 | some b =>
  rw [hwv] at hw
  cases b with
  | false =>
   simp only at hw ⊢;exact λa' w' hS'=>fin _ _ a' w' hw.1 (λ_=>rfl) hw.2 hS'
  | true =>
   simp only at hw ⊢;rw [Nv (s':=st.s) λt ht=>hrs t (by simp only [Su,eO];exact .inl ht)];refine Au (λx T h a' w' hS'=>?_) (XF hw);exact fin x T a' w' h.1.1 h.2 h.1.2 hS'
def RM {gc:Bool} {n:Nat} {c:Bool} {G:Nat→Option (List AV)} {K:St→Prop}:∀ {l:List Nat} {hd:HD},l.foldr (λi acc=>match acc,p.hops[i]?,I9 p n (gc||c) (i::E) with
    | some t,some o,some x=>some (.alt o (if fY o.op then [] else p.pend (i::E)) x t)
    | _,_,_=>none) (some .no)=some hd→D4 P G hd st K→∀ i∈l,∃ o x,p.hops[i]?=some o∧I9 p n (gc||c) (i::E)=some x∧(match eC st.s o.guard with
  | some true=>tI P G st o.op λy T=>mT G ⟨st.r,dT st.s o.dst y,T⟩ (if fY o.op then [] else p.pend (i::E))∧D4 P G x ⟨st.r,dT st.s o.dst y,T⟩ K
  | some false=>mT G ⟨st.r,dT st.s o.dst (.v undef),st.T⟩ (if fY o.op then [] else p.pend (i::E))∧D4 P G x ⟨st.r,dT st.s o.dst (.v undef),st.T⟩ K
  | none=>False)
 | [],hd,_,_,i,hi=>by simp at hi
 | j::l,hd,he,hw,i,hi=>by
  simp only [List.foldr_cons] at he;split at he
  ·rename_i t o x h1 h2 h3;injection he with he;subst he;simp only [D4] at hw;rcases gK.1 hi with rfl | hi
   ·exact ⟨o,x,h2,h3,hw.1⟩
   ·exact RM h1 hw.2 i hi
  ·simp at he
def AK {α β:Type} (f:α→β):∀ (l:List α) (j:Nat),(l.map f).eraseIdx j=(l.eraseIdx j).map f
 | [],_=>by simp
 | x::l,0=>by simp
 | x::l,j+1=>by simp [AK f l j]
def RN {E E':List Nat} (h:∀ x,E.contains x=E'.contains x):p.ready E=p.ready E':=by
 unfold Plan.ready;refine List.filter_congr λi _=>?_;rw [h,show E.contains=E'.contains from funext h]
def TV {E E':List Nat} (h:∀ x,E.contains x=E'.contains x):(p.pend E).isEmpty=(p.pend E').isEmpty:=by
 have hm:∀ x,x∈E↔x∈E':=λx=>by
  have:=h x;simp only [GB] at this;exact decide_eq_decide.1 this
 have ha:∀ q,(E.any λk=>!p.quiet k&&(p.p k).contains q)=(E'.any λk=>!p.quiet k&&(p.p k).contains q):=λq=>by
  rw [oU,Nb,Nb];exact ⟨λ⟨k,h1,h2⟩=>⟨k,(hm k).1 h1,h2⟩,λ⟨k,h1,h2⟩=>⟨k,(hm k).2 h1,h2⟩⟩
 have key:∀ {E E':List Nat},(∀ x,x∈E↔x∈E')→(∀ q,(E.any λk=>!p.quiet k&&(p.p k).contains q)=(E'.any λk=>!p.quiet k&&(p.p k).contains q))→∀ o,o∈p.pend E→o∈p.pend E':=λhm ha o ho=>by
  simp only [Plan.pend,U9,Ai,ha] at ho ⊢;obtain ⟨q,⟨h1,h2⟩,h3⟩:=ho;exact ⟨q,⟨(hm q).1 h1,h2⟩,h3⟩
 rw [oU,Y3,Y3];constructor
 ·intro h0;exact Uq.2 λo ho=>by
   have:=key (λx=>(hm x).symm) (λq=>(ha q).symm) o ho;rw [h0] at this;simp at this
 ·intro h0;exact Uq.2 λo ho=>by
   have:=key hm ha o ho;rw [h0] at this;simp at this
def Nw:∀ (n:Nat) (gc:Bool) (E E':List Nat),(∀ x,E.contains x=E'.contains x)→Sv p n gc E=Sv p n gc E'
 | 0,_,_,_,_=>rfl
 | n+1,gc,E,E',h=>by
  have hi:∀ i x,(i::E).contains x=(i::E').contains x:=λi x=>by simp only [Yz,h]
  simp only [Sv,RN h];have h1:∀ i,Sv p n gc (i::E)=Sv p n gc (i::E'):=λi=>Nw n gc _ _ (hi i);have h2:∀ i,(p.pend (i::E)).isEmpty=(p.pend (i::E')).isEmpty:=λi=>TV (hi i)
  cases (p.ready E').find? p.quiet with
  | some i=>simp only;rw [h1 i]
  | none =>
   simp only;rcases p.ready E' with _ | ⟨i,_ | ⟨j,cs⟩⟩
   ·rfl
   ·simp only;rw [h1 i,h2 i]
   ·rfl
def K9:∀ (n:Nat) (gc:Bool) (E:List Nat) (hd:HD),Sv p n gc E=some hd→I9 p n gc E=some hd
 | 0,_,_,_,h=>by simp [Sv] at h
 | n+1,gc,E,hd,h=>by
  simp only [Sv] at h;simp only [I9]
  cases hf:(p.ready E).find? p.quiet with
  | some i =>
   rw [hf] at h;simp only at h ⊢
   cases ho:p.hops[i]? with
   | none=>rw [ho] at h;simp at h
   | some o =>
    rw [ho] at h;simp only at h ⊢
    cases hq:Sv p n gc (i::E) with
    | none=>simp [hq] at h
    | some x=>rw [hq] at h;rw [K9 n gc _ _ hq];exact h
  | none =>
   rw [hf] at h;simp only at h ⊢;rcases hr:p.ready E with _ | ⟨i,_ | ⟨j,cs⟩⟩
   ·rw [hr] at h;exact h
   ·rw [hr] at h;simp only at h ⊢
    cases ho:p.hops[i]? with
    | none=>rw [ho] at h;simp at h
    | some o =>
     rw [ho] at h;simp only at h;split at h
     ·rename_i hp0
      cases hq:Sv p n gc (i::E) with
      | none=>simp [hq] at h
      | some x =>
       rw [hq] at h;have h0:p.pend (i::E)=[]:=Y3.1 hp0;have hx:=K9 n gc _ _ hq;simp only [kZ,Option.some.injEq] at h;subst h;simp [ho,hx,h0]
     ·simp at h
   ·rw [hr] at h;simp at h
def Zd {G:Nat→Option (List AV)} {st:St} {l l':List HOper} (h:∀ o∈l',o∈l) (hc:mT G st l):mT G st l':=K3.2 λo ho=>K3.1 hc o (h o ho)
def LA (hp:PlanOk p ops) (hh:∀ (i:Nat) ho,p.hops[i]?=some ho→∃ o,ops[i]?=some o∧(oE P N ops o).map (E9 H)=some ho) {l E0:List Nat} (hl1:∀ i∈l,p.quiet i=false) (hl2:∀ i∈l,∃ o,p.hops[i]?=some o) (hl3:K2 p E0 l=true) (hne:∀ i∈l,i∉E0)
  {K:St→Prop} (hfin:∀ (E:List Nat) (st:St),(∀ x,E.contains x=(l++E0).contains x)→K st→∀ (fuel:Nat) (listed:Array Bool) (a:Act) (w:World),Drawn P G N h0 φ0 T0 w0 p E st listed a w→Ik listed p.hops.length≤fuel→wpAnyIn (fe ro) 0 P .any ops Q fuel listed a w) :
  ∀ (n:Nat) (R E:List Nat) (st:St),R.length=n→(∀ i∈R,i∈l)→(∀ i,i∈E↔(i∈l∧i∉R)∨i∈E0)→R.Nodup→GP P G ((E0.filter p.quiet).filterMap λq=>p.hops[q]?) n (R.map λi=>(p.hops[i]?).getD default) st K →
  ∀ (fuel:Nat) (listed:Array Bool) (a:Act) (w:World),Drawn P G N h0 φ0 T0 w0 p E st listed a w→Ik listed p.hops.length≤fuel→wpAnyIn (fe ro) 0 P .any ops Q fuel listed a w
 | 0,R,E,st,hR,hRl,hE,hnd,hw=>by
  have:R=[]:=CR hR;subst this;refine hfin E st (λx=>?_) hw;rw [oU];simp [hE]
 | n+1,R,E,st,hR,hRl,hE,hnd,hw=>by
  have hrdy:∀ k,k∈p.ready E→k∈R:=λk hk=>by
   simp only [Plan.ready,Ai,rV,eM,Cg,GB,decide_eq_false_iff_not,kY,decide_eq_true_eq] at hk;obtain ⟨hk1,hk2,hk3⟩:=hk;have h1:=hl3;simp only [K2,kY,rV,HR,GB,decide_eq_true_eq] at h1;rcases h1 k hk1 with (h2 | h2) | h2
   ·exact absurd ((hE k).2 (.inr h2)) hk2
   ·apply Qa;intro h3;exact hk2 ((hE k).2 (.inl ⟨h2,h3⟩))
   ·cases R with
    | nil=>simp at hR
    | cons r R =>
     have hr:=hRl r FO;have h4:=hk3 r (h2 r hr);rcases (hE r).1 h4 with h5 | h5
     ·exact absurd FO h5.2
     ·exact absurd h5 (hne r hr)
  have step:∀ (fuel:Nat),(∀ (listed:Array Bool) (a:Act) (w:World),Drawn P G N h0 φ0 T0 w0 p E st listed a w→Ik listed p.hops.length≤fuel→wpAnyIn (fe ro) 0 P .any ops Q fuel listed a w) →
    ∀ (listed:Array Bool) (a:Act) (w:World),Drawn P G N h0 φ0 T0 w0 p E st listed a w→Ik listed p.hops.length≤fuel+1→∀ i∈Region.ready .any ops listed,wpOpIn (fe ro) 0 P ops Q i (wpAnyIn (fe ro) 0 P .any ops Q fuel (listed.setIfInBounds i true)) a w:=by
   intro fuel ih listed a w hJ hf i hi;obtain ⟨hul,hlt,_,hpre⟩:=rE hp hJ hi;have hf':Ik (listed.setIfInBounds i true) p.hops.length≤fuel:=by
    have:=Js (by rw [hJ.size];exact hlt) hul hlt;omega
   by_cases hiE:i∈E
   ·exact TT hp hh hJ hi hiE λa' w' hJ'=>ih _ a' w' hJ' hf'
   ·have hri:i∈p.ready E:=by
     simp only [Plan.ready,Ai,rV,eM,Cg,GB,decide_eq_false_iff_not,kY,decide_eq_true_eq];exact ⟨hlt,hiE,λq hq=>hJ.sub q (hpre q hq)⟩
    have hiR:=hrdy i hri;have hil:=hRl i hiR;obtain ⟨o,ho⟩:=hl2 i hil;obtain ⟨j,hj,hji⟩:=List.mem_iff_getElem.1 hiR;have hoj:(R.map λi=>(p.hops[i]?).getD default)[j]?=some o:=by simp [hj,hji,ho]
    have hwj:=hw j o hoj;have hmemE:∀ k,k∈R.eraseIdx j↔k∈R∧k≠i:=λk=>by
     rw [List.mem_eraseIdx_iff_getElem];constructor
     ·rintro ⟨q,hq,hqj,rfl⟩;exact ⟨jY hq,λe=>hqj ((IV hnd).1 (e.trans hji.symm))⟩
     ·rintro ⟨h1,h2⟩;obtain ⟨q,hq,rfl⟩:=List.mem_iff_getElem.1 h1;exact ⟨q,hq,λe=>h2 (by subst e;exact hji),rfl⟩
    have hpend:∀ q∈p.pend (i::E),q∈(E0.filter p.quiet).filterMap λq=>p.hops[q]?:=λq hq=>by
     simp only [Plan.pend,U9,Ai,eM] at hq ⊢;obtain ⟨k,⟨hk1,hk2,_⟩,hk3⟩:=hq;refine ⟨k,⟨?_,hk2⟩,hk3⟩;rcases gK.1 hk1 with rfl | hk1
     ·rw [hl1 k hil] at hk2;simp at hk2
     ·rcases (hE k).1 hk1 with h5 | h5
      ·rw [hl1 k h5.1] at hk2;simp at hk2
      ·exact h5
    have hchk:∀ s,mT G s ((E0.filter p.quiet).filterMap λq=>p.hops[q]?)→mT G s (if fY o.op then [] else p.pend (i::E)):=λs hc=>by
     split
     ·trivial
     ·exact Zd hpend hc
    refine TU hp hh hJ hi hiE (hl1 i hil) ho (K:=λx T=>GP P G ((E0.filter p.quiet).filterMap λq=>p.hops[q]?) n ((R.eraseIdx j).map λi=>(p.hops[i]?).getD default) ⟨st.r,dT st.s o.dst x,T⟩ K) ?_ ?_
    ·have hmap:(R.map λi=>(p.hops[i]?).getD default).eraseIdx j=(R.eraseIdx j).map λi=>(p.hops[i]?).getD default:=AK _ R j;rw [hmap] at hwj
     cases hwt:eC st.s o.guard with
     | none=>rw [hwt] at hwj;exact hwj
     | some b =>
      rw [hwt] at hwj
      cases b with
      | true=>exact Au (λx T ⟨h1,h2⟩=>⟨hchk _ h1,h2⟩) hwj
      | false=>exact ⟨hchk _ hwj.1,hwj.2⟩
    ·intro x T a' w' hk hJ';refine LA hp hh hl1 hl2 hl3 hne hfin n (R.eraseIdx j) (i::E) _ (by rw [aDo hj];omega) (λk hk=>hRl k ((hmemE k).1 hk).1) (λk=>?_) (hnd.eraseIdx j) hk fuel _ a' w' hJ' hf';rw [gK,hE,hmemE];constructor
     ·rintro (rfl | h | h)
      ·exact .inl ⟨hil,λh=>h.2 rfl⟩
      ·exact .inl ⟨h.1,λh2=>h.2 h2.1⟩
      ·exact .inr h
     ·rintro (h | h)
      ·by_cases hki:k=i
       ·exact .inl hki
       ·exact .inr (.inl ⟨h.1,λh2=>h.2 ⟨h2,hki⟩⟩)
      ·exact .inr (.inr h)
  intro fuel
  induction fuel with
  | zero =>
   intro listed a w hJ hf;exfalso;have hall:=Gg (Qu.1 hf)
   cases R with
   | nil=>simp at hR
   | cons r R =>
    have hr:=hRl r FO;obtain ⟨o,ho⟩:=hl2 r hr;have h4:=hJ.sub r (hall r (HM.1 ho).1);rcases (hE r).1 h4 with h5 | h5
    ·exact absurd FO h5.2
    ·exact absurd h5 (hne r hr)
  | succ fuel ih =>
   intro listed a w hJ hf;refine ⟨λhr=>?_,step fuel (λl a w=>ih l a w) listed a w hJ hf⟩;exfalso;have hall:=Hg hp hJ.size hr
   cases R with
   | nil=>simp at hR
   | cons r R =>
    have hr:=hRl r FO;obtain ⟨o,ho⟩:=hl2 r hr;have h4:=hJ.sub r (hall r (HM.1 ho).1);rcases (hE r).1 h4 with h5 | h5
    ·exact absurd FO h5.2
    ·exact absurd h5 (hne r hr)
def Bh (hp:PlanOk p ops) (hh:∀ (i:Nat) ho,p.hops[i]?=some ho→∃ o,ops[i]?=some o∧(oE P N ops o).map (E9 H)=some ho) {K:St→Prop}
  (hn:∀ st' a' w',K st'→SInv P G N h0 φ0 T0 w0 st' a' w'→Q .normal a' w'):∀ (n:Nat) (gc:Bool) (E:List Nat) (st:St),tR P G p n gc E st K →
  ∀ (fuel:Nat) (listed:Array Bool) (a:Act) (w:World),Drawn P G N h0 φ0 T0 w0 p E st listed a w→Ik listed p.hops.length≤fuel→wpAnyIn (fe ro) 0 P .any ops Q fuel listed a w
 | 0,gc,E,st,hw=>hw.elim
 | n+1,gc,E,st,hw=>by
  intro fuel listed a w hJ hf;simp only [tR] at hw;split at hw
  ·rename_i i hfi;have hri:=NU hfi;have hqi:=Ql hfi;split at hw
   ·rename_i o ho;split at hw
    ·rename_i hwt;split at hw
     ·rename_i x T' he;exact Bh hp hh hn n gc (i::E) _ hw fuel listed a w (Jt hp hJ hri hqi ho (.inl ⟨hwt,T',he⟩)) hf
     ·exact hw.elim
    ·rename_i hwt;exact Bh hp hh hn n gc (i::E) _ hw fuel listed a w (Jt hp hJ hri hqi ho (.inr ⟨hwt,rfl⟩)) hf
    ·exact hw.elim
   ·exact hw.elim
  ·rename_i hnone;have hnq:∀ i∈p.ready E,p.quiet i=false:=λi hi=>by
    have:=Mu.1 hnone i hi;simpa using this
   have step:∀ (fuel:Nat),(∀ (listed:Array Bool) (a:Act) (w:World),Drawn P G N h0 φ0 T0 w0 p E st listed a w→Ik listed p.hops.length≤fuel→wpAnyIn (fe ro) 0 P .any ops Q fuel listed a w) →
     ∀ (listed:Array Bool) (a:Act) (w:World),Drawn P G N h0 φ0 T0 w0 p E st listed a w→Ik listed p.hops.length≤fuel+1→∀ i∈Region.ready .any ops listed,wpOpIn (fe ro) 0 P ops Q i (wpAnyIn (fe ro) 0 P .any ops Q fuel (listed.setIfInBounds i true)) a w:=by
    intro fuel ih listed a w hJ hf i hi;obtain ⟨hul,hlt,_,hpre⟩:=rE hp hJ hi;have hf':Ik (listed.setIfInBounds i true) p.hops.length≤fuel:=by
     have:=Js (by rw [hJ.size];exact hlt) hul hlt;omega
    by_cases hiE:i∈E
    ·exact TT hp hh hJ hi hiE λa' w' hJ'=>ih _ a' w' hJ' hf'
    ·have hri:i∈p.ready E:=by
      simp only [Plan.ready,Ai,rV,eM,Cg,GB,decide_eq_false_iff_not,kY,decide_eq_true_eq];exact ⟨hlt,hiE,λq hq=>hJ.sub q (hpre q hq)⟩
     split at hw
     ·rename_i he;rw [he] at hri;simp at hri
     ·rename_i c cs he;rw [he] at hri;obtain ⟨o,h1,h3⟩:=hw i hri;exact TU hp hh hJ hi hiE (hnq i (by rw [he];exact hri)) h1 (K:=λy T=>tR P G p n (gc||!cs.isEmpty) (i::E) ⟨st.r,dT st.s o.dst y,T⟩ K) h3 λy T a' w' hk hJ'=>Bh hp hh hn n _ (i::E) _ hk fuel _ a' w' hJ' hf'
   have fin:∀ (listed:Array Bool) (a:Act) (w:World),Drawn P G N h0 φ0 T0 w0 p E st listed a w→(∀ i,i<p.hops.length→listed.getD i false=true)→Q .normal a w:=by
    intro listed a w hJ hall;split at hw
    ·obtain ⟨s',hs,hS⟩:=hJ.inv;have hS':SInv P G N h0 φ0 T0 w0 st a w:=by
      obtain ⟨hr,_,⟨h,φ,hG,hE,hI,hSl⟩,hsz,hdf⟩:=hS;refine ⟨hr,hJ.once,⟨h,φ,hG,hE,hI,λt=>?_⟩,hsz,hdf⟩;have h1:=hSl t;rcases hs t with h2 | ⟨k,ok,h2,h3,_⟩
      ·simp only at h1;rw [h2] at h1;exact h1
      ·rw [hall k (hJ.lt k h2)] at h3;simp at h3
     refine hn _ a w hw ?_;split
     ·exact Cw _ hS'
     ·exact hS'
    ·rename_i c cs he;have hc:c∈p.ready E:=by rw [he];simp
     simp only [Plan.ready,Ai,rV,eM,Cg,GB,decide_eq_false_iff_not] at hc;exact absurd (hJ.sub c (hall c hc.1)) hc.2.1
   refine (?_:∀ (fuel:Nat) (listed:Array Bool) (a:Act) (w:World),Drawn P G N h0 φ0 T0 w0 p E st listed a w→Ik listed p.hops.length≤fuel→wpAnyIn (fe ro) 0 P .any ops Q fuel listed a w) fuel listed a w hJ hf;clear hf hJ listed a w fuel;intro fuel listed a w
   induction fuel generalizing listed a w with
   | zero =>
    intro hJ hf;have hall:=Gg (Qu.1 hf);refine ⟨?_,fin listed a w hJ hall⟩
    cases hr:Region.ready .any ops listed with
    | nil=>rfl
    | cons i l =>
     obtain ⟨hul,hlt,_,_⟩:=rE hp hJ (i:=i) (by rw [hr];simp);rw [hall i hlt] at hul;simp at hul
   | succ fuel ih =>
    intro hJ hf;exact ⟨λhr=>fin listed a w hJ (Hg hp hJ.size hr),step fuel (λl a w=>ih l a w) listed a w hJ hf⟩
def Cy (hp:PlanOk p ops) (hh:∀ (i:Nat) ho,p.hops[i]?=some ho→∃ o,ops[i]?=some o∧(oE P N ops o).map (E9 H)=some ho) {K:St→Prop}
  (hn:∀ st' a' w',K st'→SInv P G N h0 φ0 T0 w0 st' a' w'→Q .normal a' w'):∀ (n:Nat) (gc:Bool) (E:List Nat) (hd:HD) (st:St),I9 p n gc E=some hd→D4 P G hd st K →
  ∀ (fuel:Nat) (listed:Array Bool) (a:Act) (w:World),Drawn P G N h0 φ0 T0 w0 p E st listed a w→Ik listed p.hops.length≤fuel→wpAnyIn (fe ro) 0 P .any ops Q fuel listed a w
 | 0,gc,E,hd,st,hm,_=>by simp [I9] at hm
 | n+1,gc,E,hd,st,hm,hw=>by
  intro fuel listed a w hJ hf;simp only [I9] at hm;split at hm
  ·
   rename_i i hfi;have hri:=NU hfi;have hqi:=Ql hfi;split at hm
   ·rename_i o ho
    cases hx:I9 p n gc (i::E) with
    | none=>simp [hx] at hm
    | some hd' =>
     simp only [hx,kZ,Option.some.injEq] at hm;subst hm;simp only [D4] at hw;split at hw
     ·rename_i hwt;split at hw
      ·rename_i x T' he;exact Cy hp hh hn n gc (i::E) hd' _ hx hw fuel listed a w (Jt hp hJ hri hqi ho (.inl ⟨hwt,T',he⟩)) hf
      ·exact hw.elim
     ·rename_i hwt;exact Cy hp hh hn n gc (i::E) hd' _ hx hw fuel listed a w (Jt hp hJ hri hqi ho (.inr ⟨hwt,rfl⟩)) hf
     ·exact hw.elim
   ·simp at hm
  ·rename_i hnone;have hnq:∀ i∈p.ready E,p.quiet i=false:=λi hi=>by
    have:=Mu.1 hnone i hi;simpa using this
   by_cases hperm:∃ c cs,p.ready E=c::cs∧(8≤cs.length&&K2 p E (c::cs)&&(Sv p n true ((c::cs)++E)).isSome)=true
   ·obtain ⟨c,cs,he,hb⟩:=hperm;rw [he] at hm;simp only [hb,if_true] at hm
    cases hq:Sv p n true ((c::cs)++E) with
    | none=>rw [hq] at hm;simp at hm
    | some x =>
     rw [hq] at hm;simp only [kZ,Option.some.injEq] at hm;subst hm;simp only [D4] at hw;rw [aL] at hw;have hb2:K2 p E (c::cs)=true:=by simp only [eM] at hb;exact hb.1.2
     have hmem:∀ i∈c::cs,i<p.hops.length∧i∉E:=λi hi=>by
      rw [←he] at hi;simp only [Plan.ready,Ai,rV,eM,Cg,GB,decide_eq_false_iff_not] at hi;exact ⟨hi.1,hi.2.1⟩
     have hnd:(c::cs).Nodup:=by rw [←he];exact List.Pairwise.filter _ Y4
     exact LA hp hh (l:=c::cs) (E0:=E) (λi hi=>hnq i (by rw [he];exact hi)) (λi hi=>⟨_,fV (hmem i hi).1⟩) hb2 (λi hi=>(hmem i hi).2)
      (λE2 st2 hE2 hk fuel listed a w hJ hf=>Cy hp hh hn n true E2 x st2 (K9 _ _ _ _ ((Nw n true E2 _ hE2).trans hq)) hk fuel listed a w hJ hf)
      (c::cs).length (c::cs) E st rfl (λ_ h=>h) (λi=>⟨λh=>.inr h,λh=>h.elim (λh=>absurd h.1 h.2) id⟩) hnd hw fuel listed a w hJ hf
   by_cases hplan:∃ c cs,p.ready E=c::cs∧(!cs.isEmpty&&12≤((List.range p.hops.length).filter λk=>!E.contains k&&!p.quiet k).length)=true
   ·obtain ⟨c,cs,he,hb⟩:=hplan;rw [he] at hm;simp only at hm;rw [if_neg (λh=>hperm ⟨c,cs,he,h⟩),if_pos hb] at hm;injection hm with hm;subst hm;simp only [D4] at hw;exact Bh hp hh hn n gc E st hw fuel listed a w hJ hf
   replace hm:(match p.ready E with
    | []=>some (.done gc)
    | c::cs=>(c::cs).foldr (λi acc=>match acc,p.hops[i]?,I9 p n (gc||!cs.isEmpty) (i::E) with
     | some t,some o,some x=>some (.alt o (if fY o.op then [] else p.pend (i::E)) x t)
     | _,_,_=>none) (some .no))=some hd:=by
    cases he:p.ready E with
    | nil=>rw [he] at hm;exact hm
    | cons c cs =>
     rw [he] at hm
     simp only at hm ⊢
     rw [if_neg (λh=>hperm ⟨c,cs,he,h⟩),if_neg (λh=>hplan ⟨c,cs,he,h⟩)] at hm
     exact hm
   have step:∀ (fuel:Nat),(∀ (listed:Array Bool) (a:Act) (w:World),Drawn P G N h0 φ0 T0 w0 p E st listed a w→Ik listed p.hops.length≤fuel→wpAnyIn (fe ro) 0 P .any ops Q fuel listed a w) →
     ∀ (listed:Array Bool) (a:Act) (w:World),Drawn P G N h0 φ0 T0 w0 p E st listed a w→Ik listed p.hops.length≤fuel+1→∀ i∈Region.ready .any ops listed,wpOpIn (fe ro) 0 P ops Q i (wpAnyIn (fe ro) 0 P .any ops Q fuel (listed.setIfInBounds i true)) a w:=by
    intro fuel ih listed a w hJ hf i hi;obtain ⟨hul,hlt,_,hpre⟩:=rE hp hJ hi;have hf':Ik (listed.setIfInBounds i true) p.hops.length≤fuel:=by
     have:=Js (by rw [hJ.size];exact hlt) hul hlt;omega
    by_cases hiE:i∈E
    ·exact TT hp hh hJ hi hiE λa' w' hJ'=>ih _ a' w' hJ' hf'
    ·have hri:i∈p.ready E:=by
      simp only [Plan.ready,Ai,rV,eM,Cg,GB,decide_eq_false_iff_not,kY,decide_eq_true_eq];exact ⟨hlt,hiE,λq hq=>hJ.sub q (hpre q hq)⟩
     split at hm
     ·rename_i he;rw [he] at hri;simp at hri
     ·rename_i c cs he;rw [he] at hri;obtain ⟨o,x,h1,h2,h3⟩:=RM hm hw i hri;exact TU hp hh hJ hi hiE (hnq i (by rw [he];exact hri)) h1 h3 λy T a' w' hk hJ'=>Cy hp hh hn n _ (i::E) x _ h2 hk fuel _ a' w' hJ' hf'
   have fin:∀ (listed:Array Bool) (a:Act) (w:World),Drawn P G N h0 φ0 T0 w0 p E st listed a w→(∀ i,i<p.hops.length→listed.getD i false=true)→Q .normal a w:=by
    intro listed a w hJ hall;split at hm
    ·injection hm with hm;subst hm;simp only [D4] at hw;obtain ⟨s',hs,hS⟩:=hJ.inv;have hS':SInv P G N h0 φ0 T0 w0 st a w:=by
      obtain ⟨hr,_,⟨h,φ,hG,hE,hI,hSl⟩,hsz,hdf⟩:=hS;refine ⟨hr,hJ.once,⟨h,φ,hG,hE,hI,λt=>?_⟩,hsz,hdf⟩;have h1:=hSl t;rcases hs t with h2 | ⟨k,ok,h2,h3,_⟩
      ·simp only at h1;rw [h2] at h1;exact h1
      ·rw [hall k (hJ.lt k h2)] at h3;simp at h3
     refine hn _ a w hw ?_;split
     ·exact Cw _ hS'
     ·exact hS'
    ·rename_i c cs he;have hc:c∈p.ready E:=by rw [he];simp
     simp only [Plan.ready,Ai,rV,eM,Cg,GB,decide_eq_false_iff_not] at hc;exact absurd (hJ.sub c (hall c hc.1)) hc.2.1
   refine (?_:∀ (fuel:Nat) (listed:Array Bool) (a:Act) (w:World),Drawn P G N h0 φ0 T0 w0 p E st listed a w→Ik listed p.hops.length≤fuel→wpAnyIn (fe ro) 0 P .any ops Q fuel listed a w) fuel listed a w hJ hf;clear hf hJ listed a w fuel;intro fuel listed a w
   induction fuel generalizing listed a w with
   | zero =>
    intro hJ hf;have hall:=Gg (Qu.1 hf);refine ⟨?_,fin listed a w hJ hall⟩
    cases hr:Region.ready .any ops listed with
    | nil=>rfl
    | cons i l =>
     obtain ⟨hul,hlt,_,_⟩:=rE hp hJ (i:=i) (by rw [hr];simp);rw [hall i hlt] at hul;simp at hul
   | succ fuel ih =>
    intro hJ hf;exact ⟨λhr=>fin listed a w hJ (Hg hp hJ.size hr),step fuel (λl a w=>ih l a w) listed a w hJ hf⟩
def TW {hd:HD} {K:St→Prop} (hc:Gf P N H ops=some hd) (hw:D4 P G hd st K) (hS:SInv P G N h0 φ0 T0 w0 st a w)
  (hn:∀ st' a' w',K st'→SInv P G N h0 φ0 T0 w0 st' a' w'→Q .normal a' w'):wpAnyIn (fe ro) 0 P .any ops Q ops.size (Array.replicate ops.size false) a w:=by
 unfold Gf at hc;split at hc
 ·simp at hc
 ·rename_i hl hcl;simp only at hc;split at hc
  ·rename_i hok;simp only [eM,beq_iff_eq] at hok;obtain ⟨hl0,hcl0,hcle⟩:=Yf.1 hcl;obtain ⟨hlen,hget⟩:=Il hcl0;have hp:=aC3 hok.2 hok.1;have hf:∀ i,(Array.replicate ops.size false).getD i false=false:=λi=>by simp [KF,Array.getElem?_replicate];split<;>rfl
   refine Cy (H:=H) hp (λi ho hi=>?_) hn _ _ [] hd st hc hw _ _ a w ⟨by simpa using hok.2.symm,by simp,λi h=>by rw [hf] at h;simp at h,λi h=>by rw [hf] at h;simp at h,by simp,by simp,by simp,hS.once,st.s,λt=>.inl rfl,hS⟩ ?_
   ·rw [←hcle,eD] at hi;obtain ⟨ho0,hi0,hi1⟩:=Yf.1 hi;obtain ⟨o,h1,h2⟩:=hget i ho0 hi0;exact ⟨o,by simpa using h1,by rw [h2,kZ,hi1]⟩
   ·have:∀ m,Ik (Array.replicate ops.size false) m=m:=λm=>by
     induction m with
     | zero=>rfl
     | succ m ih=>simp only [Ik,ih,hf];simp
    rw [this];exact Nat.le_of_eq hok.2
  ·simp at hc
end
def SInv.drawn {P:Program} {G:Nat→Option (List AV)} {N:Nat} {h0:GH} {φ0:Nat→Value} {T0:aQ} {w0:World} {st:St} {a:Act} {w:World} (hS:SInv P G N h0 φ0 T0 w0 st a w) :
  SInv P G N h0 φ0 T0 w0 st a { w with drawn:=w.drawn+1 }:=by
 obtain ⟨hr,honce,⟨h,φ,hG,hE,hI,hSl⟩,hsz,hdf⟩:=hS;exact ⟨hr,honce,⟨h,φ,hG,⟨hE.os,hE.tape,hE.output,hE.size,hE.frame,hE.le,hE.gfr,hE.phi,hE.org,hE.len,nX hE.drawn (Ni _)⟩,⟨hI.gh,hI.obj,hI.dis⟩,hSl⟩,hsz,hdf⟩
end
section
def aII {T:aQ} {i:Nat} {o:AObj} (e:T[i]?=some (some o)):i<T.length:=by
 rcases bY i T.length with hh | hh
 ·exact hh
 ·rw [gV hh] at e;simp at e
def ED {w:World} {l:Nat} {o:Obj} (e:w.heap[l]?=some o):l<w.heap.size:=by
 rcases bY l w.heap.size with hh | hh
 ·exact hh
 ·rw [GA hh] at e;simp at e
section
variable {h h' h2:GH} {φ φ' φ2:Nat→Value} {T T' X:aQ} {w w' w3:World} {l:Nat}
def O1 (hI:Inv h φ w T) (hl:∀ i x,T[i]?=some (some x)→mC (φ i)≠some l) (hg:h l=none) (o:Obj):Inv h φ (w.putObj l o) T:=by
 refine ⟨λb cs e=>?_,λi x e=>?_,hI.dis⟩
 ·obtain ⟨E,fr,hw⟩:=hI.gh b cs e;refine ⟨E,fr,?_⟩;rw [World.putObj_heap_other (λhb=>by subst hb;rw [hg] at e;simp at e)];exact hw
 ·have h1:=hI.obj i x e;exact oC h1 (Ad.refl h) (fW _) (λ_ _=>rfl) (aII e) λg hb=>⟨World.putObj_heap_other λhgl=>hl i x e (hgl ▸ hb),(gM h1 hb).2⟩
def aC4 (hE:Evo h φ T w h' φ' T' w') (o:Obj):Evo h φ T (w.putObj l o) h' φ' T' (w'.putObj l o):=by
 refine ⟨hE.os,hE.tape,hE.output,by simpa using hE.size,λb hb hn=>?_,hE.le,λb cs e=>?_,hE.phi,λi o b e hb=>?_,hE.len,hE.drawn⟩
 ·rw [World.putObj_size] at hb;by_cases hbl:b=l
  ·subst hbl;rw [World.putObj_heap_same hb,World.putObj_heap_same (CU hb hE.size)]
  ·rw [World.putObj_heap_other hbl,World.putObj_heap_other hbl];exact hE.frame b hb hn
 ·rw [World.putObj_size];exact hE.gfr b cs e
 ·rw [World.putObj_size];exact hE.org i o b e hb
def Ze (hI:Inv h φ w T) {i:Nat} {r:Loop} {s:List (Nat×AV)} (hi:cR T i=some (.lp r s)) :
  ∃ l:Nat,φ i=.func (.yield l) #[] #[]∧w.heap[l]?=some (.loop r)∧h l=none∧(∀ i x y,(i,x)∈s→(i,y)∈s→x=y)∧∀ p∈s,Rp h φ T.length p.2 (r.tmps.getD p.1 undef):=hI.obj i _ (bD hi)
def Zf (hI:Inv h φ w T) {i:Nat} {r:Loop} {s:List (Nat×AV)} (hi:cR T i=some (.lp r s)) (hφ:φ i=.func (.yield l) #[] #[]):∀ j x,(T.set i none)[j]?=some (some x)→mC (φ j)≠some l:=by
 intro j x e hb;rcases kF e with ⟨_,e'⟩ | ⟨hne,e'⟩
 ·simp at e'
 ·exact hne (hI.dis j i x _ l e' (bD hi) hb (by rw [hφ];rfl))
def O2 (hI:Inv h φ w T) {i:Nat} {r:Loop} {s:List (Nat×AV)} (hi:cR T i=some (.lp r s)) (hφ:φ i=.func (.yield l) #[] #[]) {o0:Obj}
  (hE:Evo h φ (T.set i none) (w.putObj l o0) h2 φ2 X w3) (hX:Inv h2 φ2 w3 X) (r':Loop) (hr:r'.tmps=r.tmps) :
  Evo h φ T w h2 φ2 (X.set i (some (.lp r' s))) (w3.putObj l (.loop r'))∧Inv h2 φ2 (w3.putObj l (.loop r')) (X.set i (some (.lp r' s))):=by
 obtain ⟨l',e1,e2,e3,e4,e5⟩:=Ze hI hi;rw [hφ] at e1;injection e1 with e1 _ _;injection e1 with e1;subst e1;have hlt:l<w.heap.size:=ED e2;have hilt:=VP hi;have hoff:=Zf hI hi hφ;have hlen:T.length≤X.length:=by have:=hE.len;rwa [mA] at this
 have hlt3:l<w3.heap.size:=by have:=hE.size;rw [World.putObj_size] at this;omega
 have hφ2:φ2 i=.func (.yield l) #[] #[]:=by rw [hE.phi i (by rw [mA];exact hilt)];exact hφ
 have up:∀ j x b,(T.set i none)[j]?=some (some x)→mC (φ j)=some b→∃ j o,T[j]?=some (some o)∧mC (φ j)=some b:=by
  intro j x b e hb;rcases kF e with ⟨_,e'⟩ | ⟨_,e'⟩
  ·simp at e'
  ·exact ⟨j,x,e',hb⟩
 have notl:∀ j o,X[j]?=some (some o)→mC (φ2 j)≠some l:=by
  intro j o e hb;rcases hE.org j o l e hb with h1 | ⟨j',o',h1,h2⟩
  ·rw [World.putObj_size] at h1;omega
  ·exact hoff j' o' h1 h2
 have hgh:h2 l=none:=by
  cases hh:h2 l with
  | none=>rfl
  | some cs =>
   rcases hE.gfr l cs hh with h1 | h1 | ⟨j,o,h1,h2⟩
   ·rw [e3] at h1;simp at h1
   ·rw [World.putObj_size] at h1;omega
   ·exact absurd h2 (hoff j o h1)
 have hX':=O1 hX notl hgh (.loop r');refine ⟨⟨hE.os,hE.tape,hE.output,by have:=hE.size;simpa using this,λb hb hn=>?_,hE.le,λb cs e=>?_,λj hj=>hE.phi j (by rw [mA];exact hj),λj o b e hb=>?_,by rw [mA];exact hlen,hE.drawn⟩,⟨hX'.gh,λj o e=>?_,λj k oj ok b ej ek hbj hbk=>?_⟩⟩
 ·have hbl:b≠l:=λhbl=>hn i _ (bD hi) (by rw [hφ,hbl];rfl);rw [World.putObj_heap_other hbl,hE.frame b (by rw [World.putObj_size];exact hb) λj o ej hbj=>?_,World.putObj_heap_other hbl];obtain ⟨j',o',h1,h2⟩:=up j o b ej hbj;exact hn j' o' h1 h2
 ·rcases hE.gfr b cs e with h1 | h1 | ⟨j,o,h1,h2⟩
  ·exact .inl h1
  ·rw [World.putObj_size] at h1;exact .inr (.inl h1)
  ·exact .inr (.inr (up j o b h1 h2))
 ·rcases kF e with ⟨rfl,_⟩ | ⟨_,e'⟩
  ·rw [hφ2] at hb;exact .inr ⟨j,_,bD hi,by rw [hφ];exact hb⟩
  ·rcases hE.org j o b e' hb with h1 | ⟨j',o',h1,h2⟩
   ·rw [World.putObj_size] at h1;exact .inl h1
   ·exact .inr (up j' o' b h1 h2)
 ·rw [mA];rcases kF e with ⟨rfl,e'⟩ | ⟨_,e'⟩
  ·injection e' with e';subst e';refine ⟨l,hφ2,World.putObj_heap_same hlt3,hgh,e4,λp hp=>?_⟩;rw [hr];exact (e5 p hp).mono hE.le hlen λj hj=>hE.phi j (by rw [mA];exact hj)
  ·exact hX'.obj j o e'
 ·rcases kF ej with ⟨rfl,_⟩ | ⟨_,ej'⟩<;>rcases kF ek with ⟨rfl,_⟩ | ⟨_,ek'⟩
  ·rfl
  ·rw [hφ2] at hbj;simp only [mC,Option.some.injEq] at hbj;subst hbj;exact absurd hbk (notl k ok ek')
  ·rw [hφ2] at hbk;simp only [mC,Option.some.injEq] at hbk;subst hbk;exact absurd hbj (notl j oj ej')
  ·exact hX.dis j k oj ok b ej' ek' hbj hbk
def LB {d:List Nat} {q:Nat×AV}:∀ {s:List (Nat×AV)},q∈E7 d s→q∈s
 | [],h=>by simp [E7] at h
 | (i,x)::s,h=>by
  simp only [E7] at h;split at h
  ·rcases gK.1 h with h | h
   ·simp [h]
   ·simp [LB h]
  ·simp [LB h]
def TX {n:Nat} {s:List (Nat×AV)} {t:Array Value} (hs:∀ p∈s,Rp h φ n p.2 (t.getD p.1 undef)):rP h φ n s ⟨t,[]⟩:=by
 intro i;rcases Oy (l:=s) (i:=i) with e | e
 ·rw [e];simp [Rp]
 ·exact hs _ e
def Nx {n:Nat}:∀ {ps:List Nat} {xs:List AV} {us:List Value} {s:List (Nat×AV)} {t:Array Value},rP h φ n s ⟨t,[]⟩→Hb s→bW h φ n xs us→xs.length=ps.length→(∀ p∈ps,p<t.size) →
  rP h φ n (vI s ps xs) ⟨(ps.zip us).foldl (λt (p,u)=>t.setIfInBounds p u) t,[]⟩∧Hb (vI s ps xs)∧((ps.zip us).foldl (λt (p,u)=>t.setIfInBounds p u) t).size=t.size
 | [],[],us,s,t,hs,ho,hr,_,_=>by simpa [vI] using ⟨hs,ho⟩
 | [],x::xs,us,s,t,hs,ho,hr,hl,_=>by simp at hl
 | p::ps,[],us,s,t,hs,ho,hr,hl,_=>by simp at hl
 | p::ps,x::xs,us,s,t,hs,ho,hr,hl,hp=>by
  simp only [bW] at hr;obtain ⟨u,us',rfl,h1,h2⟩:=hr;have hs':=Gc (o:=some p) hs h1 (λj hj=>by injection hj with hj;subst hj;exact hp p (by simp));have:=Nx (t:=t.setIfInBounds p u) (s:=Cm s p x) hs' (Ky ho p x) h2 (by simpa using hl) (λq hq=>by rw [aDv];exact hp q (by simp [hq]));simpa only [vI,List.zip_cons_cons,HO,aDv] using this
end
end
section
def Gh (L:List Nat):List Nat→List Nat
 | []=>L
 | i::r=>if L.contains i then Gh L r else Gh (i::L) r
def JA (L d:List Nat):List Nat:=L.filter λi=>!d.contains i
def O3 (ops:Array Oper):List Oper→List Nat→List Nat→List Nat→List Nat×List Nat×List Nat
 | [],e,w,a=>(e,w,a)
 | o::os,e,w,a =>
  let g:=match o.guard with | some (j,_)=>(match (ops[j]?).bind (·.dst) with | some d=>[d] | none=>[]) | none=>[]
  let rd:=JA (g++o.op.operands.toList.flatMap bC) w
  match o.dst with
  | some d=>O3 ops os (Gh e rd) (d::w) (d::a)
  | none=>O3 ops os (Gh e rd) w a
def atE:List (Nat×List Nat)→Nat→List Nat
 | [],_=>[]
 | (i,x)::r,j=>if i=j then x else atE r j
def oF (ex:List (Nat×List Nat)) (rt:List Nat):Code→List Nat→List Nat
 | .region _ ops _,out=>let u:=O3 ops ops.toList [] [] [];Gh u.1 (JA out u.2.1)
 | .seq a b,out=>oF ex rt a (oF ex rt b out)
 | .cond c a b,out=>Gh (Gh (bC c) (oF ex rt a out)) (oF ex rt b out)
 | .block i a,out=>oF ((i,out)::ex) rt a out
 | .loop a,_=>oF ex rt a []
 | .exit i,_=>atE ex i
 | .ret,_=>rt
 | .scope a,out=>oF ex rt a out
 | .rangeFunc g ps a b,out =>
  let ex':=ex.map λp=>(p.1,([]:List Nat))
  Gh (Gh (Gh (bC g) (JA (oF ex' [] a (oF ex' [] b [])) ps.toList)) out) (Gh rt (ex.flatMap (·.2)))
 | _,out=>out
def Vj (d:List Nat) (h:HC):HC:=match d with | []=>h | d=>.seq h (.kill d)
def Vk (d:List Nat) (h:HC):HC:=match d with | []=>h | d=>.seq (.kill d) h
def XG (wr:List Nat):List (Nat×Option Nat×Nat)→HC→HC
 | [],h=>h
 | (j,c,k)::r,h=>XG wr r (if wr.contains j&&decide (k<1000) then .seq h (match k with | 0=>.shut (c.getD j) | k=>.own j c k) else h)
def aEa (H:List (Nat×Option Nat×Nat)):Option Nat→Option Nat
 | none=>none
 | some d=>match H.find? λx=>x.1==d&&x.2.2==1000 with
  | some x=>some (x.2.1.getD d)
  | none=>none
def Zg (H:List (Nat×Option Nat×Nat)):List HOper→List HOper→HC
 | acc,[]=>.reg acc
 | acc,o::os=>match aEa H o.dst with
  | some j=>.seq (.seq (.reg (acc++[o])) (.shut j)) (Zg H [] os)
  | none=>Zg H (acc++[o]) os
def cI (P:Program) (N:Nat) (H:List (Nat×Option Nat×Nat)):Code→List (Nat×List Nat)→List Nat→List Nat→Option HC
 | .skip,_,_,_=>some .skip
 | .region id ops dr,ex,rt,out =>
  let u:=O3 ops ops.toList [] [] []
  let k:=JA (Gh u.2.2 (oF ex rt (.region id ops dr) out)) out
  if dr then (if P.follows .mixedOrders then (Gf P N H ops).map λd=>XG (JA u.2.2 k) H (Vj k (.regd d)) else none)
  else (fI P N ops ops.toList).map λl=>XG (JA u.2.2 k) H (Vj k (Zg H [] l))
 | .seq a b,ex,rt,out=>match cI P N H a ex rt (oF ex rt b out),cI P N H b ex rt out with
  | some x,some y=>some (.seq x y)
  | _,_=>none
 | .cond c a b,ex,rt,out =>
  let la:=oF ex rt a out
  let lb:=oF ex rt b out
  let all:=Gh (Gh (bC c) la) lb
  match cI P N H a ex rt out,cI P N H b ex rt out with
  | some x,some y=>some (.cond c (Vk (JA all la) x) (Vk (JA all lb) y))
  | _,_=>none
 | .block i a,ex,rt,out=>(cI P N H a ((i,out)::ex) rt out).map λh=>XG [1000000+i] H (.block i h)
 | .loop a,ex,rt,_=>(cI P N H a ex rt (oF ex rt a [])).map (.loop [])
 | .exit i,_,_,_=>some (.exit i)
 | .ret,_,_,_=>some .ret
 | .scope a,ex,rt,out=>cI P N H a ex rt out
 | .label _,_,_,_=>some .skip
 | .rangeFunc g ps a b,ex,_,_ =>
  let ex':=ex.map λp=>(p.1,([]:List Nat))
  match cI P N H a ex' [] (oF ex' [] b []),cI P N H b ex' [] [] with
  | some x,some y=>if ps.toList.all (· < N) then some (.rng g ps.toList (JA (oF ex' [] a (oF ex' [] b [])) ps.toList) x y) else none
  | _,_=>none
 | _,_,_,_=>none
structure HFun where
 nt:Nat
 res:List (Nat×Option (Option Nat))
 code:HC
 deriving Inhabited
def LC (P:Program):List ResultVar→Option (List (Nat×Option (Option Nat)))
 | []=>some []
 | .tmp t::r=>(LC P r).map ((t,none)::·)
 | .cell a t::r=>match Eg P t with
  | some n=>(LC P r).map ((a,some n)::·)
  | none=>none
def sA (P:Program) (f:FuncId) (H:List (Nat×Option Nat×Nat)):Option HFun :=
  match P.funcs[f]? with
  | none=>none
  | some fn=>if fn.name == "runtime.NumGoroutine" then none else match fn.body,LC P fn.results.toList with
    | some c,some rs=>let rt:=rs.map (·.1)
      (cI P fn.ntmps H c [] rt rt).map λh=>⟨fn.ntmps,rs,Vk (JA (List.range (fn.params.size+fn.nfree)) (oF [] rt c rt)) h⟩
    | _,_=>none
section
variable {P:Program} {G:Nat→Option (List AV)} {N:Nat} {H:List (Nat×Option Nat×Nat)} {h0:GH} {φ0:Nat→Value} {T0:aQ} {w0:World} {a:Act} {w:World}
def exQ (Q:Ex→St→Prop):Exit→St→Prop
 | .normal,s=>Q .normal s
 | .exit i,s=>Q (.exit i) s
 | .ret,s=>Q .ret s
 | _,_=>False
def RO {p:Nat→Prop} (h:∃ n,p n):∃ n,p n∧∀ m,m<n→¬p m:=by
 obtain ⟨n,hn⟩:=h
 induction n using Nat.strongRecOn with
 | _ n ih =>
  by_cases hx:∃ m,m<n∧p m
  ·obtain ⟨m,hm,hp⟩:=hx;exact ih m hm hp
  ·exact ⟨n,hn,λm hm hp=>hx ⟨m,hm,hp⟩⟩
def SInv.kill {st:St} (hS:SInv P G N h0 φ0 T0 w0 st a w) (d:List Nat):SInv P G N h0 φ0 T0 w0 ⟨st.r,kK d st.s,st.T⟩ a w:=by
 obtain ⟨hr,honce,⟨h,φ,hG,hE,hI,hSl⟩,hsz,hdf⟩:=hS;have ho:Hb (kK d st.s):=λi x y hx hy=>honce i x y (GZ hx) (GZ hy);refine ⟨hr,ho,⟨h,φ,hG,hE,hI,λi=>?_⟩,hsz,hdf⟩;show Rp h φ st.T.length (aU (kK d st.s) i) _;rcases Oy (l:=kK d st.s) (i:=i) with e | e
 ·rw [e];simp [Rp]
 ·rw [←Kx honce (GZ e)];exact hSl i
def XH {d:List Nat} {c:HC} {Q:Ex→St→Prop} {st:St} (h:dS P G (Vj d c) Q st):∃ R:Ex→St→Prop,dS P G c R st∧∀ s,R .normal s→Q .normal s∨Q .normal ⟨s.r,kK d s.s,s.T⟩:=by
 cases d with
 | nil=>exact ⟨Q,h,λs hs=>.inl hs⟩
 | cons i d=>exact ⟨_,h,λs hs=>.inr hs⟩
def Hh {ro:Option Nat} {ops:Array Oper} {Q:Exit→Act→World→Prop} {K:Ex→St→Prop}:∀ {os acc:List HOper} {l1 l2:List Oper} {st:St} {a:Act} {w:World},fI P N ops l1=some acc→fI P N ops l2=some os→dS P G (Zg H acc os) K st→SInv P G N h0 φ0 T0 w0 st a w →
  (∀ st' a' w',K .normal st'→SInv P G N h0 φ0 T0 w0 st' a' w'→Q .normal a' w')→wpListIn (fe ro) 0 P ops Q (l1++l2) a w
 | [],acc,l1,[],st,a,w,h1,h2,hw,hS,hn=>by rw [kT];exact XE h1 hw hS hn
 | [],acc,l1,o::l2,st,a,w,h1,h2,hw,hS,hn=>by obtain ⟨x,y,_,_,e⟩:=Ge h2;simp at e
 | o::os,acc,l1,[],st,a,w,h1,h2,hw,hS,hn=>by simp [fI] at h2
 | o::os,acc,l1,o'::l2,st,a,w,h1,h2,hw,hS,hn=>by
  obtain ⟨x,y,e1,e2,e⟩:=Ge h2;injection e with ea eb;subst ea;subst eb;have h3:fI P N ops (l1++[o'])=some (acc++[o]):=Ij h1 (by simp [fI,e1]);have h4:l1++o'::l2=(l1++[o'])++l2:=by simp
  rw [h4];simp only [Zg] at hw;split at hw
  ·rename_i j hj;simp only [dS] at hw;exact Bg h3 hw hS λst' a' w' hk hS'=>by
    have:=Hh (ro:=ro) (l1:=[]) (acc:=[]) rfl e2 hk (hS'.shut j) hn;simpa using this
  ·exact Hh (ro:=ro) h3 e2 hw hS hn
def TY {d:List Nat} {l:HD} {Q:Ex→St→Prop} {st:St} (h:dS P G (Vj d (.regd l)) Q st) :
  ∃ K:St→Prop,D4 P G l st K∧∀ s,K s→Q .normal s∨Q .normal ⟨s.r,kK d s.s,s.T⟩:=by
 cases d with
 | nil=>exact ⟨Q .normal,h,λs hs=>.inl hs⟩
 | cons i d=>exact ⟨_,h,λs hs=>.inr hs⟩
def O4 {d:List Nat} {c:HC} {Q:Ex→St→Prop} {st:St} (h:dS P G (Vk d c) Q st):dS P G c Q st∨dS P G c Q ⟨st.r,kK d st.s,st.T⟩:=by
 cases d with
 | nil=>exact .inl h
 | cons i d=>exact .inr h
def SInv.own {st:St} (hS:SInv P G N h0 φ0 T0 w0 st a w) (j:Nat) (c:Option Nat) (k:Nat):SInv P G N h0 φ0 T0 w0 (Ka st j c k) a w:=by
 have key:∀ {h:GH} {φ:Nat→Value},Inv h φ w st.T→Evo h0 φ0 T0 w0 h φ st.T w →
   Inv h (We φ st.T.length (.slice none 0 0)) w (st.T++[some (.arr k [])])∧Evo h0 φ0 T0 w0 h (We φ st.T.length (.slice none 0 0)) (st.T++[some (.arr k [])]) w:=by
  intro h φ hI hE;have:=qL (w':=w) (o:=.arr k []) (v:=.slice none 0 0) hI rfl rfl rfl (fW _) (λ_ _=>rfl) (λg hg=>by simp [mC] at hg) ⟨by simp,.inl ⟨none,bE,rfl⟩⟩;exact ⟨this.1,hE.trans this.2⟩
 cases c with
 | none =>
  simp only [Ka];split
  ·rename_i hj;obtain ⟨hr,honce,⟨h,φ,hG,hE,hI,hSl⟩,hsz,hdf⟩:=hS;obtain ⟨k1,k2⟩:=key hI hE;have hjv:=hSl j;rw [hj] at hjv;simp only [Rp] at hjv;refine ⟨hr,Ky honce _ _,⟨h,_,hG,k2,k1,λi=>?_⟩,hsz,hdf⟩;rw [GY];split
   ·rename_i e;subst e;simp only [Rp];exact ⟨by simp,by rw [hjv,bE],none,0,0,hjv⟩
   ·exact (hSl i).mono (Ad.refl h) (by simp) (λi hi=>fK hi)
  ·exact hS
 | some c =>
  simp only [Ka];split
  ·rename_i i o hj;split
   ·rename_i cs hg;split
    ·rename_i hc;obtain ⟨hr,honce,⟨h,φ,hG,hE,hI,hSl⟩,hsz,hdf⟩:=hS;obtain ⟨k1,k2⟩:=key hI hE;have hgt:=bD hg;have hlt:i<st.T.length:=by
      rcases bY i st.T.length with hh | hh
      ·exact hh
      ·rw [gV hh] at hgt;simp at hgt
     have hgt':(st.T++[some (.arr k [])])[i]?=some (some (.box cs)):=by rw [Eb hlt];exact hgt
     obtain ⟨g,us,E,e1,e2,e3,e4⟩:=k1.obj i _ hgt'
     have hset:=D7 (w':=w) (o':=.box (cs.set c (.own st.T.length))) k1 rfl rfl rfl (fW _) hgt' (λ_ _ _=>rfl) (by
      refine ⟨g,us,E,e1,e2,e3,?_⟩;obtain ⟨u,hu1,hu2⟩:=e4.get hc;simp only [Rp] at hu2
      have:=e4.set (m:=c) (c:=.own st.T.length) (u:=u) (by
       simp only [Rp]
       exact ⟨by simp,by rw [hu2,bE],none,0,0,hu2⟩)
      rwa [show us.toList.set c u=us.toList from by
       apply BV;intro m;rw [Ec];split
       ·rename_i e;subst e;split
        ·exact hu1.symm
        ·rename_i hh;rw [gV (by omega)]
       ·rfl] at this)
     refine ⟨hr,honce,⟨h,_,hG,k2.trans hset.2,hset.1,λi=>?_⟩,hsz,hdf⟩;exact (hSl i).mono (Ad.refl h) (by simp) (λi hi=>fK hi)
    ·exact hS
   ·exact hS
  ·exact hS
def O5 {wr:List Nat}:∀ {H:List (Nat×Option Nat×Nat)} {c:HC} {Q:Ex→St→Prop} {st:St},dS P G (XG wr H c) Q st→∃ R:Ex→St→Prop,dS P G c R st ∧
  (∀ s,R .normal s→∀ (a:Act) (w:World),SInv P G N h0 φ0 T0 w0 s a w→∃ s',Q .normal s'∧SInv P G N h0 φ0 T0 w0 s' a w)∧(∀ i s,R (.exit i) s→Q (.exit i) s)∧(∀ s,R .ret s→Q .ret s)
 | [],c,Q,st,h=>⟨Q,h,λs hs a w hS=>⟨s,hs,hS⟩,λ_ _ h=>h,λ_ h=>h⟩
 | (j,d,k)::r,c,Q,st,h=>by
  simp only [XG] at h;obtain ⟨R,h1,h2,h3,h4⟩:=O5 h;split at h1
  ·cases k with
   | zero =>
    simp only [dS] at h1;exact ⟨_,h1,λs hs a w hS=>h2 _ hs a w (hS.shut _),λi s hs=>h3 i s hs,λs hs=>h4 s hs⟩
   | succ k =>
    simp only [dS] at h1;exact ⟨_,h1,λs hs a w hS=>h2 _ hs a w (hS.own j d (k+1)),λi s hs=>h3 i s hs,λs hs=>h4 s hs⟩
  ·exact ⟨R,h1,h2,h3,h4⟩
def oX {b:Frame} {x:Code} {k:List Item} {cs:List Frame}:step P (lone (b.atR a (.code (.scope x)::k)) cs w)=.next (lone (b.atR a (.code x::.inScope x::k)) cs w) :=
 step_lone_go (by simp [stepG,stepG.exec,Frame.atR])
def LD {b:Frame} {x:Code} {k:List Item} {cs:List Frame}:step P (lone (b.atR a (.inScope x::k)) cs w)=.next (lone (b.atR a k) cs w) :=
 step_lone_go (by simp [stepG,stepG.exec,Frame.atR])
def RP {F:Fence} {n:Nat} {c:Code} {Q:Exit→Act→World→Prop} (h:c.wpIn F n P Q a w) (hg:∀ l a w,¬Q (.goto l) a w):(Code.scope c).wpIn F n P Q a w:=by
 intro b k cs hro hb hr;have h0:(lone (b.atR a (.code (.scope c)::k)) cs w).fenced P F:=fenced_calm hb hr rfl;obtain ⟨e,a₁,w₁,hq,harr⟩:=h b (.inScope c::k) cs hro hb hr
 cases e with
 | normal=>exact ⟨.normal,a₁,w₁,hq,.head h0 oX (StepsIn.trans harr (.one (fenced_calm hb hr rfl) LD))⟩
 | exit id =>
  have hx:exitTo id (.inScope c::k)=exitTo id k:=by simp [exitTo]
  exact ⟨.exit id,a₁,w₁,hq,λk' hk=>.head h0 oX (harr.1 k' (by rw [hx];exact hk)),
   λhr' hk=>let ⟨k₁,h1,h2⟩:=harr.2 hr' (by rw [hx];exact hk);⟨k₁,h1,.head h0 oX h2⟩⟩
 | goto l=>exact absurd hq (hg l a₁ w₁)
 | ret=>exact ⟨_,a₁,w₁,hq,.of_steps (.one h0 oX) harr⟩
 | panic ch=>exact ⟨_,a₁,w₁,hq,.of_steps (.one h0 oX) harr⟩
 | outgrown=>exact ⟨_,a₁,w₁,hq,.of_steps (b:=b) (k:=k) (cs:=cs) (e:=.outgrown) (.one h0 oX) harr⟩
def aC5 (ro:Option Nat) (φ0:Nat→Value) (T0:aQ) (w0:World):Prop:=∀ l,ro=some l→(∃ r,w0.heap[l]?=some (.loop r))∧∀ i o,T0[i]?=some (some o)→mC (φ0 i)≠some l
def Hi (P:Program) (G:Nat→Option (List AV)) (N:Nat) (H:List (Nat×Option Nat×Nat)) (c:Code):Prop :=
 ∀ {ro:Option Nat} {h0:GH} {φ0:Nat→Value} {T0:aQ} {w0:World} {hc:HC} {Q:Ex→St→Prop} {st:St} {a:Act} {w:World} {ex:List (Nat×List Nat)} {rt out:List Nat},aC5 ro φ0 T0 w0→cI P N H c ex rt out=some hc→dS P G hc Q st→SInv P G N h0 φ0 T0 w0 st a w →
  c.wpIn (fe ro) 0 P (λe a' w'=>∃ st',exQ Q e st'∧SInv P G N h0 φ0 T0 w0 st' a' w') a w
def RQ {ca cb:Code} (iha:Hi P G N H ca) (ihb:Hi P G N H cb) {ha hb:HC} {ps:List Nat} {exs:List (Nat×List Nat)} {ra oa rb ob:List Nat} (ea:cI P N H ca exs ra oa=some ha) (eb:cI P N H cb exs rb ob=some hb)
  (hps:∀ p∈ps,p<N) {r:Loop} (r1:r.state=.ready) (r2:r.pending=none) (r3:r.params.toList=ps) (r4:r.assign=ca) (r5:r.body=cb) (r6:N≤r.tmps.size)
  (i:Nat) (s:List (Nat×AV)) (T:aQ) (args:List AV) (post:AV→aQ→Prop) (hi:cR T i=some (.lp r s)) (hl:args.length=ps.length)
  (hw:dS P G ha (λe s1=>match e with | .normal=>dS P G hb (HW i r s T.length post) s1 | _=>False) ⟨T.length,vI s ps args,T.set i none⟩):BW P G i args T post:=by
 intro h φ W vals l hG hI hA hφ;obtain ⟨l',e1,e2,e3,e4,e5⟩:=Ze hI hi;rw [hφ] at e1;injection e1 with e1 _ _;injection e1 with e1;subst e1;have hlt:=ED e2;have hAl:=hA.length;have hpsz:r.params.size=ps.length:=by rw [←r3,FM]
 have hoff:=Zf hI hi hφ;have hilt:=VP hi;refine ⟨_,_,_,_,run_yield e2 (by rw [hpsz,←hl,hAl,FM]),?_⟩;obtain ⟨p1,p2,p3⟩:=Nx (h:=h) (φ:=φ) (n:=T.length) (ps:=ps) (xs:=args) (us:=vals.toList) (s:=s) (t:=r.tmps) (TX e5) e4 hA hl (λp hp=>CU (hps p hp) r6);have hfold:(r.params.zip vals).foldl (λtmps (x:Tmp×Value)=>tmps.setIfInBounds x.1 x.2) r.tmps=(ps.zip vals.toList).foldl (λt (p,u)=>t.setIfInBounds p u) r.tmps:=by
  rw [←Array.foldl_toList,Array.toList_zip,r3]
 rw [hfold];revert p1 p2 p3;generalize (ps.zip vals.toList).foldl (λt (p,u)=>t.setIfInBounds p u) r.tmps=tm;intro p1 p2 p3;obtain ⟨d1,d2⟩:=uP hI i
 have hS0:SInv P G N h φ (T.set i none) W ⟨T.length,vI s ps args,T.set i none⟩ ⟨tm,[]⟩ W :=
  ⟨by simp,p2,⟨h,φ,hG,Evo.refl,d1,by simpa using p1⟩,by rw [p3];exact r6,by simp [Ei]⟩
 have hro:aC5 (some l) φ (T.set i none) W:=by
  intro l2 h2;injection h2 with h2;subst h2;exact ⟨⟨r,e2⟩,hoff⟩
 rw [r4,r5];refine roundIn_of_wpIn (F:=Fence.wide) trivial (wpIn_mono (iha (ro:=some l) hro ea hw hS0) ?_);rintro e a1 w1 ⟨st1,hq,hS1⟩
 cases e with
 | normal =>
  simp only [exQ] at hq;have hl1:w1.heap[l]?=some (.loop r):=by
   obtain ⟨_,_,⟨_,_,_,hE,_,_⟩,_,_⟩:=hS1;rw [hE.frame l hlt hoff];exact e2
  refine ⟨_,run_beginRound hl1 r1,?_⟩;let rb:Loop:={ r with state:=.busy }
  have hS2:SInv P G N h φ (T.set i none) (W.putObj l (.loop rb)) st1 a1 (w1.putObj l (.loop rb)):=by
   obtain ⟨q1,q2,⟨h1,φ1,q3,q4,q5,q6⟩,q7,q8⟩:=hS1;have notl:∀ j o,st1.T[j]?=some (some o)→mC (φ1 j)≠some l:=by
    intro j o e hb;rcases q4.org j o l e hb with h1 | ⟨j',o',h1,h2⟩
    ·omega
    ·exact hoff j' o' h1 h2
   have hgh:h1 l=none:=by
    cases hh:h1 l with
    | none=>rfl
    | some cs =>
     rcases q4.gfr l cs hh with h1 | h1 | ⟨j,o,h1,h2⟩
     ·rw [e3] at h1;simp at h1
     ·omega
     ·exact absurd h2 (hoff j o h1)
   refine ⟨q1,q2,⟨h1,φ1,q3,aC4 q4 _,O1 q5 notl hgh _,q6⟩,q7,q8.1,λd hd=>?_⟩;obtain ⟨D,f1,f2,f3⟩:=q8.2 d hd;refine ⟨D,f1,by simpa using f2,?_⟩;rw [World.putObj_heap_other (λhD=>by subst hD;rw [hl1] at f3;simp at f3)];exact f3
  have hro2:aC5 (some l) φ (T.set i none) (W.putObj l (.loop rb)):=by
   intro l2 h2;injection h2 with h2;subst h2;exact ⟨⟨rb,World.putObj_heap_same hlt⟩,hoff⟩
  refine wpIn_mono (ihb (ro:=some l) hro2 eb hq hS2) ?_;rintro e a3 w3 ⟨st3,hq3,hS3⟩;have hl3:w3.heap[l]?=some (.loop rb):=by
   obtain ⟨_,_,⟨_,_,_,hE,_,_⟩,_,_⟩:=hS3;rw [hE.frame l (by rw [World.putObj_size];exact hlt) hoff];exact World.putObj_heap_same hlt
  have hX:∀ gc:Bool,∃ h2 φ2,Evo h φ (T.set i none) (W.putObj l (.loop rb)) h2 φ2 (if gc then (yR [] ⟨T.length,[],st3.T⟩).T else st3.T) w3∧Inv h2 φ2 w3 (if gc then (yR [] ⟨T.length,[],st3.T⟩).T else st3.T):=by
   intro gc;obtain ⟨q1,q2,⟨h1,φ1,q3,q4,q5,q6⟩,q7,q8⟩:=hS3
   cases gc with
   | false=>exact ⟨h1,φ1,q4,q5⟩
   | true =>
    have hS4:SInv P G 0 h φ (T.set i none) (W.putObj l (.loop rb)) ⟨T.length,[],st3.T⟩ ⟨#[],[]⟩ w3:=⟨by simp,λ_ _ _ hx=>by simp at hx,⟨h1,φ1,q3,q4,q5,λ_=>by simp [aU,Rp]⟩,xC _,by simp [Ei]⟩
    obtain ⟨_,_,⟨h4,φ4,_,g1,g2,_⟩,_,_⟩:=Cw (st:=⟨T.length,[],st3.T⟩) [] hS4;exact ⟨h4,φ4,g1,g2⟩
  cases e with
  | normal =>
   simp only [exQ,HW] at hq3;obtain ⟨gc,hq3⟩:=hq3;obtain ⟨h2,φ2,x1,x2⟩:=hX gc;have hrun:=run_endRound (P:=P) none hl3;have hr':({ rb with state:=if (none:Option Code).isNone then .ready else .done,pending:=none }:Loop)=r:=by
    cases r;simp_all [rb]
   rw [hr'] at hrun;refine ⟨_,_,hrun,_,rfl,_,_,h2,φ2,hq3,?_⟩;obtain ⟨y1,y2⟩:=O2 hI hi hφ x1 x2 r rfl;exact ⟨y1,y2,by simp [Rp]⟩
  | exit id =>
   simp only [exQ,HW] at hq3;obtain ⟨gc,hq3⟩:=hq3;obtain ⟨h2,φ2,x1,x2⟩:=hX gc;have hrun:=run_endRound (P:=P) (some (.exit id)) hl3;refine ⟨_,_,hrun,_,rfl,_,_,h2,φ2,hq3,?_⟩;obtain ⟨y1,y2⟩:=O2 hI hi hφ x1 x2 (left r (.exit id)) rfl;exact ⟨y1,y2,by simp [Rp]⟩
  | ret =>
   simp only [exQ,HW] at hq3;obtain ⟨gc,hq3⟩:=hq3;obtain ⟨h2,φ2,x1,x2⟩:=hX gc;have hrun:=run_endRound (P:=P) (some .ret) hl3;refine ⟨_,_,hrun,_,rfl,_,_,h2,φ2,hq3,?_⟩;obtain ⟨y1,y2⟩:=O2 hI hi hφ x1 x2 (left r .ret) rfl;exact ⟨y1,y2,by simp [Rp]⟩
  | _=>exact hq3.elim
 | exit id=>exact hq.elim
 | goto id=>exact hq.elim
 | ret=>exact hq.elim
 | panic id=>exact hq.elim
 | outgrown=>exact hq.elim
def Gi {f:FuncId} (hb:Ok P f) (vals:Array Value) (w:World):(callFunc f vals).run P w=.ok (.enter f vals) w:=by
 obtain ⟨fn,c,h1,h2,h3⟩:=hb;simp [callFunc,h1,h3,h2]
def RR {ca cb:Code} (iha:Hi P G N H ca) (ihb:Hi P G N H cb) {g:Operand} {params:Array Tmp}:Hi P G N H (.rangeFunc g params ca cb):=by
 intro ro h0 φ0 T0 w0 hc Q st a w exs rt out hroo e hw hS;simp only [cI] at e;split at e
 ·rename_i ha hb ea eb;split at e
  ·rename_i hall;injection e with e;subst e;simp only [dS] at hw;have hps:∀ p∈params.toList,p<N:=λp hp=>by simpa using kY.1 hall p hp
   obtain ⟨hr,honce,⟨h,φ,hG,hE,hI,hSl⟩,hsz,hdf⟩:=hS;refine wpIn_rangeFunc ?_;intro fn _;rw [RJ];have hent:∃ (l:Nat) (mark:List Deferred) (w1:World) (df:Nat),(Instr.enterLoop fn a.tmps params ca cb ro).run P w=.ok (l,mark) w1∧w.heap.size≤l∧w1.os=w.os∧w1.tape=w.tape∧w1.output=w.output∧w1.drawn=w.drawn∧w.heap.size≤w1.heap.size ∧
     (∀ b,b<w.heap.size→w1.heap[b]?=w.heap[b]?)∧w1.heap[l]?=some (.loop { state:=.ready,pending:=none,fn,tmps:=a.tmps,params,assign:=ca,body:=cb,defers:=df }) ∧
     (mark=[]∨∃ D,mark=[{ target:=.collected D,args:=#[] }]∧w.heap.size≤D∧w1.heap[D]?=some (.deferred (some []))):=by
    cases ro with
    | none =>
     refine ⟨_,_,_,w.heap.size,run_enterLoop_outer fn a.tmps params ca cb,by omega,rfl,rfl,rfl,rfl,by simp only [World.size_alloc];omega,λb hb=>?_,?_,.inr ⟨_,rfl,fW _,?_⟩⟩
     ·rw [jN _ _ b (by simp;omega),jN _ _ b hb]
     ·have:=World.alloc_heap_new (w.alloc (.deferred (some []))) (.loop { state:=.ready,pending:=none,fn,tmps:=a.tmps,params,assign:=ca,body:=cb,defers:=w.heap.size });rwa [World.size_alloc] at this
     ·rw [jN _ _ _ (by simp)];exact World.alloc_heap_new w _
    | some l0 =>
     obtain ⟨⟨r0,e0⟩,hoff0⟩:=hroo l0 rfl;have hl0:w.heap[l0]?=some (.loop r0):=by
      rw [hE.frame l0 (ED e0) hoff0];exact e0
     refine ⟨w.heap.size,[],w.alloc (.loop { state:=.ready,pending:=none,fn,tmps:=a.tmps,params,assign:=ca,body:=cb,defers:=r0.defers }),r0.defers,?_,fW _,rfl,rfl,rfl,rfl,by simp,λb hb=>jN _ _ b hb,World.alloc_heap_new w _,.inl rfl⟩;unfold Instr.enterLoop;simp only [Sem.run_bind,run_getLoop hl0,Result.andThen_ok,Sem.run_pure,run_newObj_alloc]
   obtain ⟨l,mark,w1,df,n1,n2,n3,n4,n5,n6,n7,n8,n9,n10⟩:=hent;revert n1 n9;generalize hrec:({ state:=.ready,pending:=none,fn,tmps:=a.tmps,params,assign:=ca,body:=cb,defers:=df }:Loop)=r;intro n1 n9;have r1:r.state=.ready:=by rw [←hrec]
   have r2:r.pending=none:=by rw [←hrec]
   have r3:r.params=params:=by rw [←hrec]
   have r4:r.assign=ca:=by rw [←hrec]
   have r5:r.body=cb:=by rw [←hrec]
   have r6:r.tmps=a.tmps:=by rw [←hrec]
   have hw:=hw r r1 r2 (by rw [r3,FM]) (λi s T args post hi hl hcw=>RQ iha ihb ea eb hps r1 r2 (by rw [r3]) r4 r5 (by rw [r6];exact hsz) i s T args post hi hl hcw);split at hw
   ·rename_i f caps hev;obtain ⟨hgb,hw⟩:=hw;have hf:=dA hG hSl g;rw [hev] at hf;simp only [Rp] at hf;obtain ⟨us,hu,hcs⟩:=hf;have hk:∀ q∈E7 (JA (oF (exs.map λp=>(p.1,([]:List Nat))) [] ca (oF (exs.map λp=>(p.1,([]:List Nat))) [] cb [])) params.toList) st.s,q∈st.s:=λq hq=>LB hq;revert hk hw;generalize E7 (JA (oF (exs.map λp=>(p.1,([]:List Nat))) [] ca (oF (exs.map λp=>(p.1,([]:List Nat))) [] cb [])) params.toList) st.s=s0;intro hw hk;obtain ⟨i1,i2⟩:=qL (w':=w1) (o:=AObj.lp r s0) (v:=Value.func (.yield l) #[] #[]) hI n3 n4 n5 n7 n8 (λg' hg'=>by simp only [mC,Option.some.injEq] at hg';omega)
     ⟨l,bE,n9,by
      cases hh:h l with
      | none=>rfl
      | some cs=>have:=xE hI hh;omega,λj x y hx hy=>honce j x y (hk _ hx) (hk _ hy),λp hp=>by
      rw [r6,←Kx honce (show (p.1,p.2)∈st.s from hk p hp)]
      exact (hSl p.1).mono (Ad.refl h) (by omega) λi hi=>fK hi⟩ (by rw [n6];exact fW _)
    have hargs:bW h (We φ st.T.length (Value.func (.yield l) #[] #[])) (st.T++[some (AObj.lp r s0)]).length (.yl st.T.length::caps) (#[Value.func (.yield l) #[] #[]]++us).toList:=by
     simp only [Qe,Ag,FQ,bW];refine ⟨_,_,rfl,?_,hcs.mono (Ad.refl h) (by simp) λi hi=>fK hi⟩;simp only [Rp];exact ⟨by simp,bE.symm,l,rfl⟩
    refine ⟨l,mark,w1,{ target:=.fn (.func f) us,args:=#[.func (.yield l) #[] #[]] },w1,f,#[.func (.yield l) #[] #[]]++us,w1,n1,?_,λf' _=>Vc ro f',?_,λhh=>by rw [RK] at hh;simp at hh,?_⟩
    ·simp only [resolve,hu];simp [go_sem]
    ·simp only [invoke];exact Gi hgb _ _
    ·rcases GW hw hG i1 hargs with ⟨_,hcall⟩ | ⟨v,w',e',_⟩
     rotate_left
     ·rw [Gi hgb] at e';simp at e'
     refine (Kz hcall).mono ?_;rintro e w3 ⟨v,rfl,rr,T2,h2,φ2,hK,hE2,hI2,_⟩;simp only [Sy] at hK;split at hK
     ·rename_i rec s' hT2;obtain ⟨hnb,hK⟩:=hK;obtain ⟨l',e1,e2,e3,e4,e5⟩:=Ze hI2 hT2;have hφl:φ2 st.T.length=.func (.yield l) #[] #[]:=by rw [hE2.phi _ (by simp),bE]
      rw [hφl] at e1;injection e1 with e1 _ _;injection e1 with e1;subst e1;have hrun:=run_endLoop (P:=P) e2 hnb;have hset:=D7 (w':=w3.putObj l (.loop { rec with state:=.exhausted })) (o':=.lp { rec with state:=.exhausted } s') hI2 rfl rfl rfl (by simp) (bD hT2)
       (λb _ hne=>World.putObj_heap_other λhb=>hne (by rw [hφl,hb];rfl)) ⟨l,hφl,World.putObj_heap_same (ED e2),e3,e4,e5⟩
      have hdrop:=uP hset.1 st.T.length;rw [List.set_set] at hdrop;have hEE:=((hE.trans i2).trans hE2).trans (hset.2.trans hdrop.2);have hdf4:Ei w0 { a with defers:=mark++a.defers } (w3.putObj l (.loop { rec with state:=.exhausted })):=by
       have hdf1:Ei w0 a w1:=by
        refine ⟨hdf.1,λd hd=>?_⟩;obtain ⟨D,f1,f2,f3⟩:=hdf.2 d hd;exact ⟨D,f1,f2,by rw [n8 D (ED f3)];exact f3⟩
       have hdf2:Ei w0 { a with defers:=mark++a.defers } w1:=by
        rcases n10 with rfl | ⟨D,rfl,g1,g2⟩
        ·exact hdf1
        ·refine ⟨?_,λd hd=>?_⟩
         ·rw [Yi,GD];refine ⟨λd hd=>?_,hdf.1⟩;obtain ⟨D',f1,f2,f3⟩:=hdf.2 d hd;rw [f1];intro hh;injection hh with hh;subst hh;have:=ED f3;omega
         ·rcases eO.1 hd with hd | hd
          ·simp only [gZ] at hd;subst hd;exact ⟨D,rfl,by have:=hE.size;omega,g2⟩
          ·exact hdf1.2 d hd
       exact ((hdf2.keep i1 hE2).keep hI2 hset.2)
      have hSf:SInv P G N h0 φ0 T0 w0 ⟨st.r,st.s,T2.set st.T.length none⟩ { a with defers:=mark++a.defers } (w3.putObj l (.loop { rec with state:=.exhausted })):=by
       refine ⟨hr,honce,⟨h2,φ2,hG.mono hE2.le,hEE,hdrop.1,λi=>?_⟩,hsz,hdf4⟩;have hl2:=hE2.len;exact (hSl i).mono hE2.le (by rw [mA];simp at hl2;omega) λj hj=>by
        rw [hE2.phi j (by simp;omega),fK hj]
      revert hrun hSf;generalize w3.putObj l (.loop { rec with state:=.exhausted })=w4;intro hrun hSf;refine ⟨rec.pending,_,hrun,?_⟩;split at hK
      ·rename_i hp;rw [hp];exact ⟨_,hK,hSf⟩
      ·rename_i id hp;rw [hp];exact wpIn_exit ⟨_,hK,hSf⟩
      ·rename_i hp;rw [hp];exact wpIn_ret ⟨_,hK,hSf⟩
      ·exact hK.elim
     ·exact hK.elim
   ·exact hw.elim
  ·simp at e
 ·simp at e
def LE:∀ (c:Code),Hi P G N H c:=by
 intro c
 induction c with
 | skip =>
  intro ro h0 φ0 T0 w0 hc Q st a w exs rt out hroo e hw hS;simp only [cI,Option.some.injEq] at e;subst e;exact wpIn_skip ⟨st,hw,hS⟩
 | label l =>
  intro ro h0 φ0 T0 w0 hc Q st a w exs rt out hroo e hw hS;simp only [cI,Option.some.injEq] at e;subst e;exact wpIn_label ⟨st,hw,hS⟩
 | scope x ih =>
  intro ro h0 φ0 T0 w0 hc Q st a w exs rt out hroo e hw hS;simp only [cI] at e;exact RP (ih hroo e hw hS) λl a w ⟨_,h,_⟩=>h
 | rangeFunc g ps x y ihx ihy=>exact RR ihx ihy
 | region id ops draw =>
  intro ro h0 φ0 T0 w0 hc Q st a w exs rt out hroo e hw hS
  cases draw with
  | true =>
   simp only [cI,if_true] at e;split at e
   ·rename_i hm
    cases ho:Gf P N H ops with
    | none=>simp [ho] at e
    | some hd =>
     simp only [ho,kZ,Option.some.injEq] at e;subst e;obtain ⟨R,hw,h2,_,_⟩:=O5 (N:=N) (h0:=h0) (φ0:=φ0) (T0:=T0) (w0:=w0) hw;obtain ⟨K,hw,hK⟩:=TY hw;refine wpIn_region_any hm (TW ho hw hS.drawn λst' a' w' hk hS'=>(hK st' hk).elim (λhq=>h2 st' hq a' w' hS') λhq=>h2 _ hq a' w' (hS'.kill _))
   ·simp at e
  | false =>
   simp only [cI,jZ,if_false] at e
   cases ho:fI P N ops ops.toList with
   | none=>simp [ho] at e
   | some hl =>
    simp only [ho,kZ,Option.some.injEq] at e;subst e;obtain ⟨R,hw,h2,_,_⟩:=O5 (N:=N) (h0:=h0) (φ0:=φ0) (T0:=T0) (w0:=w0) hw;obtain ⟨K,hw,hK⟩:=XH hw;have:=Hh (H:=H) (ro:=ro) (l1:=[]) (acc:=[]) (Q:=λe a' w'=>∃ st',exQ Q e st'∧SInv P G N h0 φ0 T0 w0 st' a' w') rfl ho hw hS λst' a' w' hk hS'=>(hK st' hk).elim (λhq=>h2 st' hq a' w' hS') λhq=>h2 _ hq a' w' (hS'.kill _);exact wpIn_region_list this
 | seq x y ihx ihy =>
  intro ro h0 φ0 T0 w0 hc Q st a w exs rt out hroo e hw hS;simp only [cI] at e;split at e
  ·rename_i hx hy h1 h2;injection e with e;subst e;simp only [dS] at hw;refine wpIn_seq (wpIn_mono (ihx hroo h1 hw hS) λex a' w' ⟨st',hq,hS'⟩=>?_)
   cases ex with
   | normal=>exact ihy hroo h2 hq hS'
   | exit i=>exact ⟨st',hq,hS'⟩
   | ret=>exact ⟨st',hq,hS'⟩
   | _=>exact hq.elim
  ·simp at e
 | cond c x y ihx ihy =>
  intro ro h0 φ0 T0 w0 hc Q st a w exs rt out hroo e hw hS;simp only [cI] at e;split at e
  ·rename_i hx hy h1 h2;injection e with e;subst e;simp only [dS] at hw;split at hw
   ·rename_i t ht;have hS':=hS;obtain ⟨hr,honce,⟨h,φ,hG,hE,hI,hSl⟩,hsz,hdf⟩:=hS';refine wpIn_cond (t:=t) (lB hG hSl ht) ?_;cases t
    ·rcases O4 hw with hw | hw
     ·exact ihy hroo h2 hw hS
     ·exact ihy hroo h2 hw (hS.kill _)
    ·rcases O4 hw with hw | hw
     ·exact ihx hroo h1 hw hS
     ·exact ihx hroo h1 hw (hS.kill _)
   ·exact hw.elim
  ·simp at e
 | block id x ih =>
  intro ro h0 φ0 T0 w0 hc Q st a w exs rt out hroo e hw hS;simp only [cI] at e
  cases hx:cI P N H x ((id,out)::exs) rt out with
  | none=>simp [hx] at e
  | some hx' =>
   simp only [hx,kZ,Option.some.injEq] at e;subst e;obtain ⟨R,hw,h2,h3,h4⟩:=O5 (N:=N) (h0:=h0) (φ0:=φ0) (T0:=T0) (w0:=w0) hw;simp only [dS] at hw;refine wpIn_block (wpIn_mono (ih hroo hx hw hS) λex a' w' ⟨st',hq,hS'⟩=>?_)
   cases ex with
   | normal=>exact h2 st' hq a' w' hS'
   | exit i =>
    simp only [exQ] at hq;simp only [Exit.inBlock];split
    ·rename_i hi;rw [if_pos hi] at hq;exact h2 st' hq a' w' hS'
    ·rename_i hi;rw [if_neg hi] at hq;exact ⟨st',h3 _ _ hq,hS'⟩
   | ret=>exact ⟨st',h4 _ hq,hS'⟩
   | _=>exact hq.elim
 | loop x ih =>
  intro ro h0 φ0 T0 w0 hc Q st a w exs rt out hroo e hw hS;simp only [cI] at e
  cases hx:cI P N H x exs rt (oF exs rt x []) with
  | none=>simp [hx] at e
  | some hx' =>
   simp only [hx,kZ,Option.some.injEq] at e;subst e;simp only [dS] at hw;obtain ⟨I,⟨n0,hI0⟩,hround⟩:=hw;let J:Act→World→Nat→Prop:=λa w n=>∃ st,I n st∧SInv P G N h0 φ0 T0 w0 st a w;refine wpIn_loop (λa w=>∃ n,J a w n) (λa w=>open Classical in if h:∃ n,J a w n then (RO h).choose else 0) ⟨n0,hI0.elim (λh=>⟨_,h,Cw _ hS⟩) λh=>⟨_,h,hS⟩⟩ λa w hJ=>?_;obtain ⟨st',hI',hS'⟩:=(RO hJ).choose_spec.1;refine wpIn_mono (ih hroo hx (hround _ st' hI') hS') λex a' w' ⟨st2,hq,hS2⟩=>?_
   cases ex with
   | normal =>
    obtain ⟨m,hm,hIm⟩:=hq;have hJm:J a' w' m:=hIm.elim (λh=>⟨_,h,Cw _ hS2⟩) λh=>⟨_,h,hS2⟩
    have hJ':∃ n,J a' w' n:=⟨m,hJm⟩
    refine ⟨hJ',?_⟩;simp only [dif_pos hJ',dif_pos hJ];have hle:(RO hJ').choose≤m:=by
     rcases bY m (RO hJ').choose with hlt | hge
     ·exact absurd hJm ((RO hJ').choose_spec.2 m hlt)
     ·exact hge
    omega
   | exit i=>exact ⟨st2,hq,hS2⟩
   | ret=>exact ⟨st2,hq,hS2⟩
   | _=>exact hq.elim
 | exit i =>
  intro ro h0 φ0 T0 w0 hc Q st a w exs rt out hroo e hw hS;simp only [cI,Option.some.injEq] at e;subst e;exact wpIn_exit ⟨st,hw,hS⟩
 | ret =>
  intro ro h0 φ0 T0 w0 hc Q st a w exs rt out hroo e hw hS;simp only [cI,Option.some.injEq] at e;subst e;exact wpIn_ret ⟨st,hw,hS⟩
 | _=>intro ro h0 φ0 T0 w0 hc Q st a w exs rt out hroo e;simp [cI] at e
end
end
end Hud
