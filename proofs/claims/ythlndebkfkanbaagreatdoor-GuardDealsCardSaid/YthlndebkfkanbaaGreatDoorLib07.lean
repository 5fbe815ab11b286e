import Derived.Test.YthlndebkfkanbaaGreatDoorLib06
set_option linter.all false
namespace Hud
open Go
section
open Classical in
noncomputable def shutG (h:GH) (φ:Nat->Value) (i:Nat) (w:World):GH:=fun b =>
 if blk (φ i)=some b then (match w.heap[b]? with | some (.cells cs _ _)=>some cs | _=>none) else h b
section
variable {h:GH} {φ:Nat->Value} {T:Tab} {w:World} {i k:Nat} {es:List (List AV)}
theorem aMC (hI:Inv h φ w T) (hi:T[i]?=some (some (.arr k es))) {b:Nat} (hb:blk (φ i)=some b):∃ cs E,w.heap[b]?=some (.cells cs E (0,0))/\shutG h φ i w b=some cs:=by
 have:∃ cs E,w.heap[b]?=some (.cells cs E (0,0)):=by
  obtain ⟨_,⟨A,h1⟩ | ⟨g,c,cur,E,h1,h2,_⟩⟩:=hI.obj i _ hi
  ·rw [h1.1] at hb;simp [blk] at hb
  ·rw [h1] at hb;simp only [blk,Option.some.injEq] at hb;subst hb
   exact ⟨cur,E,h2⟩
 obtain ⟨cs,E,hw⟩:=this
 refine ⟨cs,E,hw,?_⟩
 unfold shutG
 rw [if_pos hb,hw]
theorem aC0 {b:Nat} (hb:blk (φ i)≠some b):shutG h φ i w b=h b:=by unfold shutG;rw [if_neg hb]
theorem xO (hI:Inv h φ w T) (hi:T[i]?=some (some (.arr k es))):GLe h (shutG h φ i w):=by
 intro b cs e
 rw [aC0]
 ·exact e
 ·intro hb
  have:=(eU (hI.obj i _ hi) hb).2
  rw [e] at this
  simp at this
theorem aFo (hI:Inv h φ w T) (hi:T[i]?=some (some (.arr k es))):(∃ A,φ i=.slice A 0 0/\es=[])\/∃ g c,φ i=.slice (some ⟨g,0,none⟩) es.length c/\es.length<=c/\c<=maxLen/\fU (shutG h φ i w) g k es 0:=by
 obtain ⟨hl,h1 | ⟨g,c,cur,E,hφ,hw,h2,h3,h4,h5,h6⟩⟩:=hI.obj i _ hi
 ·exact .inl h1
 ·refine .inr ⟨g,c+1,hφ,h2,h3,?_⟩
  obtain ⟨cs',E',hw',hlent⟩:=aMC hI hi (b:=g) (by rw [hφ];rfl)
  rw [hw] at hw'
  injection hw' with hw'
  injection hw' with hw'
  subst hw'
  refine fU.of_list (h6.mono (xO hI hi)) hl fun j v hj=>?_
  unfold mH
  rw [hlent]
  rw [List.getElem?_take] at hj
  split at hj
  ·simpa using hj
  ·simp at hj
mutual
theorem aO1 (hI:Inv h φ w T) (hi:T[i]?=some (some (.arr k es))) {n:Nat}:∀ {x:AV} {u:Value},Rp h φ n x u->Rp (shutG h φ i w) φ n (slA i k es x) u
 | .v _,_,e=>by simpa [Rp,slA] using e
 | .ls _ _,_,e=>by simp only [Rp,slA] at *;exact e.mono (xO hI hi)
 | .ag cs,_,e=>by simp only [Rp,slA] at *;obtain ⟨us,h1,h2⟩:=e;exact ⟨us,h1,aB1 hI hi h2⟩
 | .own j,u,e=>by
  simp only [slA]
  split
  ·rename_i hj
   subst hj
   simp only [Rp] at e
   simp only [Rp,RpD]
   rcases aFo hI hi with ⟨A,h1,h2⟩ | ⟨g,c,h1,h2,h3,h4⟩
   ·exact ⟨A,0,by rw [e.2.1,h1,h2];rfl,by rw [h2];simp,by simp,.inl h2⟩
   ·exact ⟨_,c,by rw [e.2.1,h1],h2,h3,.inr ⟨g,0,rfl,h4⟩⟩
  ·simpa only [Rp] using e
 | .ptr j o,u,e=>by simpa only [Rp,slA] using e
 | .mp j,u,e=>by simpa only [Rp,slA] using e
 | .yl j,u,e=>by simpa only [Rp,slA] using e
 | .elt j k' m off,u,e=>by
  simp only [slA]
  split
  ·rename_i hj
   subst hj
   split
   ·rename_i hk
    subst hk
    split
    ·rename_i d hd
     simp only [Rp] at e ⊢
     obtain ⟨_,g,l,c,hφ,hu⟩:=e
     rcases aFo hI hi with ⟨A,h1,h2⟩ | ⟨g',c',h1,h2,h3,h4⟩
     ·rw [h2] at hd;simp at hd
     ·rw [hφ] at h1
      injection h1 with e1 e2 e3
      injection e1 with e1
      injection e1 with e1
      subst e1
      obtain ⟨_,h5⟩:=h4.get hd
      exact ⟨g,m*k'+off,hu,by simpa using h5.drop off⟩
    ·simp [Rp]
   ·simp [Rp]
  ·simpa only [Rp] using e
 | .vw j k' lo m,u,e=>by
  simp only [slA]
  split
  ·rename_i hj
   subst hj
   split
   ·rename_i hk
    obtain ⟨rfl,hlen⟩:=hk
    simp only [Rp] at e
    obtain ⟨_,A,c,hu,hmc,hcm,h0⟩:=e
    have hln:((es.drop lo).take m).length=m:=by rw [List.length_take,List.length_drop];omega
    simp only [Rp,RpD]
    refine ⟨A,c,by rw [hln];exact hu,by rw [hln];exact hmc,hcm,?_⟩
    rcases h0 with rfl | ⟨g,l,c',hφ,rfl,hle⟩
    ·exact .inl (by simp)
    ·rcases aFo hI hi with ⟨A,h1,h2⟩ | ⟨g',c',h1,h2,h3,h4⟩
     ·subst h2
      exact .inl (by simp)
     ·rw [hφ] at h1
      injection h1 with e1 e2 e3
      injection e1 with e1
      injection e1 with e1
      subst e1
      exact .inr ⟨g,lo*k',rfl,by simpa using (h4.drop lo).take m⟩
   ·simp [Rp]
  ·simpa only [Rp] using e
 | .rp cs,u,e=>by
  simp only [Rp,slA] at *
  obtain ⟨b,o,h1,h2⟩:=e
  exact ⟨b,o,h1,h2.mono (xO hI hi)⟩
 | .cl f cs,_,e=>by simp only [Rp,slA] at *;obtain ⟨us,h1,h2⟩:=e;exact ⟨us,h1,aB1 hI hi h2⟩
 | .bm f kk cs,_,e=>by simp only [Rp,slA] at *;obtain ⟨us,h1,h2⟩:=e;exact ⟨us,h1,aB1 hI hi h2⟩
 | .tup cs,_,e=>by simp only [Rp,slA] at *;obtain ⟨us,h1,h2⟩:=e;exact ⟨us,h1,aB1 hI hi h2⟩
 | .any,_,_=>by simp [Rp,slA]
theorem aB1 (hI:Inv h φ w T) (hi:T[i]?=some (some (.arr k es))) {n:Nat}:∀ {cs:List AV} {us:List Value},RpL h φ n cs us->RpL (shutG h φ i w) φ n (slL i k es cs) us
 | [],_,e=>by simpa [RpL,slL] using e
 | c::cs,us,e=>by
  simp only [RpL,slL] at *
  obtain ⟨u,us',h1,h2,h3⟩:=e
  exact ⟨u,us',h1,aO1 hI hi h2,aB1 hI hi h3⟩
end
theorem aI4:∀ T:Tab,(slT i k es T).length=T.length
 | []=>rfl
 | _::r=>by simp [slT,aI4 r]
theorem aT7:∀ {T:Tab} {j:Nat},(slT i k es T)[j]?=(T[j]?).map (fun o=>Option.bind o (slO i k es))
 | [],j=>by simp [slT]
 | o::r,0=>by simp [slT]
 | o::r,j+1=>by simp only [slT,List.getElem?_cons_succ];exact aT7
theorem aPz (hI:Inv h φ w T) (hi:T[i]?=some (some (.arr k es))):Inv (shutG h φ i w) φ w ((slT i k es T).set i none)/\Evo h φ T w (shutG h φ i w) φ ((slT i k es T).set i none) w:=by
 have get:∀ {j:Nat} {x:AObj},((slT i k es T).set i none)[j]?=some (some x)->j≠i/\∃ y,T[j]?=some (some y)/\slO i k es y=some x:=by
  intro j x e
  rw [List.getElem?_set] at e
  split at e
  ·rename_i hh;split at e<;>simp at e
  ·rename_i hh
   refine ⟨fun h=>hh h.symm,?_⟩
   rw [aT7] at e
   cases hT:T[j]? with
   | none=>rw [hT] at e;simp at e
   | some o =>
    rw [hT] at e
    cases o with
    | none=>simp at e
    | some y =>
     simp only [Option.map_some,Option.bind_some,Option.some.injEq] at e
     exact ⟨y,rfl,e⟩
 have hlen:((slT i k es T).set i none).length=T.length:=by rw [List.length_set,aI4]
 have hg:=xO hI hi
 refine ⟨⟨?_,?_,?_⟩,⟨rfl,rfl,rfl,Nat.le_refl _,fun _ _ _=>rfl,hg,?_,fun _ _=>rfl,?_,by rw [hlen];exact Nat.le_refl _,Nat.le_refl _⟩⟩
 ·intro b cs e
  by_cases hb:blk (φ i)=some b
  ·obtain ⟨cs',E,hw,hs⟩:=aMC hI hi hb
   rw [hs] at e
   injection e with e
   subst e
   exact ⟨E,_,hw⟩
  ·rw [aC0 hb] at e
   exact hI.gh b cs e
 ·intro j x e
  obtain ⟨hne,y,hy,hx⟩:=get e
  rw [hlen]
  have ho:=hI.obj j y hy
  have hoff:∀ g,blk (φ j)=some g->shutG h φ i w g=h g:=fun g hb=>aC0 fun hb'=>hne (hI.dis j i y _ g hy hi hb hb')
  cases y with
  | box cs =>
   simp only [slO,Option.some.injEq] at hx
   subst hx
   obtain ⟨g,us,E,e1,e2,e3,e4⟩:=ho
   exact ⟨g,us,E,e1,e2,by rw [hoff g (by rw [e1];rfl)];exact e3,aB1 hI hi e4⟩
  | arf k' es' =>
   simp only [slO] at hx
   split at hx
   ·rename_i hone
    injection hx with hx
    subst hx
    have hfl:∀ l:List (List AV),(slF i k es l).flatten=slL i k es l.flatten:=by
     have app:∀ (a b:List AV),slL i k es (a++b)=slL i k es a++slL i k es b:=by
      intro a b
      induction a with
      | nil=>rfl
      | cons c a ih=>simp [slL,ih]
     intro l
     induction l with
     | nil=>rfl
     | cons e l ih=>simp only [slF,List.flatten_cons,ih,app]
    have hfn:∀ l:List (List AV),(slF i k es l).length=l.length:=by
     intro l
     induction l with
     | nil=>rfl
     | cons e l ih=>simp [slF,ih]
    have hfe:∀ (l:List (List AV)) (d:List AV),d∈slF i k es l->∃ e∈l,d.length=e.length:=by
     have hll:∀ cs:List AV,(slL i k es cs).length=cs.length:=by
      intro cs
      induction cs with
      | nil=>rfl
      | cons c cs ih=>simp [slL,ih]
     intro l
     induction l with
     | nil=>intro d hd;simp [slF] at hd
     | cons e l ih =>
      intro d hd
      simp only [slF] at hd
      rcases List.mem_cons.1 hd with rfl | hd
      ·exact ⟨e,by simp,hll e⟩
      ·obtain ⟨e',h1,h2⟩:=ih d hd;exact ⟨e',by simp [h1],h2⟩
    obtain ⟨hl,h1⟩:=ho
    refine ⟨fun d hd=>?_,?_⟩
    ·obtain ⟨e',he',hle⟩:=hfe es' d hd
     exact ⟨by rw [hle];exact (hl e' he').1,fun c hc=>List.all_eq_true.1 (List.all_eq_true.1 hone d hd) c hc⟩
    ·rcases h1 with ⟨A,hA,rfl⟩ | ⟨g,c,cur,E,e1,e2,e3,e4,e5,e6,e7⟩
     ·exact .inl ⟨A,hA,rfl⟩
     ·exact .inr ⟨g,c,cur,E,by rw [hfn];exact e1,e2,by rw [hfn];exact e3,e4,e5,by rw [hoff g (by rw [e1];rfl)];exact e6,by rw [hfl,hfn];exact aB1 hI hi e7⟩
   ·simp at hx
  | lp r s =>
   simp only [slO,Option.some.injEq] at hx
   subst hx
   have mem:∀ (l:List (Nat×AV)) (q:Nat×AV),q∈slS i k es l->∃ x,(q.1,x)∈l/\q.2=slA i k es x:=by
    intro l
    induction l with
    | nil=>intro q hq;simp [slS] at hq
    | cons p l ih =>
     intro q hq
     obtain ⟨m,y⟩:=p
     simp only [slS] at hq
     rcases List.mem_cons.1 hq with rfl | hq
     ·exact ⟨y,by simp,rfl⟩
     ·obtain ⟨x,h1,h2⟩:=ih q hq;exact ⟨x,by simp [h1],h2⟩
   obtain ⟨g,e1,e2,e3,e4,e5⟩:=ho
   refine ⟨g,e1,e2,by rw [hoff g (by rw [e1];rfl)];exact e3,fun m x y hx hy=>?_,fun p hp=>?_⟩
   ·obtain ⟨x',h1,h2⟩:=mem s _ hx
    obtain ⟨y',h3,h4⟩:=mem s _ hy
    simp only at h2 h4
    rw [h2,h4,e4 m x' y' h1 h3]
   ·obtain ⟨x',h1,h2⟩:=mem s _ hp
    rw [h2]
    exact aO1 hI hi (e5 _ h1)
  | mit m since seen st =>
   simp only [slO,Option.some.injEq] at hx
   subst hx
   obtain ⟨g,mo,e1,e2,e3,e4⟩:=ho
   exact ⟨g,mo,e1,e2,by rw [hoff g (by rw [e1];rfl)];exact e3,e4⟩
  | arr k' es' =>
   simp only [slO,Option.some.injEq] at hx
   subst hx
   obtain ⟨hl,h1 | ⟨g,c,cur,E,e1,e2,e3,e4,e5,e6,e7⟩⟩:=ho
   ·exact ⟨hl,.inl h1⟩
   ·exact ⟨hl,.inr ⟨g,c,cur,E,e1,e2,e3,e4,e5,by rw [hoff g (by rw [e1];rfl)];exact e6,e7.mono hg⟩⟩
  | map ag ks vs bs cl =>
   simp only [slO,Option.some.injEq] at hx
   subst hx
   obtain ⟨g,ens,e1,e2,e3,e4,e5,e6⟩:=ho
   exact ⟨g,ens,e1,e2,by rw [hoff g (by rw [e1];rfl)];exact e3,e4,e5,aB1 hI hi e6⟩
 ·intro j m oj om b ej em hj hm
  obtain ⟨_,y,hy,_⟩:=get ej
  obtain ⟨_,z,hz,_⟩:=get em
  exact hI.dis j m y z b hy hz hj hm
 ·intro b cs e
  by_cases hb:blk (φ i)=some b
  ·exact .inr (.inr ⟨i,_,hi,hb⟩)
  ·rw [aC0 hb] at e
   exact .inl e
 ·intro j o b e hb
  obtain ⟨_,y,hy,_⟩:=get e
  exact .inr ⟨j,y,hy,hb⟩
end
theorem aT8 {i k:Nat} {es:List (List AV)} {q:Nat×AV} {l:List (Nat×AV)} (h:q∈slS i k es l):∃ x,(q.1,x)∈l/\q.2=slA i k es x:=by
 induction l with
 | nil=>simp [slS] at h
 | cons p l ih =>
  obtain ⟨j,y⟩:=p
  simp only [slS] at h
  rcases List.mem_cons.1 h with rfl | h
  ·exact ⟨y,by simp,rfl⟩
  ·obtain ⟨x,h1,h2⟩:=ih h;exact ⟨x,by simp [h1],h2⟩
theorem aI5 {i k:Nat} {es:List (List AV)} {j:Nat}:∀ l:List (Nat×AV),aK (slS i k es l) j=slA i k es (aK l j)
 | []=>by simp [slS,aK,slA]
 | (m,x)::r=>by
  simp only [slS,aK]
  split
  ·rfl
  ·exact aI5 r
theorem SInv.shutI {P:Program} {G:Nat->Option (List AV)} {N:Nat} {h0:GH} {φ0:Nat->Value} {T0:Tab} {w0:World} {a:Act} {w:World} {st:St} (hS:SInv P G N h0 φ0 T0 w0 st a w) (i:Nat):SInv P G N h0 φ0 T0 w0 (shutI st i) a w:=by
 unfold Hud.shutI
 split
 ·rename_i k es hg
  obtain ⟨hr,honce,⟨h,φ,hG,hE,hI,hSl⟩,hsz,hdf⟩:=hS
  obtain ⟨s1,s2⟩:=aPz hI (aN hg)
  refine ⟨hr,?_,⟨_,φ,hG.mono (xO hI (aN hg)),hE.trans s2,s1,fun j=>?_⟩,hsz,hdf⟩
  ·intro j x y hx hy
   obtain ⟨x',h1,h2⟩:=aT8 hx
   obtain ⟨y',h3,h4⟩:=aT8 hy
   simp only at h2 h4
   rw [h2,h4,honce j x' y' h1 h3]
  ·show Rp _ φ ((slT i k es st.T).set i none).length (aK (slS i k es st.s) j) _
   rw [List.length_set,aI4,aI5]
   exact aO1 hI (aN hg) (hSl j)
 ·exact hS
theorem SInv.shut {P:Program} {G:Nat->Option (List AV)} {N:Nat} {h0:GH} {φ0:Nat->Value} {T0:Tab} {w0:World} {a:Act} {w:World} {st:St} (hS:SInv P G N h0 φ0 T0 w0 st a w) (j:Nat):SInv P G N h0 φ0 T0 w0 (gcs [] (aIt st j)) a w:=by
 have:∀ (l:List Nat) (st:St),SInv P G N h0 φ0 T0 w0 st a w->SInv P G N h0 φ0 T0 w0 (xI st l) a w:=by
  intro l
  induction l with
  | nil=>intro st h;exact h
  | cons i r ih=>intro st h;exact ih _ (h.shutI i)
 exact aB0 [] (this _ _ hS)
end
section
theorem aFp {T:Tab} {ev:Operand->AV} {o:HOp} (hq:dR o=true) {x:AV} {T':Tab} (h:hop T ev o=some (x,T')):T'=T:=by
 cases o<;>simp only [dR,Bool.false_eq_true,reduceCtorEq] at hq<;>simp only [hop] at h<;>(repeat' split at h) <;>
  first
  | (simp only [Option.some.injEq,Prod.mk.injEq] at h;exact h.2.symm)
  | (simp at h;done)
theorem aIT {G:Nat->Option (List AV)} {s s':List (Nat×AV)} {x:Operand} (h:∀ t∈aR x,aK s t=aK s' t):evO G s x=evO G s' x:=by
 cases x<;>simp only [evO]
 exact h _ (by simp [aR])
theorem aC1 {T:Tab} {ev ev':Operand->AV} {o:HOp} (h:∀ x,(∀ t∈aR x,t∈rdH o)->ev x=ev' x):hop T ev o=hop T ev' o:=by
 have hps:∀ (ps:List (Nat×Nat×Operand)),(∀ t∈ps.flatMap (fun p=>aR p.2.2),t∈rdH o)->(ps.map fun p=>(p.1,p.2.1,ev p.2.2))=ps.map fun p=>(p.1,p.2.1,ev' p.2.2):=by
  intro ps hp
  refine List.map_congr_left fun p hm=>?_
  rw [h p.2.2 fun t ht=>hp t (List.mem_flatMap.2 ⟨p,hm,ht⟩)]
 cases o
 case bld z ps=>simp only [hop];rw [hps ps fun t ht=>ht]
 case bsl k z ps n=>simp only [hop];rw [hps ps fun t ht=>ht]
 case bslS k z ps n =>
  have h1:(ps.map fun p=>ev p.2.2)=ps.map fun p=>ev' p.2.2:=List.map_congr_left fun p hm=>h p.2.2 fun t ht=>List.mem_flatMap.2 ⟨p,hm,ht⟩
  have h2:(ps.map fun p=>(p.1,p.2.1,oR T (fI (ps.map fun p=>ev p.2.2)) (ev p.2.2)))=ps.map fun p=>(p.1,p.2.1,oR T (fI (ps.map fun p=>ev p.2.2)) (ev' p.2.2)):=List.map_congr_left fun p hm=>by rw [h p.2.2 fun t ht=>List.mem_flatMap.2 ⟨p,hm,ht⟩]
  simp only [hop];rw [h2,h1]
 case clo f cs=>simp only [hop];rw [List.map_congr_left fun c hc=>h c fun t ht=>List.mem_flatMap.2 ⟨c,hc,ht⟩]
 case alloc=>rfl
 case mkm=>rfl
 case lku ag ls z m k ok=>simp only [hop];rw [h m (by simp_all [rdH]),h k (by simp_all [rdH])]
 case mup ag ls m k x=>simp only [hop];rw [h m (by simp_all [rdH]),h k (by simp_all [rdH]),h x (by simp_all [rdH])]
 case men ag ls z m k=>simp only [hop];rw [h m (by simp_all [rdH]),h k (by simp_all [rdH])]
 case mst m k x=>simp only [hop];rw [h m (by simp_all [rdH]),h k (by simp_all [rdH]),h x (by simp_all [rdH])]
 case del ag ls m k=>simp only [hop];rw [h m (by simp_all [rdH]),h k (by simp_all [rdH])]
 case lenM m=>simp only [hop];rw [h m (by simp_all [rdH])]
 case mks k z b x y=>simp only [hop];rw [h x (by simp_all [rdH]),h y (by simp_all [rdH])]
 case s2b x=>simp only [hop];rw [h x (by simp_all [rdH])]
 case b2s x=>simp only [hop];rw [h x (by simp_all [rdH])]
 case apS x y=>simp only [hop];rw [h x (by simp_all [rdH]),h y (by simp_all [rdH])]
 case slx x lo hi mx k =>
  simp only [hop]
  rw [h x (by simp_all [rdH]),h hi (by simp_all [rdH]),h mx (by simp_all [rdH])]
  cases lo<;>simp only<;>(try rw [h _ (by simp_all [rdH])])
 case call=>rfl
 case nxt=>rfl
 case bad=>rfl
 case bmo f k cs=>simp only [hop];rw [List.map_congr_left fun c hc=>h c fun t ht=>List.mem_flatMap.2 ⟨c,hc,ht⟩]
 case rgm m=>simp only [hop];rw [h m (by simp_all [rdH])]
 case ent m=>simp only [hop];rw [h m (by simp_all [rdH])]
 case clr x k z=>simp only [hop];rw [h x (by simp_all [rdH])]
 case pick c a b=>simp only [hop];rw [h c (by simp_all [rdH]),h a (by simp_all [rdH]),h b (by simp_all [rdH])]
 case mov x=>simp only [hop];rw [h x (by simp_all [rdH])]
 case un u x=>simp only [hop];rw [h x (by simp_all [rdH])]
 case conv k x=>simp only [hop];rw [h x (by simp_all [rdH])]
 case box x=>simp only [hop];rw [h x (by simp_all [rdH])]
 case ld n x=>simp only [hop];rw [h x (by simp_all [rdH])]
 case fad x n=>simp only [hop];rw [h x (by simp_all [rdH])]
 case fld x n k=>simp only [hop];rw [h x (by simp_all [rdH])]
 case lenS x=>simp only [hop];rw [h x (by simp_all [rdH])]
 case lenL x=>simp only [hop];rw [h x (by simp_all [rdH])]
 case ext x i=>simp only [hop];rw [h x (by simp_all [rdH])]
 case nilc x=>simp only [hop];rw [h x (by simp_all [rdH])]
 case nilS n kd x=>simp only [hop];rw [h x (by simp_all [rdH])]
 case mm n x y=>simp only [hop];rw [h x (by simp_all [rdH]),h y (by simp_all [rdH])]
 case slc x lo hi k =>
  simp only [hop]
  rw [h x (by simp_all [rdH])]
  cases lo<;>cases hi<;>simp only<;>(try rw [h _ (by simp_all [rdH])])<;>(try rw [h _ (by simp_all [rdH])])
 case slcS x lo hi =>
  simp only [hop]
  rw [h x (by simp_all [rdH])]
  cases lo<;>cases hi<;>simp only<;>(try rw [h _ (by simp_all [rdH])])<;>(try rw [h _ (by simp_all [rdH])])
 case bin op x y=>simp only [hop];rw [h x (by simp_all [rdH]),h y (by simp_all [rdH])]
 case eqa n ks x y=>simp only [hop];rw [h x (by simp_all [rdH]),h y (by simp_all [rdH])]
 case eqb n x y=>simp only [hop];rw [h x (by simp_all [rdH]),h y (by simp_all [rdH])]
 case st n x y=>simp only [hop];rw [h x (by simp_all [rdH]),h y (by simp_all [rdH])]
 case iad x y k=>simp only [hop];rw [h x (by simp_all [rdH]),h y (by simp_all [rdH])]
 case iadA x y n k=>simp only [hop];rw [h x (by simp_all [rdH]),h y (by simp_all [rdH])]
 case ixS x y=>simp only [hop];rw [h x (by simp_all [rdH]),h y (by simp_all [rdH])]
 case app x y k b=>simp only [hop];rw [h x (by simp_all [rdH]),h y (by simp_all [rdH])]
theorem aMD {P:Program} {G:Nat->Option (List AV)} {r:Nat} {s s':List (Nat×AV)} {T:Tab} {o:HOp} {K:AV->Tab->Prop} (h:∀ t∈rdH o,aK s t=aK s' t) :
  opW P G ⟨r,s,T⟩ o K=opW P G ⟨r,s',T⟩ o K:=by
 have hev:∀ x,(∀ t∈aR x,t∈rdH o)->evO G s x=evO G s' x:=fun x hx=>aIT fun t ht=>h t (hx t ht)
 cases o
 case call f as_ =>
  simp only [opW]
  rw [hev f (by simp_all [rdH]),List.map_congr_left fun c hc=>hev c fun t ht=>by simp only [rdH,List.mem_append,List.mem_flatMap];exact .inr ⟨c,hc,ht⟩]
 case nxt p =>
  simp only [opW]
  rw [hev p (by simp_all [rdH])]
 case nilS n k x =>
  simp only [opW]
  rw [hev x (by simp_all [rdH]),aC1 hev]
 all_goals simp only [opW];rw [aC1 hev]
theorem vB {s s':List (Nat×AV)} {g:Option (Nat×Bool)} (h:∀ j b,g=some (j,b)->aK s j=aK s' j):cL s g=cL s' g:=by
 cases g with
 | none=>rfl
 | some p=>obtain ⟨j,b⟩:=p;simp only [cL];rw [h j b rfl]
def aft (o:Oper):List Nat:=(o.after.toList.filter (Region.binds .any)).map (·.on)
def bCi (done:List (List Nat)) (o:Oper):List Nat:=((aft o).flatMap fun e=>e::done.getD e []).eraseDups
def aWk:List Oper->List (List Nat)->List (List Nat)
 | [],d=>d
 | o::os,d=>aWk os (d++[bCi d o])
def Plan.ok (p:Plan) (ops:List Oper):Bool :=
 (List.range p.hops.length).all fun i=>match p.hops[i]?,ops[i]? with
  | some o,some c =>
   (aft c).all (fun e=>e<i&&(p.p i).contains e) &&
   (p.p i).all (fun q=>(aft c).any fun e=>q==e||(p.p e).contains q) &&
   (match o.dst with
   | none=>true
   | some d=>(List.range p.hops.length).all fun j=>match p.hops[j]? with
    | none=>true
    | some o'=>(j==i||!(o'.dst==some d))&&(p.quiet i||!p.quiet j||!(rdO o').contains d||(p.p j).contains i||(p.p i).contains j))
  | _,_=>false
def mkQ (p:Plan):Nat->Bool->List Nat->Option HD
 | 0,_,_=>none
 | n+1,gc,E=>match (p.ready E).find? p.quiet with
  | some i=>match p.hops[i]? with
   | some o=>(mkQ p n gc (i::E)).map (.q o)
   | none=>none
  | none=>match p.ready E with
   | []=>some (.done gc)
   | [i]=>match p.hops[i]? with
    | some o=>if (p.pend (i::E)).isEmpty=true then (mkQ p n gc (i::E)).map fun x=>.alt o [] x .no else none
    | none=>none
   | _=>none
def aIU (p:Plan) (E l:List Nat):Bool:=(List.range p.hops.length).all fun k=>E.contains k||l.contains k||l.all (p.p k).contains
def aHr (p:Plan):Nat->Bool->List Nat->Option HD
 | 0,_,_=>none
 | n+1,gc,E=>match (p.ready E).find? p.quiet with
  | some i=>match p.hops[i]? with
   | some o=>(aHr p n gc (i::E)).map (.q o)
   | none=>none
  | none=>match p.ready E with
   | []=>some (.done gc)
   | c::cs=>if (8<=cs.length&&aIU p E (c::cs)&&(mkQ p n true ((c::cs)++E)).isSome)=true then (mkQ p n true ((c::cs)++E)).map (.perm ((E.filter p.quiet).filterMap fun q=>p.hops[q]?) ((c::cs).map fun i=>(p.hops[i]?).getD default)) else if (!cs.isEmpty&&12<=((List.range p.hops.length).filter fun k=>!E.contains k&&!p.quiet k).length)=true then some (.plan p.hops p.pre n gc E) else (c::cs).foldr (fun i acc=>match acc,p.hops[i]?,aHr p n (gc||!cs.isEmpty) (i::E) with
    | some t,some o,some x=>some (.alt o (if dR o.op then [] else p.pend (i::E)) x t)
    | _,_,_=>none) (some .no)
def aCz (H:List (Nat×Option Nat×Nat)) (ho:HOper):HOper:=match ho.op with
 | .bsl k z ps len=>if H.any (fun x=>ho.dst==some x.1&&x.2.2==1001)=true then ⟨ho.dst,.bslS k z ps len,ho.guard⟩ else ho
 | _=>ho
def aEa (P:Program) (N:Nat) (H:List (Nat×Option Nat×Nat)) (ops:Array Oper):Option HD :=
 match (dC P N ops ops.toList).map (·.map (aCz H)) with
 | none=>none
 | some hl=>let p:Plan:=⟨hl,aWk ops.toList []⟩
  if p.ok ops.toList&&(p.hops.length==ops.size) then aHr p (ops.size+2) false [] else none
structure PlanOk (p:Plan) (ops:Array Oper):Prop where
 len:p.hops.length=ops.size
 aft:∀ i c,ops[i]?=some c->∀ e∈c.after,Region.binds .any e=true->e.on<i/\e.on∈p.p i
 pre:∀ i c,ops[i]?=some c->∀ q∈p.p i,∃ e∈c.after,Region.binds .any e=true/\(q=e.on\/q∈p.p e.on)
 dst:∀ (i j:Nat) (o o':HOper) (d:Nat),p.hops[i]?=some o->p.hops[j]?=some o'->o.dst=some d->o'.dst=some d->j=i
 rds:∀ (i j:Nat) (o o':HOper) (d:Nat),p.hops[i]?=some o->p.hops[j]?=some o'->o.dst=some d->d∈rdO o'->p.quiet i=false->p.quiet j=true->i∈p.p j\/j∈p.p i
theorem aD4 {p:Plan} {i:Nat} (h:p.quiet i=true) :
  ∃ o d,p.hops[i]?=some o/\dR o.op=true/\o.dst=some d/\∀ r o',p.hops[r]?=some o'->d∈rdO o'->i∈p.p r:=by
 unfold Plan.quiet at h
 split at h
 ·simp at h
 ·rename_i o ho
  simp only [Bool.and_eq_true] at h
  obtain ⟨h1,h2⟩:=h
  split at h2
  ·simp at h2
  ·rename_i d hd
   refine ⟨o,d,ho,h1,hd,fun r o' hr hm=>?_⟩
   simp only [List.all_eq_true,List.mem_range] at h2
   have:=h2 r (List.getElem?_eq_some_iff.1 hr).1
   rw [hr] at this
   simpa [hm] using this
theorem aT9 {o:Oper} {x:Nat}:x∈Hud.aft o↔∃ e∈o.after,Region.binds .any e=true/\e.on=x:=by
 simp only [Hud.aft,List.mem_map,List.mem_filter,Array.mem_toList_iff]
 constructor
 ·rintro ⟨e,⟨h1,h2⟩,h3⟩;exact ⟨e,h1,h2,h3⟩
 ·rintro ⟨e,h1,h2,h3⟩;exact ⟨e,⟨h1,h2⟩,h3⟩
theorem aYU {p:Plan} {ops:Array Oper} (hl:p.hops.length=ops.size) (h:p.ok ops.toList=true):PlanOk p ops:=by
 have key:∀ i o c,p.hops[i]?=some o->ops[i]?=some c->_:=fun i o c hi hc=>by
  have h1:=h
  simp only [Plan.ok,List.all_eq_true,List.mem_range] at h1
  have h2:=h1 i (List.getElem?_eq_some_iff.1 hi).1
  rw [hi,show ops.toList[i]?=some c from by simpa using hc] at h2
  simp only [Bool.and_eq_true] at h2
  exact h2
 have hop:∀ i c,ops[i]?=some c->∃ o,p.hops[i]?=some o:=fun i c hc=>by
  have:=(Array.getElem?_eq_some_iff.1 hc).1
  exact ⟨_,List.getElem?_eq_getElem (by omega)⟩
 have opp:∀ (i:Nat) (o:HOper),p.hops[i]?=some o->∃ c,ops[i]?=some c:=fun i o hc=>by
  have:=(List.getElem?_eq_some_iff.1 hc).1
  exact ⟨_,Array.getElem?_eq_getElem (by omega)⟩
 refine ⟨hl,fun i c hc e he hb=>?_,fun i c hc q hq=>?_,fun i j o o' d hi hj hd hd'=>?_,fun i j o o' d hi hj hd hr hqi hqj=>?_⟩
 ·obtain ⟨o,ho⟩:=hop i c hc
  have h1:=(key i o c ho hc).1.1
  simp only [List.all_eq_true] at h1
  have:=h1 e.on (aT9.2 ⟨e,he,hb,rfl⟩)
  simp only [Bool.and_eq_true,decide_eq_true_eq] at this
  exact ⟨this.1,by simpa using this.2⟩
 ·obtain ⟨o,ho⟩:=hop i c hc
  have h1:=(key i o c ho hc).1.2
  simp only [List.all_eq_true] at h1
  have:=h1 q hq
  simp only [List.any_eq_true] at this
  obtain ⟨e,he,h2⟩:=this
  obtain ⟨e',he',hb,rfl⟩:=aT9.1 he
  refine ⟨e',he',hb,?_⟩
  simpa using h2
 ·obtain ⟨c,hc⟩:=opp i o hi
  have h1:=(key i o c hi hc).2
  rw [hd] at h1
  simp only [List.all_eq_true,List.mem_range] at h1
  have h2:=h1 j (List.getElem?_eq_some_iff.1 hj).1
  rw [hj] at h2
  simp only [hd',Bool.and_eq_true,Bool.or_eq_true,beq_self_eq_true,Bool.not_true,Bool.false_eq_true,or_false,beq_iff_eq] at h2
  exact h2.1
 ·obtain ⟨c,hc⟩:=opp i o hi
  have h1:=(key i o c hi hc).2
  rw [hd] at h1
  simp only [List.all_eq_true,List.mem_range] at h1
  have h2:=h1 j (List.getElem?_eq_some_iff.1 hj).1
  rw [hj] at h2
  simp only [hqi,hqj,Bool.and_eq_true,Bool.or_eq_true,Bool.false_eq_true,Bool.not_true,false_or,Bool.not_eq_true',List.contains_eq_mem,decide_eq_true_eq,decide_eq_false_iff_not,hr,not_true_eq_false] at h2
  exact h2.2
theorem aIV {G:Nat->Option (List AV)} {st:St} {l:List HOper}:kK G st l↔∀ o∈l,kK G st [o]:=by
 induction l with
 | nil=>simp [kK]
 | cons o l ih =>
  simp only [List.mem_cons,forall_eq_or_imp]
  rw [<-ih]
  simp [kK]
theorem aIW {G:Nat->Option (List AV)} {r:Nat} {s s':List (Nat×AV)} {T:Tab} {o:HOper} (h:∀ t∈rdO o,aK s t=aK s' t) (hd:o.dst.map (aK s)=o.dst.map (aK s')) :
  kK G ⟨r,s,T⟩ [o]=kK G ⟨r,s',T⟩ [o]:=by
 have hw:cL s o.guard=cL s' o.guard:=vB fun j b e=>h j (by simp [rdO,e])
 have hh:hop T (evO G s) o.op=hop T (evO G s') o.op:=aC1 fun x hx=>aIT fun t ht=>h t (by simp only [rdO,List.mem_append];exact .inl (hx t ht))
 simp only [kK,hw,hh,hd]
theorem aUO {P:Program} {G:Nat->Option (List AV)} {st:St} {o:HOp} {K:AV->Tab->Prop} (h:opW P G st o K):opW P G st o fun x T=>K x T/\(dR o=true->T=st.T):=by
 cases o
 case call f as_ =>
  have:(fun x T=>K x T/\(dR (HOp.call f as_)=true->T=st.T))=K:=by
   funext x T;simp [dR]
  rw [this];exact h
 case nxt p =>
  have:(fun x T=>K x T/\(dR (HOp.nxt p)=true->T=st.T))=K:=by
   funext x T;simp [dR]
  rw [this];exact h
 case nilS n k x =>
  simp only [opW] at h ⊢
  split at h
  ·rename_i hn
   rw [if_pos hn]
   exact ⟨⟨h.1,fun _=>trivial⟩,⟨h.2,fun _=>trivial⟩⟩
  ·rename_i hn
   rw [if_neg hn]
   split at h
   ·rename_i x T he
    exact ⟨h,fun hq=>aFp hq he⟩
   ·exact h.elim
 all_goals
  simp only [opW] at h ⊢
  split at h
  ·rename_i x T he
   exact ⟨h,fun hq=>aFp hq he⟩
  ·exact h.elim
def unl (listed:Array Bool):Nat->Nat
 | 0=>0
 | m+1=>unl listed m+if listed.getD m false then 0 else 1
theorem aEb {listed:Array Bool}:∀ {m:Nat},unl listed m=0->∀ i,i<m->listed.getD i false=true
 | 0,_,i,hi=>by omega
 | m+1,h,i,hi=>by
  simp only [unl] at h
  split at h
  ·rename_i hm
   rcases Nat.lt_or_ge i m with h1 | h1
   ·exact aEb (by omega) i h1
   ·have:i=m:=by omega
    subst this;exact hm
  ·omega
theorem aWl {listed:Array Bool} {i:Nat}:∀ {m:Nat},m<=i->unl (listed.setIfInBounds i true) m=unl listed m
 | 0,_=>rfl
 | m+1,h=>by
  simp only [unl]
  rw [aWl (by omega),getD_set_ne false (by omega)]
theorem aI6 {listed:Array Bool} {i:Nat} (hs:i<listed.size) (hu:listed.getD i false=false):∀ {m:Nat},i<m->unl (listed.setIfInBounds i true) m+1=unl listed m
 | 0,h=>by omega
 | m+1,h=>by
  simp only [unl]
  rcases Nat.lt_or_ge i m with h1 | h1
  ·have:=aI6 hs hu h1
   rw [getD_set_ne false (by omega)]
   omega
  ·have:i=m:=by omega
   subst this
   have h2:(listed.setIfInBounds i true).getD i false=true:=by simp [Array.getD_eq_getD_getElem?,hs]
   rw [aWl (Nat.le_refl _),h2,hu]
   simp
theorem aGr {P:Program} {N:Nat} {ops:Array Oper}:∀ {l:List Oper} {hl:List HOper},dC P N ops l=some hl->hl.length=l.length/\∀ (i:Nat) ho,hl[i]?=some ho->∃ o,l[i]?=some o/\lL P N ops o=some ho
 | [],hl,h=>by simp only [dC,Option.some.injEq] at h;subst h;simp
 | o::l,hl,h=>by
  simp only [dC] at h
  split at h
  ·rename_i ho hl' h1 h2
   injection h with h
   subst h
   obtain ⟨h3,h4⟩:=aGr h2
   refine ⟨by simp [h3],fun i ho' hi=>?_⟩
   cases i with
   | zero=>simp only [List.getElem?_cons_zero,Option.some.injEq] at hi;subst hi;exact ⟨o,rfl,h1⟩
   | succ i=>simpa using h4 i ho' (by simpa using hi)
  ·simp at h
section
variable {P:Program} {G:Nat->Option (List AV)} {N:Nat} {h0:GH} {φ0:Nat->Value} {T0:Tab} {w0:World}
theorem aFq {φ:Nat->Value} {w:World} {a:Act}:∀ (I:List Nat) {st:St} {h:GH},GOk G h->Inv h φ w st.T->SOk h φ st.T.length st.s a ->
  ∃ h2,GOk G h2/\Inv h2 φ w (aCw st.T I)/\Evo h φ st.T w h2 φ (aCw st.T I) w/\∃ s2:List (Nat×AV),(∀ j,aK s2 j=oR st.T I (aK st.s j))/\SOk h2 φ (aCw st.T I).length s2 a
 | [],st,h,hG,hI,hS=>⟨h,hG,hI,Evo.refl,st.s,fun _=>rfl,hS⟩
 | i::r,st,h,hG,hI,hS=>by
  simp only [aCw,oR]
  split
  ·rename_i k es hg
   obtain ⟨s1,s2⟩:=aPz hI (aN hg)
   obtain ⟨h2,g1,g2,g3,s3,g4,g5⟩:=aFq r (st:=⟨st.r,slS i k es st.s,(slT i k es st.T).set i none⟩) (hG.mono (xO hI (aN hg))) s1 (fun j=>by
    show Rp _ φ ((slT i k es st.T).set i none).length (aK (slS i k es st.s) j) _
    rw [List.length_set,aI4,aI5]
    exact aO1 hI (aN hg) (hS j))
   refine ⟨h2,g1,g2,s2.trans g3,s3,fun j=>?_,g5⟩
   rw [g4 j,aI5]
  ·rename_i hn
   exact aFq r hG hI hS
theorem aIX:∀ (I:List Nat) (T:Tab) (f:Nat),oR T I (.cl f [])=.cl f []
 | [],_,_=>rfl
 | i::r,T,f=>by
  simp only [oR]
  split
  ·simp only [slA,slL];exact aIX r _ f
  ·exact aIX r T f
theorem aO2:∀ (I:List Nat) (T:Tab) (x:Value),oR T I (.v x)=.v x
 | [],_,_=>rfl
 | i::r,T,x=>by
  simp only [oR]
  split
  ·simp only [slA];exact aO2 r _ x
  ·exact aO2 r T x
theorem aIY:∀ (I:List Nat) (T:Tab) (cs:List AV),oR T I (.rp cs)=.rp cs
 | [],_,_=>rfl
 | i::r,T,cs=>by
  simp only [oR]
  split
  ·simp only [slA];exact aIY r _ cs
  ·exact aIY r T cs
theorem aFr:∀ (I:List Nat) (T:Tab),oR T I .any=.any
 | [],_=>rfl
 | i::r,T=>by
  simp only [oR]
  split
  ·simp only [slA];exact aFr r _
  ·exact aFr r T
theorem aWm {s s2:List (Nat×AV)} {T:Tab} {I:List Nat} (h:∀ j,aK s2 j=oR T I (aK s j)) (x:Operand):evO G s2 x=oR T I (evO G s x):=by
 cases x with
 | tmp t=>exact h t
 | const v=>exact (aO2 I T v).symm
 | global g =>
  simp only [evO]
  cases G g with
  | none=>exact (aFr I T).symm
  | some cs=>exact (aIY I T cs).symm
 | func f=>exact (aIX I T f).symm
theorem aLz {h:GH} {φ:Nat->Value} {w:World} {a:Act} {st:St} {K:AV->Tab->Prop} {next:Act->World->Prop} {o:Oper} {k:Nat} {z:List Value} {ps:List (Nat×Nat×Operand)} {len:Nat} (hc:aD3 P o=some (.bsl k z ps len)) (hw:opW P G st (.bslS k z ps len) K) (hG:GOk G h) (hI:Inv h φ w st.T) (hS:SOk h φ st.T.length st.s a)
  (hn:∀ v w',Ret h φ st.T w K v w'->next (a.put o.dst v) w'):mA P o a w next:=by
 have hw2:∃ x T',hop st.T (evO G st.s) (.bslS k z ps len)=some (x,T')/\K x T':=by
  simp only [opW] at hw
  split at hw
  ·rename_i x T' e;exact ⟨x,T',e,hw⟩
  ·exact hw.elim
 obtain ⟨x,T',he,hk⟩:=hw2
 obtain ⟨h2,g1,g2,g3,s2,g4,g5⟩:=aFq (fI (ps.map fun p=>evO G st.s p.2.2)) hG hI hS
 refine aIO hc (st:=⟨st.r,s2,aCw st.T (fI (ps.map fun p=>evO G st.s p.2.2))⟩) (K:=K) ?_ g1 g2 g5 fun v w' hr=>hn v w' ?_
 ·simp only [hop] at he
  simp only [opW,hop]
  have:(ps.map fun p=>(p.1,p.2.1,evO G s2 p.2.2))=ps.map fun p=>(p.1,p.2.1,oR st.T (fI (ps.map fun p=>evO G st.s p.2.2)) (evO G st.s p.2.2)):=List.map_congr_left fun p _=>by rw [aWm g4]
  rw [this]
  split at he
  ·rename_i cs hcs
   split at he
   ·rename_i hcl
    simp only [Option.some.injEq,Prod.mk.injEq] at he
    obtain ⟨rfl,rfl⟩:=he
    rw [if_pos hcl]
    exact hk
   ·simp at he
  ·simp at he
 ·obtain ⟨r,T2,h3,φ3,e1,e2,e3,e4⟩:=hr
  exact ⟨r,T2,h3,φ3,e1,g3.trans e2,e3,e4⟩
theorem aIZ {H:List (Nat×Option Nat×Nat)} (ho:HOper):aCz H ho=ho\/∃ k z ps len,ho.op=.bsl k z ps len/\aCz H ho=⟨ho.dst,.bslS k z ps len,ho.guard⟩:=by
 unfold aCz
 split
 ·rename_i k z ps len e
  split
  ·exact .inr ⟨k,z,ps,len,e,rfl⟩
  ·exact .inl rfl
 ·exact .inl rfl
theorem aTa {H:List (Nat×Option Nat×Nat)} {ro:Option Nat} {ops:Array Oper} {Q:Exit->Act->World->Prop} {i:Nat} {o:Oper} {ho:HOper} {st:St} {a:Act} {w:World} {next:Act->World->Prop} (hi:ops[i]?=some o) (hc:(lL P N ops o).map (aCz H)=some ho)
  (hS:SInv P G N h0 φ0 T0 w0 st a w) (hw:match cL st.s ho.guard with
   | some true=>opW P G st ho.op fun x T=>∀ a' w',SInv P G N h0 φ0 T0 w0 ⟨st.r,cG st.s ho.dst x,T⟩ a' w'->next a' w'
   | some false=>∀ a' w',SInv P G N h0 φ0 T0 w0 ⟨st.r,cG st.s ho.dst (.v undef),st.T⟩ a' w'->next a' w'
   | none=>False):wpOpIn (fe ro) 0 P ops Q i next a w:=by
 obtain ⟨hr,honce,⟨h,φ,hG,hE,hI,hSl⟩,hsz,hdf⟩:=hS
 obtain ⟨ho0,hc0,hseal⟩:=Option.map_eq_some_iff.1 hc
 obtain ⟨c1,c2,c3,c4⟩:=aCy hc0
 have hdst:∀ j,o.dst=some j->j<a.tmps.size:=fun j hj=>Nat.lt_of_lt_of_le (c1 j hj) hsz
 have hput:∀ v,N<=(a.put o.dst v).tmps.size:=by
  intro v
  cases o.dst with
  | none=>exact hsz
  | some j=>simpa [Act.put] using hsz
 unfold wpOpIn
 simp only [hi]
 have hdd:ho.dst=o.dst/\ho.guard=ho0.guard:=by
  rcases aIZ (H:=H) ho0 with e | ⟨_,_,_,_,_,e⟩
  ·rw [<-hseal,e];exact ⟨c2,rfl⟩
  ·rw [<-hseal,e];exact ⟨c2,rfl⟩
 rw [hdd.1,hdd.2] at hw
 split at hw
 ·rename_i hwt
  have hwant:=aE8 hSl c4 hwt
  rw [if_pos hwant]
  have hso:∀ {nx:Act->World->Prop},(∀ v w',Ret h φ st.T w _ v w'->nx (a.put o.dst v) w')->mA P o a w nx:=fun hret=>by
   rcases aIZ (H:=H) ho0 with e | ⟨k,z,ps,len,e1,e2⟩
   ·rw [<-hseal,e] at hw;exact aIO c3 hw hG hI hSl hret
   ·rw [<-hseal,e2] at hw;exact aLz (by rw [c3,e1]) hw hG hI hSl hret
  refine bA6 (aE6 c3) (hso fun v w' hret=>?_)
  obtain ⟨x,T',h',φ',hk,hE',hI',hx⟩:=hret
  have hSl':SOk h' φ' T'.length st.s a:=fun i=>(hSl i).mono hE'.le hE'.len hE'.phi
  exact hk _ _ ⟨hr,tB honce _ _,⟨h',φ',hG.mono hE'.le,hE.trans hE',hI',aE7 hSl' hx hdst⟩,hput v,(hdf.keep hI hE').put _ _⟩
 ·rename_i hwt
  have hwant:=aE8 hSl c4 hwt
  rw [if_neg (by simp [hwant])]
  exact ⟨fun f _=>aT6 ro f,hw _ _ ⟨hr,tB honce _ _,⟨h,φ,hG,hE,hI,aE7 hSl (by simp [Rp]) hdst⟩,hput _,hdf.put _ _⟩⟩
 ·exact hw.elim
structure Drawn (P:Program) (G:Nat->Option (List AV)) (N:Nat) (h0:GH) (φ0:Nat->Value) (T0:Tab) (w0:World) (p:Plan) (E:List Nat) (st:St) (listed:Array Bool) (a:Act) (w:World):Prop where
 size:listed.size=p.hops.length
 lt:∀ i∈E,i<p.hops.length
 sub:∀ i,listed.getD i false=true->i∈E
 clo:∀ i,listed.getD i false=true->∀ q∈p.p i,listed.getD q false=true
 heavy:∀ i∈E,p.quiet i=false->listed.getD i false=true
 ecl:∀ i∈E,∀ q∈p.p i,q∈E
 pend:∀ i∈E,listed.getD i false=false->∀ o,p.hops[i]?=some o->kK G st [o]
 once:aFn st.s
 inv:∃ s',(∀ t,aK s' t=aK st.s t\/∃ i o,i∈E/\listed.getD i false=false/\p.hops[i]?=some o/\o.dst=some t)/\SInv P G N h0 φ0 T0 w0 ⟨st.r,s',st.T⟩ a w
variable {p:Plan} {ops:Array Oper} {E:List Nat} {st:St} {listed:Array Bool} {a:Act} {w:World}
theorem aTb {listed:Array Bool} {i:Nat}:(i<listed.size/\listed.getD i true=false)↔(i<listed.size/\listed.getD i false=false):=by
 constructor<;>rintro ⟨h,h1⟩<;>exact ⟨h,by simpa [Array.getD_eq_getD_getElem?,h] using h1⟩
theorem nW (hp:PlanOk p ops) (hJ:Drawn P G N h0 φ0 T0 w0 p E st listed a w) {i:Nat} (hr:i∈Region.ready .any ops listed) :
  listed.getD i false=false/\i<p.hops.length/\(∃ o,ops[i]?=some o)/\∀ q∈p.p i,listed.getD q false=true:=by
 obtain ⟨h1,o,ho,h2⟩:=mem_ready.1 hr
 have hlt:i<listed.size:=by have:=(Array.getElem?_eq_some_iff.1 ho).1;have:=hp.len;have:=hJ.size;omega
 refine ⟨(aTb.1 ⟨hlt,h1⟩).2,by have:=hJ.size;omega,⟨o,ho⟩,fun q hq=>?_⟩
 obtain ⟨e,he,hb,h3⟩:=hp.pre i o ho q hq
 have h4:=h2 e he hb
 rcases h3 with rfl | h3
 ·exact h4
 ·exact hJ.clo _ h4 _ h3
theorem aFs (hp:PlanOk p ops) (hs:listed.size=p.hops.length) (hr:Region.ready .any ops listed=[]):∀ i,i<p.hops.length->listed.getD i false=true:=by
 intro i
 induction i using Nat.strongRecOn with
 | _ i ih =>
  intro hi
  have hlt:i<ops.size:=by have:=hp.len;omega
  by_cases hu:listed.getD i false=true
  ·exact hu
  ·have:i∈Region.ready .any ops listed:=by
    refine mem_ready.2 ⟨(aTb.2 ⟨by omega,by simpa using hu⟩).2,ops[i],Array.getElem?_eq_getElem hlt,fun e he hb=>?_⟩
    have:=(hp.aft i _ (Array.getElem?_eq_getElem hlt) e he hb).1
    exact ih e.on this (by omega)
   rw [hr] at this
   simp at this
end
end
section
section
variable {P:Program} {G:Nat->Option (List AV)} {N:Nat} {h0:GH} {φ0:Nat->Value} {T0:Tab} {w0:World}
variable {H:List (Nat×Option Nat×Nat)} {ro:Option Nat} {p:Plan} {ops:Array Oper} {E:List Nat} {st:St} {listed:Array Bool} {a:Act} {w:World} {Q:Exit->Act->World->Prop}
theorem aD5 {f:FuncId} {args:List AV} {T:Tab} {K K':AV->Tab->Prop} (h:∀ x T,K x T->K' x T) (hw:aDT P G f args T K):aDT P G f args T K':=by
 obtain ⟨as_,hs,hw⟩:=hw
 refine ⟨as_,hs,?_⟩
 rcases hw with hw | ⟨h1,hw⟩
 ·obtain ⟨L,h1,h2,hw⟩:=hw
  exact .inl ⟨L,h1,h2,hw.mono fun r T' hk=>h _ _ hk⟩
 ·exact .inr ⟨h1,hw.mono fun r T' hk=>⟨hk.1,hk.2.1,h _ _ hk.2.2⟩⟩
theorem xP {st:St} {o:HOp} {K K':AV->Tab->Prop} (h:∀ x T,K x T->K' x T) (hw:opW P G st o K):opW P G st o K':=by
 cases o
 case call f as_ =>
  simp only [opW] at hw ⊢
  split at hw
  ·rename_i g caps he
   exact aD5 h hw
  ·rename_i g k cs he
   exact aD5 h hw
  ·rename_i i he
   exact hw.mono fun r T' hk=>h _ _ hk
  ·exact hw.elim
 case nxt p =>
  simp only [opW] at hw ⊢
  split at hw
  ·split at hw
   ·exact h _ _ hw
   ·split at hw
    ·exact ⟨hw.1,hw.2.1,fun ha=>h _ _ (hw.2.2.1 ha),fun e k v b h1 h2 h3 h4=>h _ _ (hw.2.2.2 e k v b h1 h2 h3 h4)⟩
    ·exact hw.elim
   ·exact hw.elim
  ·exact hw.elim
 case nilS n k x =>
  simp only [opW] at hw ⊢
  split at hw
  ·rename_i hn
   rw [if_pos hn]
   exact ⟨h _ _ hw.1,h _ _ hw.2⟩
  ·rename_i hn
   rw [if_neg hn]
   split at hw
   ·exact h _ _ hw
   ·exact hw.elim
 all_goals
  simp only [opW] at hw ⊢
  split at hw
  ·exact h _ _ hw
  ·exact hw.elim
theorem aRv {st:St} {o:HOp} {K:AV->Tab->Prop} {x:AV} {T:Tab} (hq:dR o=true) (he:hop st.T (evO G st.s) o=some (x,T)) (hk:K x T):opW P G st o K:=by
 cases o
 case call f as_=>simp [dR] at hq
 case nxt p=>simp [dR] at hq
 case nilS n k y =>
  have hn:aNP k (evO G st.s y)≠true:=fun hn=>by
   unfold aNP at hn
   split at hn
   ·rename_i h1;simp [hop,h1] at he
   ·simp at hn
  simp only [opW,he]
  rw [if_neg hn]
  exact hk
 all_goals
  simp only [opW,he]
  exact hk
theorem aRw (s:List (Nat×AV)) (d:Nat) (x:AV):aK (cG s (some d) x) d=x:=by simp [cG,aE3]
theorem aTc {s:List (Nat×AV)} {d t:Nat} {x:AV} (h:d≠t):aK (cG s (some d) x) t=aK s t:=by simp [cG,aE3,h]
theorem xQ {s:List (Nat×AV)} {o:Option Nat} {t:Nat} {x:AV} (h:o≠some t):aK (cG s o x) t=aK s t:=by
 cases o with
 | none=>rfl
 | some d=>exact aTc fun e=>h (by rw [e])
theorem dV {i:Nat} (hs:i<listed.size) (j:Nat):(listed.setIfInBounds i true).getD j false=true↔j=i\/listed.getD j false=true:=by
 by_cases h:i=j
 ·subst h;simp [Array.getD_eq_getD_getElem?,hs]
 ·rw [getD_set_ne false h];constructor
  ·exact .inr
  ·rintro (rfl | h')
   ·exact absurd rfl h
   ·exact h'
theorem aI7 (hp:PlanOk p ops) (hJ:Drawn P G N h0 φ0 T0 w0 p E st listed a w) {i:Nat} (hr:i∈p.ready E) (hq:p.quiet i=true) {o:HOper} (ho:p.hops[i]?=some o) {x:AV}
  (hx:(cL st.s o.guard=some true/\∃ T',hop st.T (evO G st.s) o.op=some (x,T'))\/(cL st.s o.guard=some false/\x=.v undef)) :
  Drawn P G N h0 φ0 T0 w0 p (i::E) ⟨st.r,cG st.s o.dst x,st.T⟩ listed a w:=by
 obtain ⟨o',d,ho',hqh,hd,hrd⟩:=aD4 hq
 rw [ho] at ho'
 injection ho' with ho'
 subst ho'
 simp only [Plan.ready,List.mem_filter,List.mem_range,Bool.and_eq_true,Bool.not_eq_true',List.contains_eq_mem,decide_eq_false_iff_not,List.all_eq_true,decide_eq_true_eq] at hr
 obtain ⟨hlt,hni,hpre⟩:=hr
 have hnl:listed.getD i false=false:=by
  cases hb:listed.getD i false
  ·rfl
  ·exact absurd (hJ.sub i hb) hni
 have noread:∀ (k:Nat) ok,k∈E\/k=i->p.hops[k]?=some ok->d∉rdO ok:=fun k ok hk hok hm=>by
  have h1:=hrd k ok hok hm
  rcases hk with hk | rfl
  ·exact hni (hJ.ecl k hk i h1)
  ·exact hni (hpre k h1)
 have keep:∀ (k:Nat) ok,k∈E\/k=i->p.hops[k]?=some ok->∀ t∈rdO ok,aK (cG st.s o.dst x) t=aK st.s t:=fun k ok hk hok t ht=>by
  rw [hd]
  exact aTc fun e=>noread k ok hk hok (e ▸ ht)
 refine ⟨hJ.size,?_,fun k hk=>List.mem_cons_of_mem _ (hJ.sub k hk),hJ.clo,?_,?_,?_,tB hJ.once _ _,?_⟩
 ·intro k hk
  rcases List.mem_cons.1 hk with rfl | hk
  ·exact hlt
  ·exact hJ.lt k hk
 ·intro k hk hqk
  rcases List.mem_cons.1 hk with rfl | hk
  ·rw [hq] at hqk;simp at hqk
  ·exact hJ.heavy k hk hqk
 ·intro k hk q hqm
  rcases List.mem_cons.1 hk with rfl | hk
  ·exact List.mem_cons_of_mem _ (hpre q hqm)
  ·exact List.mem_cons_of_mem _ (hJ.ecl k hk q hqm)
 ·intro k hk hul ok hok
  by_cases hki:k=i
  ·subst hki
   rw [ho] at hok
   injection hok with hok
   subst hok
   have hg:cL (cG st.s o.dst x) o.guard=cL st.s o.guard:=vB fun j b e=>keep k o (.inr rfl) ho j (by simp [rdO,e])
   have hh:hop st.T (evO G (cG st.s o.dst x)) o.op=hop st.T (evO G st.s) o.op:=aC1 fun y hy=>aIT fun t ht=>keep k o (.inr rfl) ho t (by simp only [rdO,List.mem_append];exact .inl (hy t ht))
   rw [hd] at hg hh ⊢
   simp only [kK,hg,hh,hd,Option.map_some,aRw,and_true]
   rcases hx with ⟨h1,T',h2⟩ | ⟨h1,h2⟩
   ·simp [h1,h2]
   ·simp [h1,h2]
  ·have hkE:k∈E:=by
    rcases List.mem_cons.1 hk with h | h
    ·exact absurd h hki
    ·exact h
   rw [aIW (s':=st.s) (keep k ok (.inl hkE) hok) ?_]
   ·exact hJ.pend k hkE hul ok hok
   ·cases hdk:ok.dst with
    | none=>rfl
    | some dk =>
     simp only [Option.map_some,Option.some.injEq]
     refine xQ fun e=>hki ?_
     exact hp.dst i k o ok dk ho hok (e ▸ rfl) hdk
 ·obtain ⟨s',hs,hS⟩:=hJ.inv
  refine ⟨s',fun t=>?_,hS⟩
  by_cases ht:o.dst=some t
  ·exact .inr ⟨i,o,by simp,hnl,ho,ht⟩
  ·rcases hs t with h | ⟨k,ok,h1,h2,h3,h4⟩
   ·exact .inl (by rw [h];exact (xQ ht).symm)
   ·exact .inr ⟨k,ok,by simp [h1],h2,h3,h4⟩
theorem aJ0 (hp:PlanOk p ops) (hJ:Drawn P G N h0 φ0 T0 w0 p E st listed a w) {i:Nat} (hr:i∈Region.ready .any ops listed) {o:HOper} (ho:p.hops[i]?=some o) {s':List (Nat×AV)}
  (hs:∀ t,aK s' t=aK st.s t\/∃ i o,i∈E/\listed.getD i false=false/\p.hops[i]?=some o/\o.dst=some t):∀ t∈rdO o,aK s' t=aK st.s t:=by
 intro t ht
 obtain ⟨_,_,_,hpre⟩:=nW hp hJ hr
 rcases hs t with h | ⟨k,ok,h1,h2,h3,h4⟩
 ·exact h
 ·have hqk:p.quiet k=true:=by
   cases hb:p.quiet k
   ·rw [hJ.heavy k h1 hb] at h2;simp at h2
   ·rfl
  obtain ⟨o',d,ho',_,hd,hrd⟩:=aD4 hqk
  rw [h3] at ho'
  injection ho' with ho'
  subst ho'
  rw [h4] at hd
  injection hd with hd
  subst hd
  rw [hpre k (hrd i o ho ht)] at h2
  simp at h2
theorem aRx (hp:PlanOk p ops) (hh:∀ (i:Nat) ho,p.hops[i]?=some ho->∃ o,ops[i]?=some o/\(lL P N ops o).map (aCz H)=some ho) (hJ:Drawn P G N h0 φ0 T0 w0 p E st listed a w) {i:Nat} (hr:i∈Region.ready .any ops listed) (hi:i∈E) {next:Act->World->Prop}
  (hn:∀ a' w',Drawn P G N h0 φ0 T0 w0 p E st (listed.setIfInBounds i true) a' w'->next a' w'):wpOpIn (fe ro) 0 P ops Q i next a w:=by
 obtain ⟨hul,hlt,⟨c,hc⟩,hpre⟩:=nW hp hJ hr
 have hq:p.quiet i=true:=by
  cases hb:p.quiet i
  ·rw [hJ.heavy i hi hb] at hul;simp at hul
  ·rfl
 obtain ⟨o,d,ho,hqh,hd,hrd⟩:=aD4 hq
 obtain ⟨s',hs,hS⟩:=hJ.inv
 have hrs:=aJ0 hp hJ hr ho hs
 have hck:=hJ.pend i hi hul o ho
 obtain ⟨c',hc',hcomp⟩:=hh i o ho
 have fin:∀ x a' w',x=aK st.s d->SInv P G N h0 φ0 T0 w0 ⟨st.r,cG s' o.dst x,st.T⟩ a' w'->next a' w':=by
  intro x a' w' hx hS'
  have hsz:i<listed.size:=by rw [hJ.size];exact hlt
  refine hn a' w' ⟨by simpa using hJ.size,hJ.lt,fun k hk=>?_,fun k hk q hqm=>?_,fun k hk hqk=>?_,hJ.ecl,fun k hk hk2=>?_,hJ.once,cG s' o.dst x,fun t=>?_,hS'⟩
  ·rcases (dV hsz k).1 hk with rfl | h
   ·exact hi
   ·exact hJ.sub k h
  ·refine (dV hsz q).2 (.inr ?_)
   rcases (dV hsz k).1 hk with rfl | h
   ·exact hpre q hqm
   ·exact hJ.clo k h q hqm
  ·exact (dV hsz k).2 (.inr (hJ.heavy k hk hqk))
  ·refine hJ.pend k hk ?_
   cases hb:listed.getD k false
   ·rfl
   ·rw [(dV hsz k).2 (.inr hb)] at hk2;simp at hk2
  ·by_cases ht:o.dst=some t
   ·rw [ht]
    rw [hd] at ht
    injection ht with ht
    subst ht
    exact .inl (by rw [aRw];exact hx)
   ·rw [xQ ht]
    rcases hs t with h | ⟨k,ok,h1,h2,h3,h4⟩
    ·exact .inl h
    ·refine .inr ⟨k,ok,h1,?_,h3,h4⟩
     cases hb:(listed.setIfInBounds i true).getD k false
     ·rfl
     ·rcases (dV hsz k).1 hb with rfl | h
      ·rw [ho] at h3;injection h3 with h3;subst h3;exact absurd h4 ht
      ·rw [h2] at h;simp at h
 refine aTa hc' hcomp hS ?_
 have hw:cL s' o.guard=cL st.s o.guard:=vB fun j b e=>hrs j (by simp [rdO,e])
 simp only [kK,and_true] at hck
 simp only [hw]
 cases hwv:cL st.s o.guard with
 | none=>simp [hwv] at hck
 | some b =>
  rw [hwv] at hck
  cases b with
  | false =>
   simp only [hd,Option.map_some,Option.some.injEq] at hck
   exact fun a' w' hS'=>fin _ a' w' hck.symm hS'
  | true =>
   simp only at hck ⊢
   rw [aMD (s':=st.s) fun t ht=>hrs t (by simp only [rdO,List.mem_append];exact .inl ht)]
   split at hck
   ·rename_i x T' he
    simp only [hd,Option.map_some,Option.some.injEq] at hck
    have hT:=aFp hqh he
    subst hT
    exact aRv (st:=⟨st.r,st.s,st.T⟩) hqh he fun a' w' hS'=>fin x a' w' hck.symm hS'
   ·exact hck.elim
theorem aRy (hp:PlanOk p ops) (hh:∀ (i:Nat) ho,p.hops[i]?=some ho->∃ o,ops[i]?=some o/\(lL P N ops o).map (aCz H)=some ho) (hJ:Drawn P G N h0 φ0 T0 w0 p E st listed a w) {i:Nat} (hr:i∈Region.ready .any ops listed) (hi:i∉E) (hq:p.quiet i=false)
  {o:HOper} (ho:p.hops[i]?=some o) {K:AV->Tab->Prop}
  (hw:match cL st.s o.guard with
   | some true=>opW P G st o.op fun x T=>kK G ⟨st.r,cG st.s o.dst x,T⟩ (if dR o.op then [] else p.pend (i::E))/\K x T
   | some false=>kK G ⟨st.r,cG st.s o.dst (.v undef),st.T⟩ (if dR o.op then [] else p.pend (i::E))/\K (.v undef) st.T
   | none=>False) {next:Act->World->Prop}
  (hn:∀ x T a' w',K x T->Drawn P G N h0 φ0 T0 w0 p (i::E) ⟨st.r,cG st.s o.dst x,T⟩ (listed.setIfInBounds i true) a' w'->next a' w'):wpOpIn (fe ro) 0 P ops Q i next a w:=by
 obtain ⟨hul,hlt,⟨c,hc⟩,hpre⟩:=nW hp hJ hr
 obtain ⟨s',hs,hS⟩:=hJ.inv
 have hrs:=aJ0 hp hJ hr ho hs
 obtain ⟨c',hc',hcomp⟩:=hh i o ho
 have hsz:i<listed.size:=by rw [hJ.size];exact hlt
 have fin:∀ x T a' w',kK G ⟨st.r,cG st.s o.dst x,T⟩ (if dR o.op then [] else p.pend (i::E))->(dR o.op=true->T=st.T)->K x T ->
   SInv P G N h0 φ0 T0 w0 ⟨st.r,cG s' o.dst x,T⟩ a' w'->next a' w':=by
  intro x T a' w' hck hqT hk hS'
  have hclo:∀ k,(listed.setIfInBounds i true).getD k false=true->∀ q∈p.p k,(listed.setIfInBounds i true).getD q false=true:=fun k hk q hqm=>by
   refine (dV hsz q).2 (.inr ?_)
   rcases (dV hsz k).1 hk with rfl | h
   ·exact hpre q hqm
   ·exact hJ.clo k h q hqm
  have hheavy:∀ k∈i::E,p.quiet k=false->(listed.setIfInBounds i true).getD k false=true:=fun k hk hqk=>by
   rcases List.mem_cons.1 hk with rfl | hk
   ·exact (dV hsz k).2 (.inl rfl)
   ·exact (dV hsz k).2 (.inr (hJ.heavy k hk hqk))
  refine hn x T a' w' hk ⟨by simpa using hJ.size,fun k hk=>?_,fun k hk=>?_,hclo,hheavy,fun k hk q hqm=>?_,fun k hk hk2 ok hok=>?_,tB hJ.once _ _,cG s' o.dst x,fun t=>?_,hS'⟩
  ·rcases List.mem_cons.1 hk with rfl | hk
   ·exact hlt
   ·exact hJ.lt k hk
  ·rcases (dV hsz k).1 hk with rfl | h
   ·simp
   ·exact List.mem_cons_of_mem _ (hJ.sub k h)
  ·rcases List.mem_cons.1 hk with rfl | hk
   ·exact List.mem_cons_of_mem _ (hJ.sub q (hpre q hqm))
   ·exact List.mem_cons_of_mem _ (hJ.ecl k hk q hqm)
  ·have hki:k≠i:=fun e=>by
    rw [(dV hsz k).2 (.inl e)] at hk2;simp at hk2
   have hkE:k∈E:=by
    rcases List.mem_cons.1 hk with h | h
    ·exact absurd h hki
    ·exact h
   have hkl:listed.getD k false=false:=by
    cases hb:listed.getD k false
    ·rfl
    ·rw [(dV hsz k).2 (.inr hb)] at hk2;simp at hk2
   have hqk:p.quiet k=true:=by
    cases hb:p.quiet k
    ·rw [hJ.heavy k hkE hb] at hkl;simp at hkl
    ·rfl
   by_cases hqo:dR o.op=true
   ·have hT:=hqT hqo
    subst hT
    rw [aIW (s':=st.s) ?_ ?_]
    ·exact hJ.pend k hkE hkl ok hok
    ·intro t ht
     refine xQ fun e=>?_
     rcases hp.rds i k o ok t ho hok e ht hq hqk with h1 | h1
     ·exact hi (hJ.ecl k hkE i h1)
     ·rw [hpre k h1] at hkl;simp at hkl
    ·cases hdk:ok.dst with
     | none=>rfl
     | some dk =>
      simp only [Option.map_some,Option.some.injEq]
      exact xQ fun e=>hki (hp.dst i k o ok dk ho hok e hdk)
   ·rw [if_neg hqo] at hck
    refine (aIV.1 hck) ok ?_
    simp only [Plan.pend,List.mem_filterMap,List.mem_filter,Bool.and_eq_true,Bool.not_eq_true',List.any_eq_false]
    refine ⟨k,⟨hk,hqk,fun h hm hb=>?_⟩,hok⟩
    simp only [Bool.not_eq_true',Bool.and_eq_true,Bool.not_eq_eq_eq_not,Bool.not_true,List.contains_eq_mem,decide_eq_true_eq] at hb
    rw [hclo h (hheavy h hm hb.1) k hb.2] at hk2
    simp at hk2
  ·by_cases ht:o.dst=some t
   ·simp only [ht,aRw,true_or]
   ·simp only [xQ ht]
    rcases hs t with h | ⟨k,ok,h1,h2,h3,h4⟩
    ·exact .inl h
    ·refine .inr ⟨k,ok,by simp [h1],?_,h3,h4⟩
     cases hb:(listed.setIfInBounds i true).getD k false
     ·rfl
     ·rcases (dV hsz k).1 hb with rfl | h
      ·exact absurd h1 hi
      ·rw [h2] at h;simp at h
 refine aTa hc' hcomp hS ?_
 have hwe:cL s' o.guard=cL st.s o.guard:=vB fun j b e=>hrs j (by simp [rdO,e])
 simp only [hwe]
 cases hwv:cL st.s o.guard with
 | none=>simp [hwv] at hw
 | some b =>
  rw [hwv] at hw
  cases b with
  | false =>
   simp only at hw ⊢
   exact fun a' w' hS'=>fin _ _ a' w' hw.1 (fun _=>rfl) hw.2 hS'
  | true =>
   simp only at hw ⊢
   rw [aMD (s':=st.s) fun t ht=>hrs t (by simp only [rdO,List.mem_append];exact .inl ht)]
   refine xP (fun x T h a' w' hS'=>?_) (aUO hw)
   exact fin x T a' w' h.1.1 h.2 h.1.2 hS'
theorem aPA {gc:Bool} {n:Nat} {c:Bool} {G:Nat->Option (List AV)} {K:St->Prop}:∀ {l:List Nat} {hd:HD},l.foldr (fun i acc=>match acc,p.hops[i]?,aHr p n (gc||c) (i::E) with
    | some t,some o,some x=>some (.alt o (if dR o.op then [] else p.pend (i::E)) x t)
    | _,_,_=>none) (some .no)=some hd->hdW P G hd st K->∀ i∈l,∃ o x,p.hops[i]?=some o/\aHr p n (gc||c) (i::E)=some x/\(match cL st.s o.guard with
  | some true=>opW P G st o.op fun y T=>kK G ⟨st.r,cG st.s o.dst y,T⟩ (if dR o.op then [] else p.pend (i::E))/\hdW P G x ⟨st.r,cG st.s o.dst y,T⟩ K
  | some false=>kK G ⟨st.r,cG st.s o.dst (.v undef),st.T⟩ (if dR o.op then [] else p.pend (i::E))/\hdW P G x ⟨st.r,cG st.s o.dst (.v undef),st.T⟩ K
  | none=>False)
 | [],hd,_,_,i,hi=>by simp at hi
 | j::l,hd,he,hw,i,hi=>by
  simp only [List.foldr_cons] at he
  split at he
  ·rename_i t o x h1 h2 h3
   injection he with he
   subst he
   simp only [hdW] at hw
   rcases List.mem_cons.1 hi with rfl | hi
   ·exact ⟨o,x,h2,h3,hw.1⟩
   ·exact aPA h1 hw.2 i hi
  ·simp at he
theorem wQ {α β:Type} (f:α->β):∀ (l:List α) (j:Nat),(l.map f).eraseIdx j=(l.eraseIdx j).map f
 | [],_=>by simp
 | x::l,0=>by simp
 | x::l,j+1=>by simp [wQ f l j]
theorem aPB {E E':List Nat} (h:∀ x,E.contains x=E'.contains x):p.ready E=p.ready E':=by
 unfold Plan.ready
 refine List.filter_congr fun i _=>?_
 rw [h,show E.contains=E'.contains from funext h]
theorem aRz {E E':List Nat} (h:∀ x,E.contains x=E'.contains x):(p.pend E).isEmpty=(p.pend E').isEmpty:=by
 have hm:∀ x,x∈E↔x∈E':=fun x=>by
  have:=h x
  simp only [List.contains_eq_mem] at this
  exact decide_eq_decide.1 this
 have ha:∀ q,(E.any fun k=>!p.quiet k&&(p.p k).contains q)=(E'.any fun k=>!p.quiet k&&(p.p k).contains q):=fun q=>by
  rw [Bool.eq_iff_iff,List.any_eq_true,List.any_eq_true]
  exact ⟨fun ⟨k,h1,h2⟩=>⟨k,(hm k).1 h1,h2⟩,fun ⟨k,h1,h2⟩=>⟨k,(hm k).2 h1,h2⟩⟩
 have key:∀ {E E':List Nat},(∀ x,x∈E↔x∈E')->(∀ q,(E.any fun k=>!p.quiet k&&(p.p k).contains q)=(E'.any fun k=>!p.quiet k&&(p.p k).contains q))->∀ o,o∈p.pend E->o∈p.pend E':=fun hm ha o ho=>by
  simp only [Plan.pend,List.mem_filterMap,List.mem_filter,ha] at ho ⊢
  obtain ⟨q,⟨h1,h2⟩,h3⟩:=ho
  exact ⟨q,⟨(hm q).1 h1,h2⟩,h3⟩
 rw [Bool.eq_iff_iff,List.isEmpty_iff,List.isEmpty_iff]
 constructor
 ·intro h0
  exact List.eq_nil_iff_forall_not_mem.2 fun o ho=>by
   have:=key (fun x=>(hm x).symm) (fun q=>(ha q).symm) o ho
   rw [h0] at this;simp at this
 ·intro h0
  exact List.eq_nil_iff_forall_not_mem.2 fun o ho=>by
   have:=key hm ha o ho
   rw [h0] at this;simp at this
theorem aME:∀ (n:Nat) (gc:Bool) (E E':List Nat),(∀ x,E.contains x=E'.contains x)->mkQ p n gc E=mkQ p n gc E'
 | 0,_,_,_,_=>rfl
 | n+1,gc,E,E',h=>by
  have hi:∀ i x,(i::E).contains x=(i::E').contains x:=fun i x=>by simp only [List.contains_cons,h]
  simp only [mkQ,aPB h]
  have h1:∀ i,mkQ p n gc (i::E)=mkQ p n gc (i::E'):=fun i=>aME n gc _ _ (hi i)
  have h2:∀ i,(p.pend (i::E)).isEmpty=(p.pend (i::E')).isEmpty:=fun i=>aRz (hi i)
  cases (p.ready E').find? p.quiet with
  | some i=>simp only;rw [h1 i]
  | none =>
   simp only
   rcases p.ready E' with _ | ⟨i,_ | ⟨j,cs⟩⟩
   ·rfl
   ·simp only;rw [h1 i,h2 i]
   ·rfl
theorem aJ1:∀ (n:Nat) (gc:Bool) (E:List Nat) (hd:HD),mkQ p n gc E=some hd->aHr p n gc E=some hd
 | 0,_,_,_,h=>by simp [mkQ] at h
 | n+1,gc,E,hd,h=>by
  simp only [mkQ] at h
  simp only [aHr]
  cases hf:(p.ready E).find? p.quiet with
  | some i =>
   rw [hf] at h
   simp only at h ⊢
   cases ho:p.hops[i]? with
   | none=>rw [ho] at h;simp at h
   | some o =>
    rw [ho] at h
    simp only at h ⊢
    cases hq:mkQ p n gc (i::E) with
    | none=>simp [hq] at h
    | some x=>rw [hq] at h;rw [aJ1 n gc _ _ hq];exact h
  | none =>
   rw [hf] at h
   simp only at h ⊢
   rcases hr:p.ready E with _ | ⟨i,_ | ⟨j,cs⟩⟩
   ·rw [hr] at h;exact h
   ·rw [hr] at h
    simp only at h ⊢
    cases ho:p.hops[i]? with
    | none=>rw [ho] at h;simp at h
    | some o =>
     rw [ho] at h
     simp only at h
     split at h
     ·rename_i hp0
      cases hq:mkQ p n gc (i::E) with
      | none=>simp [hq] at h
      | some x =>
       rw [hq] at h
       have h0:p.pend (i::E)=[]:=List.isEmpty_iff.1 hp0
       have hx:=aJ1 n gc _ _ hq
       simp only [Option.map_some,Option.some.injEq] at h
       subst h
       simp [ho,hx,h0]
     ·simp at h
   ·rw [hr] at h;simp at h
theorem aWn {G:Nat->Option (List AV)} {st:St} {l l':List HOper} (h:∀ o∈l',o∈l) (hc:kK G st l):kK G st l':=aIV.2 fun o ho=>aIV.1 hc o (h o ho)
theorem aJ2 (hp:PlanOk p ops) (hh:∀ (i:Nat) ho,p.hops[i]?=some ho->∃ o,ops[i]?=some o/\(lL P N ops o).map (aCz H)=some ho) {l E0:List Nat} (hl1:∀ i∈l,p.quiet i=false) (hl2:∀ i∈l,∃ o,p.hops[i]?=some o) (hl3:aIU p E0 l=true) (hne:∀ i∈l,i∉E0)
  {K:St->Prop} (hfin:∀ (E:List Nat) (st:St),(∀ x,E.contains x=(l++E0).contains x)->K st->∀ (fuel:Nat) (listed:Array Bool) (a:Act) (w:World),Drawn P G N h0 φ0 T0 w0 p E st listed a w->unl listed p.hops.length<=fuel->wpAnyIn (fe ro) 0 P .any ops Q fuel listed a w) :
  ∀ (n:Nat) (R E:List Nat) (st:St),R.length=n->(∀ i∈R,i∈l)->(∀ i,i∈E↔(i∈l/\i∉R)\/i∈E0)->R.Nodup->aDU P G ((E0.filter p.quiet).filterMap fun q=>p.hops[q]?) n (R.map fun i=>(p.hops[i]?).getD default) st K ->
  ∀ (fuel:Nat) (listed:Array Bool) (a:Act) (w:World),Drawn P G N h0 φ0 T0 w0 p E st listed a w->unl listed p.hops.length<=fuel->wpAnyIn (fe ro) 0 P .any ops Q fuel listed a w
 | 0,R,E,st,hR,hRl,hE,hnd,hw=>by
  have:R=[]:=List.eq_nil_of_length_eq_zero hR
  subst this
  refine hfin E st (fun x=>?_) hw
  rw [Bool.eq_iff_iff]
  simp [hE]
 | n+1,R,E,st,hR,hRl,hE,hnd,hw=>by
  have hrdy:∀ k,k∈p.ready E->k∈R:=fun k hk=>by
   simp only [Plan.ready,List.mem_filter,List.mem_range,Bool.and_eq_true,Bool.not_eq_true',List.contains_eq_mem,decide_eq_false_iff_not,List.all_eq_true,decide_eq_true_eq] at hk
   obtain ⟨hk1,hk2,hk3⟩:=hk
   have h1:=hl3
   simp only [aIU,List.all_eq_true,List.mem_range,Bool.or_eq_true,List.contains_eq_mem,decide_eq_true_eq] at h1
   rcases h1 k hk1 with (h2 | h2) | h2
   ·exact absurd ((hE k).2 (.inr h2)) hk2
   ·apply Classical.byContradiction
    intro h3
    exact hk2 ((hE k).2 (.inl ⟨h2,h3⟩))
   ·cases R with
    | nil=>simp at hR
    | cons r R =>
     have hr:=hRl r List.mem_cons_self
     have h4:=hk3 r (h2 r hr)
     rcases (hE r).1 h4 with h5 | h5
     ·exact absurd List.mem_cons_self h5.2
     ·exact absurd h5 (hne r hr)
  have step:∀ (fuel:Nat),(∀ (listed:Array Bool) (a:Act) (w:World),Drawn P G N h0 φ0 T0 w0 p E st listed a w->unl listed p.hops.length<=fuel->wpAnyIn (fe ro) 0 P .any ops Q fuel listed a w) ->
    ∀ (listed:Array Bool) (a:Act) (w:World),Drawn P G N h0 φ0 T0 w0 p E st listed a w->unl listed p.hops.length<=fuel+1->∀ i∈Region.ready .any ops listed,wpOpIn (fe ro) 0 P ops Q i (wpAnyIn (fe ro) 0 P .any ops Q fuel (listed.setIfInBounds i true)) a w:=by
   intro fuel ih listed a w hJ hf i hi
   obtain ⟨hul,hlt,_,hpre⟩:=nW hp hJ hi
   have hf':unl (listed.setIfInBounds i true) p.hops.length<=fuel:=by
    have:=aI6 (by rw [hJ.size];exact hlt) hul hlt
    omega
   by_cases hiE:i∈E
   ·exact aRx hp hh hJ hi hiE fun a' w' hJ'=>ih _ a' w' hJ' hf'
   ·have hri:i∈p.ready E:=by
     simp only [Plan.ready,List.mem_filter,List.mem_range,Bool.and_eq_true,Bool.not_eq_true',List.contains_eq_mem,decide_eq_false_iff_not,List.all_eq_true,decide_eq_true_eq]
     exact ⟨hlt,hiE,fun q hq=>hJ.sub q (hpre q hq)⟩
    have hiR:=hrdy i hri
    have hil:=hRl i hiR
    obtain ⟨o,ho⟩:=hl2 i hil
    obtain ⟨j,hj,hji⟩:=List.mem_iff_getElem.1 hiR
    have hoj:(R.map fun i=>(p.hops[i]?).getD default)[j]?=some o:=by simp [hj,hji,ho]
    have hwj:=hw j o hoj
    have hmemE:∀ k,k∈R.eraseIdx j↔k∈R/\k≠i:=fun k=>by
     rw [List.mem_eraseIdx_iff_getElem]
     constructor
     ·rintro ⟨q,hq,hqj,rfl⟩
      exact ⟨List.getElem_mem hq,fun e=>hqj ((List.getElem_inj hnd).1 (e.trans hji.symm))⟩
     ·rintro ⟨h1,h2⟩
      obtain ⟨q,hq,rfl⟩:=List.mem_iff_getElem.1 h1
      exact ⟨q,hq,fun e=>h2 (by subst e;exact hji),rfl⟩
    have hpend:∀ q∈p.pend (i::E),q∈(E0.filter p.quiet).filterMap fun q=>p.hops[q]?:=fun q hq=>by
     simp only [Plan.pend,List.mem_filterMap,List.mem_filter,Bool.and_eq_true] at hq ⊢
     obtain ⟨k,⟨hk1,hk2,_⟩,hk3⟩:=hq
     refine ⟨k,⟨?_,hk2⟩,hk3⟩
     rcases List.mem_cons.1 hk1 with rfl | hk1
     ·rw [hl1 k hil] at hk2;simp at hk2
     ·rcases (hE k).1 hk1 with h5 | h5
      ·rw [hl1 k h5.1] at hk2;simp at hk2
      ·exact h5
    have hchk:∀ s,kK G s ((E0.filter p.quiet).filterMap fun q=>p.hops[q]?)->kK G s (if dR o.op then [] else p.pend (i::E)):=fun s hc=>by
     split
     ·trivial
     ·exact aWn hpend hc
    refine aRy hp hh hJ hi hiE (hl1 i hil) ho (K:=fun x T=>aDU P G ((E0.filter p.quiet).filterMap fun q=>p.hops[q]?) n ((R.eraseIdx j).map fun i=>(p.hops[i]?).getD default) ⟨st.r,cG st.s o.dst x,T⟩ K) ?_ ?_
    ·have hmap:(R.map fun i=>(p.hops[i]?).getD default).eraseIdx j=(R.eraseIdx j).map fun i=>(p.hops[i]?).getD default:=wQ _ R j
     rw [hmap] at hwj
     cases hwt:cL st.s o.guard with
     | none=>rw [hwt] at hwj;exact hwj
     | some b =>
      rw [hwt] at hwj
      cases b with
      | true=>exact xP (fun x T ⟨h1,h2⟩=>⟨hchk _ h1,h2⟩) hwj
      | false=>exact ⟨hchk _ hwj.1,hwj.2⟩
    ·intro x T a' w' hk hJ'
     refine aJ2 hp hh hl1 hl2 hl3 hne hfin n (R.eraseIdx j) (i::E) _ (by rw [List.length_eraseIdx_of_lt hj];omega) (fun k hk=>hRl k ((hmemE k).1 hk).1) (fun k=>?_) (hnd.eraseIdx j) hk fuel _ a' w' hJ' hf'
     rw [List.mem_cons,hE,hmemE]
     constructor
     ·rintro (rfl | h | h)
      ·exact .inl ⟨hil,fun h=>h.2 rfl⟩
      ·exact .inl ⟨h.1,fun h2=>h.2 h2.1⟩
      ·exact .inr h
     ·rintro (h | h)
      ·by_cases hki:k=i
       ·exact .inl hki
       ·exact .inr (.inl ⟨h.1,fun h2=>h.2 ⟨h2,hki⟩⟩)
      ·exact .inr (.inr h)
  intro fuel
  induction fuel with
  | zero =>
   intro listed a w hJ hf
   exfalso
   have hall:=aEb (Nat.le_zero.1 hf)
   cases R with
   | nil=>simp at hR
   | cons r R =>
    have hr:=hRl r List.mem_cons_self
    obtain ⟨o,ho⟩:=hl2 r hr
    have h4:=hJ.sub r (hall r (List.getElem?_eq_some_iff.1 ho).1)
    rcases (hE r).1 h4 with h5 | h5
    ·exact absurd List.mem_cons_self h5.2
    ·exact absurd h5 (hne r hr)
  | succ fuel ih =>
   intro listed a w hJ hf
   refine ⟨fun hr=>?_,step fuel (fun l a w=>ih l a w) listed a w hJ hf⟩
   exfalso
   have hall:=aFs hp hJ.size hr
   cases R with
   | nil=>simp at hR
   | cons r R =>
    have hr:=hRl r List.mem_cons_self
    obtain ⟨o,ho⟩:=hl2 r hr
    have h4:=hJ.sub r (hall r (List.getElem?_eq_some_iff.1 ho).1)
    rcases (hE r).1 h4 with h5 | h5
    ·exact absurd List.mem_cons_self h5.2
    ·exact absurd h5 (hne r hr)
theorem zB (hp:PlanOk p ops) (hh:∀ (i:Nat) ho,p.hops[i]?=some ho->∃ o,ops[i]?=some o/\(lL P N ops o).map (aCz H)=some ho) {K:St->Prop}
  (hn:∀ st' a' w',K st'->SInv P G N h0 φ0 T0 w0 st' a' w'->Q .normal a' w'):∀ (n:Nat) (gc:Bool) (E:List Nat) (st:St),pV P G p n gc E st K ->
  ∀ (fuel:Nat) (listed:Array Bool) (a:Act) (w:World),Drawn P G N h0 φ0 T0 w0 p E st listed a w->unl listed p.hops.length<=fuel->wpAnyIn (fe ro) 0 P .any ops Q fuel listed a w
 | 0,gc,E,st,hw=>hw.elim
 | n+1,gc,E,st,hw=>by
  intro fuel listed a w hJ hf
  simp only [pV] at hw
  split at hw
  ·rename_i i hfi
   have hri:=List.mem_of_find?_eq_some hfi
   have hqi:=List.find?_some hfi
   split at hw
   ·rename_i o ho
    split at hw
    ·rename_i hwt
     split at hw
     ·rename_i x T' he
      exact zB hp hh hn n gc (i::E) _ hw fuel listed a w (aI7 hp hJ hri hqi ho (.inl ⟨hwt,T',he⟩)) hf
     ·exact hw.elim
    ·rename_i hwt
     exact zB hp hh hn n gc (i::E) _ hw fuel listed a w (aI7 hp hJ hri hqi ho (.inr ⟨hwt,rfl⟩)) hf
    ·exact hw.elim
   ·exact hw.elim
  ·rename_i hnone
   have hnq:∀ i∈p.ready E,p.quiet i=false:=fun i hi=>by
    have:=List.find?_eq_none.1 hnone i hi
    simpa using this
   have step:∀ (fuel:Nat),(∀ (listed:Array Bool) (a:Act) (w:World),Drawn P G N h0 φ0 T0 w0 p E st listed a w->unl listed p.hops.length<=fuel->wpAnyIn (fe ro) 0 P .any ops Q fuel listed a w) ->
     ∀ (listed:Array Bool) (a:Act) (w:World),Drawn P G N h0 φ0 T0 w0 p E st listed a w->unl listed p.hops.length<=fuel+1->∀ i∈Region.ready .any ops listed,wpOpIn (fe ro) 0 P ops Q i (wpAnyIn (fe ro) 0 P .any ops Q fuel (listed.setIfInBounds i true)) a w:=by
    intro fuel ih listed a w hJ hf i hi
    obtain ⟨hul,hlt,_,hpre⟩:=nW hp hJ hi
    have hf':unl (listed.setIfInBounds i true) p.hops.length<=fuel:=by
     have:=aI6 (by rw [hJ.size];exact hlt) hul hlt
     omega
    by_cases hiE:i∈E
    ·exact aRx hp hh hJ hi hiE fun a' w' hJ'=>ih _ a' w' hJ' hf'
    ·have hri:i∈p.ready E:=by
      simp only [Plan.ready,List.mem_filter,List.mem_range,Bool.and_eq_true,Bool.not_eq_true',List.contains_eq_mem,decide_eq_false_iff_not,List.all_eq_true,decide_eq_true_eq]
      exact ⟨hlt,hiE,fun q hq=>hJ.sub q (hpre q hq)⟩
     split at hw
     ·rename_i he;rw [he] at hri;simp at hri
     ·rename_i c cs he
      rw [he] at hri
      obtain ⟨o,h1,h3⟩:=hw i hri
      exact aRy hp hh hJ hi hiE (hnq i (by rw [he];exact hri)) h1 (K:=fun y T=>pV P G p n (gc||!cs.isEmpty) (i::E) ⟨st.r,cG st.s o.dst y,T⟩ K) h3 fun y T a' w' hk hJ'=>zB hp hh hn n _ (i::E) _ hk fuel _ a' w' hJ' hf'
   have fin:∀ (listed:Array Bool) (a:Act) (w:World),Drawn P G N h0 φ0 T0 w0 p E st listed a w->(∀ i,i<p.hops.length->listed.getD i false=true)->Q .normal a w:=by
    intro listed a w hJ hall
    split at hw
    ·obtain ⟨s',hs,hS⟩:=hJ.inv
     have hS':SInv P G N h0 φ0 T0 w0 st a w:=by
      obtain ⟨hr,_,⟨h,φ,hG,hE,hI,hSl⟩,hsz,hdf⟩:=hS
      refine ⟨hr,hJ.once,⟨h,φ,hG,hE,hI,fun t=>?_⟩,hsz,hdf⟩
      have h1:=hSl t
      rcases hs t with h2 | ⟨k,ok,h2,h3,_⟩
      ·simp only at h1;rw [h2] at h1;exact h1
      ·rw [hall k (hJ.lt k h2)] at h3;simp at h3
     refine hn _ a w hw ?_
     split
     ·exact aB0 _ hS'
     ·exact hS'
    ·rename_i c cs he
     have hc:c∈p.ready E:=by rw [he];simp
     simp only [Plan.ready,List.mem_filter,List.mem_range,Bool.and_eq_true,Bool.not_eq_true',List.contains_eq_mem,decide_eq_false_iff_not] at hc
     exact absurd (hJ.sub c (hall c hc.1)) hc.2.1
   refine (?_:∀ (fuel:Nat) (listed:Array Bool) (a:Act) (w:World),Drawn P G N h0 φ0 T0 w0 p E st listed a w->unl listed p.hops.length<=fuel->wpAnyIn (fe ro) 0 P .any ops Q fuel listed a w) fuel listed a w hJ hf
   clear hf hJ listed a w fuel
   intro fuel listed a w
   induction fuel generalizing listed a w with
   | zero =>
    intro hJ hf
    have hall:=aEb (Nat.le_zero.1 hf)
    refine ⟨?_,fin listed a w hJ hall⟩
    cases hr:Region.ready .any ops listed with
    | nil=>rfl
    | cons i l =>
     obtain ⟨hul,hlt,_,_⟩:=nW hp hJ (i:=i) (by rw [hr];simp)
     rw [hall i hlt] at hul
     simp at hul
   | succ fuel ih =>
    intro hJ hf
    exact ⟨fun hr=>fin listed a w hJ (aFs hp hJ.size hr),step fuel (fun l a w=>ih l a w) listed a w hJ hf⟩
theorem aB2 (hp:PlanOk p ops) (hh:∀ (i:Nat) ho,p.hops[i]?=some ho->∃ o,ops[i]?=some o/\(lL P N ops o).map (aCz H)=some ho) {K:St->Prop}
  (hn:∀ st' a' w',K st'->SInv P G N h0 φ0 T0 w0 st' a' w'->Q .normal a' w'):∀ (n:Nat) (gc:Bool) (E:List Nat) (hd:HD) (st:St),aHr p n gc E=some hd->hdW P G hd st K ->
  ∀ (fuel:Nat) (listed:Array Bool) (a:Act) (w:World),Drawn P G N h0 φ0 T0 w0 p E st listed a w->unl listed p.hops.length<=fuel->wpAnyIn (fe ro) 0 P .any ops Q fuel listed a w
 | 0,gc,E,hd,st,hm,_=>by simp [aHr] at hm
 | n+1,gc,E,hd,st,hm,hw=>by
  intro fuel listed a w hJ hf
  simp only [aHr] at hm
  split at hm
  ·
   rename_i i hfi
   have hri:=List.mem_of_find?_eq_some hfi
   have hqi:=List.find?_some hfi
   split at hm
   ·rename_i o ho
    cases hx:aHr p n gc (i::E) with
    | none=>simp [hx] at hm
    | some hd' =>
     simp only [hx,Option.map_some,Option.some.injEq] at hm
     subst hm
     simp only [hdW] at hw
     split at hw
     ·rename_i hwt
      split at hw
      ·rename_i x T' he
       exact aB2 hp hh hn n gc (i::E) hd' _ hx hw fuel listed a w (aI7 hp hJ hri hqi ho (.inl ⟨hwt,T',he⟩)) hf
      ·exact hw.elim
     ·rename_i hwt
      exact aB2 hp hh hn n gc (i::E) hd' _ hx hw fuel listed a w (aI7 hp hJ hri hqi ho (.inr ⟨hwt,rfl⟩)) hf
     ·exact hw.elim
   ·simp at hm
  ·rename_i hnone
   have hnq:∀ i∈p.ready E,p.quiet i=false:=fun i hi=>by
    have:=List.find?_eq_none.1 hnone i hi
    simpa using this
   by_cases hperm:∃ c cs,p.ready E=c::cs/\(8<=cs.length&&aIU p E (c::cs)&&(mkQ p n true ((c::cs)++E)).isSome)=true
   ·obtain ⟨c,cs,he,hb⟩:=hperm
    rw [he] at hm
    simp only [hb,if_true] at hm
    cases hq:mkQ p n true ((c::cs)++E) with
    | none=>rw [hq] at hm;simp at hm
    | some x =>
     rw [hq] at hm
     simp only [Option.map_some,Option.some.injEq] at hm
     subst hm
     simp only [hdW] at hw
     rw [List.length_map] at hw
     have hb2:aIU p E (c::cs)=true:=by simp only [Bool.and_eq_true] at hb;exact hb.1.2
     have hmem:∀ i∈c::cs,i<p.hops.length/\i∉E:=fun i hi=>by
      rw [<-he] at hi
      simp only [Plan.ready,List.mem_filter,List.mem_range,Bool.and_eq_true,Bool.not_eq_true',List.contains_eq_mem,decide_eq_false_iff_not] at hi
      exact ⟨hi.1,hi.2.1⟩
     have hnd:(c::cs).Nodup:=by rw [<-he];exact List.Pairwise.filter _ List.nodup_range
     exact aJ2 hp hh (l:=c::cs) (E0:=E) (fun i hi=>hnq i (by rw [he];exact hi)) (fun i hi=>⟨_,List.getElem?_eq_getElem (hmem i hi).1⟩) hb2 (fun i hi=>(hmem i hi).2)
      (fun E2 st2 hE2 hk fuel listed a w hJ hf=>aB2 hp hh hn n true E2 x st2 (aJ1 _ _ _ _ ((aME n true E2 _ hE2).trans hq)) hk fuel listed a w hJ hf)
      (c::cs).length (c::cs) E st rfl (fun _ h=>h) (fun i=>⟨fun h=>.inr h,fun h=>h.elim (fun h=>absurd h.1 h.2) id⟩) hnd hw fuel listed a w hJ hf
   by_cases hplan:∃ c cs,p.ready E=c::cs/\(!cs.isEmpty&&12<=((List.range p.hops.length).filter fun k=>!E.contains k&&!p.quiet k).length)=true
   ·obtain ⟨c,cs,he,hb⟩:=hplan
    rw [he] at hm
    simp only at hm
    rw [if_neg (fun h=>hperm ⟨c,cs,he,h⟩),if_pos hb] at hm
    injection hm with hm
    subst hm
    simp only [hdW] at hw
    exact zB hp hh hn n gc E st hw fuel listed a w hJ hf
   replace hm:(match p.ready E with
    | []=>some (.done gc)
    | c::cs=>(c::cs).foldr (fun i acc=>match acc,p.hops[i]?,aHr p n (gc||!cs.isEmpty) (i::E) with
     | some t,some o,some x=>some (.alt o (if dR o.op then [] else p.pend (i::E)) x t)
     | _,_,_=>none) (some .no))=some hd:=by
    cases he:p.ready E with
    | nil=>rw [he] at hm;exact hm
    | cons c cs =>
     rw [he] at hm
     simp only at hm ⊢
     rw [if_neg (fun h=>hperm ⟨c,cs,he,h⟩),if_neg (fun h=>hplan ⟨c,cs,he,h⟩)] at hm
     exact hm
   have step:∀ (fuel:Nat),(∀ (listed:Array Bool) (a:Act) (w:World),Drawn P G N h0 φ0 T0 w0 p E st listed a w->unl listed p.hops.length<=fuel->wpAnyIn (fe ro) 0 P .any ops Q fuel listed a w) ->
     ∀ (listed:Array Bool) (a:Act) (w:World),Drawn P G N h0 φ0 T0 w0 p E st listed a w->unl listed p.hops.length<=fuel+1->∀ i∈Region.ready .any ops listed,wpOpIn (fe ro) 0 P ops Q i (wpAnyIn (fe ro) 0 P .any ops Q fuel (listed.setIfInBounds i true)) a w:=by
    intro fuel ih listed a w hJ hf i hi
    obtain ⟨hul,hlt,_,hpre⟩:=nW hp hJ hi
    have hf':unl (listed.setIfInBounds i true) p.hops.length<=fuel:=by
     have:=aI6 (by rw [hJ.size];exact hlt) hul hlt
     omega
    by_cases hiE:i∈E
    ·exact aRx hp hh hJ hi hiE fun a' w' hJ'=>ih _ a' w' hJ' hf'
    ·have hri:i∈p.ready E:=by
      simp only [Plan.ready,List.mem_filter,List.mem_range,Bool.and_eq_true,Bool.not_eq_true',List.contains_eq_mem,decide_eq_false_iff_not,List.all_eq_true,decide_eq_true_eq]
      exact ⟨hlt,hiE,fun q hq=>hJ.sub q (hpre q hq)⟩
     split at hm
     ·rename_i he;rw [he] at hri;simp at hri
     ·rename_i c cs he
      rw [he] at hri
      obtain ⟨o,x,h1,h2,h3⟩:=aPA hm hw i hri
      exact aRy hp hh hJ hi hiE (hnq i (by rw [he];exact hri)) h1 h3 fun y T a' w' hk hJ'=>aB2 hp hh hn n _ (i::E) x _ h2 hk fuel _ a' w' hJ' hf'
   have fin:∀ (listed:Array Bool) (a:Act) (w:World),Drawn P G N h0 φ0 T0 w0 p E st listed a w->(∀ i,i<p.hops.length->listed.getD i false=true)->Q .normal a w:=by
    intro listed a w hJ hall
    split at hm
    ·injection hm with hm
     subst hm
     simp only [hdW] at hw
     obtain ⟨s',hs,hS⟩:=hJ.inv
     have hS':SInv P G N h0 φ0 T0 w0 st a w:=by
      obtain ⟨hr,_,⟨h,φ,hG,hE,hI,hSl⟩,hsz,hdf⟩:=hS
      refine ⟨hr,hJ.once,⟨h,φ,hG,hE,hI,fun t=>?_⟩,hsz,hdf⟩
      have h1:=hSl t
      rcases hs t with h2 | ⟨k,ok,h2,h3,_⟩
      ·simp only at h1;rw [h2] at h1;exact h1
      ·rw [hall k (hJ.lt k h2)] at h3;simp at h3
     refine hn _ a w hw ?_
     split
     ·exact aB0 _ hS'
     ·exact hS'
    ·rename_i c cs he
     have hc:c∈p.ready E:=by rw [he];simp
     simp only [Plan.ready,List.mem_filter,List.mem_range,Bool.and_eq_true,Bool.not_eq_true',List.contains_eq_mem,decide_eq_false_iff_not] at hc
     exact absurd (hJ.sub c (hall c hc.1)) hc.2.1
   refine (?_:∀ (fuel:Nat) (listed:Array Bool) (a:Act) (w:World),Drawn P G N h0 φ0 T0 w0 p E st listed a w->unl listed p.hops.length<=fuel->wpAnyIn (fe ro) 0 P .any ops Q fuel listed a w) fuel listed a w hJ hf
   clear hf hJ listed a w fuel
   intro fuel listed a w
   induction fuel generalizing listed a w with
   | zero =>
    intro hJ hf
    have hall:=aEb (Nat.le_zero.1 hf)
    refine ⟨?_,fin listed a w hJ hall⟩
    cases hr:Region.ready .any ops listed with
    | nil=>rfl
    | cons i l =>
     obtain ⟨hul,hlt,_,_⟩:=nW hp hJ (i:=i) (by rw [hr];simp)
     rw [hall i hlt] at hul
     simp at hul
   | succ fuel ih =>
    intro hJ hf
    exact ⟨fun hr=>fin listed a w hJ (aFs hp hJ.size hr),step fuel (fun l a w=>ih l a w) listed a w hJ hf⟩
theorem aRA {hd:HD} {K:St->Prop} (hc:aEa P N H ops=some hd) (hw:hdW P G hd st K) (hS:SInv P G N h0 φ0 T0 w0 st a w)
  (hn:∀ st' a' w',K st'->SInv P G N h0 φ0 T0 w0 st' a' w'->Q .normal a' w'):wpAnyIn (fe ro) 0 P .any ops Q ops.size (Array.replicate ops.size false) a w:=by
 unfold aEa at hc
 split at hc
 ·simp at hc
 ·rename_i hl hcl
  simp only at hc
  split at hc
  ·rename_i hok
   simp only [Bool.and_eq_true,beq_iff_eq] at hok
   obtain ⟨hl0,hcl0,hcle⟩:=Option.map_eq_some_iff.1 hcl
   obtain ⟨hlen,hget⟩:=aGr hcl0
   have hp:=aYU hok.2 hok.1
   have hf:∀ i,(Array.replicate ops.size false).getD i false=false:=fun i=>by simp [Array.getD_eq_getD_getElem?,Array.getElem?_replicate];split<;>rfl
   refine aB2 (H:=H) hp (fun i ho hi=>?_) hn _ _ [] hd st hc hw _ _ a w ⟨by simpa using hok.2.symm,by simp,fun i h=>by rw [hf] at h;simp at h,fun i h=>by rw [hf] at h;simp at h,by simp,by simp,by simp,hS.once,st.s,fun t=>.inl rfl,hS⟩ ?_
   ·rw [<-hcle,List.getElem?_map] at hi
    obtain ⟨ho0,hi0,hi1⟩:=Option.map_eq_some_iff.1 hi
    obtain ⟨o,h1,h2⟩:=hget i ho0 hi0
    exact ⟨o,by simpa using h1,by rw [h2,Option.map_some,hi1]⟩
   ·have:∀ m,unl (Array.replicate ops.size false) m=m:=fun m=>by
     induction m with
     | zero=>rfl
     | succ m ih=>simp only [unl,ih,hf];simp
    rw [this]
    exact Nat.le_of_eq hok.2
  ·simp at hc
end
theorem SInv.drawn {P:Program} {G:Nat->Option (List AV)} {N:Nat} {h0:GH} {φ0:Nat->Value} {T0:Tab} {w0:World} {st:St} {a:Act} {w:World} (hS:SInv P G N h0 φ0 T0 w0 st a w) :
  SInv P G N h0 φ0 T0 w0 st a { w with drawn:=w.drawn+1 }:=by
 obtain ⟨hr,honce,⟨h,φ,hG,hE,hI,hSl⟩,hsz,hdf⟩:=hS
 exact ⟨hr,honce,⟨h,φ,hG,⟨hE.os,hE.tape,hE.output,hE.size,hE.frame,hE.le,hE.gfr,hE.phi,hE.org,hE.len,Nat.le_trans hE.drawn (Nat.le_succ _)⟩,⟨hI.gh,hI.obj,hI.dis⟩,hSl⟩,hsz,hdf⟩
end
section
theorem bFp {T:Tab} {i:Nat} {o:AObj} (e:T[i]?=some (some o)):i<T.length:=by
 rcases Nat.lt_or_ge i T.length with hh | hh
 ·exact hh
 ·rw [List.getElem?_eq_none hh] at e;simp at e
theorem aC2 {w:World} {l:Nat} {o:Obj} (e:w.heap[l]?=some o):l<w.heap.size:=by
 rcases Nat.lt_or_ge l w.heap.size with hh | hh
 ·exact hh
 ·rw [Array.getElem?_eq_none hh] at e;simp at e
section
variable {h h' h2:GH} {φ φ' φ2:Nat->Value} {T T' X:Tab} {w w' w3:World} {l:Nat}
theorem aO3 (hI:Inv h φ w T) (hl:∀ i x,T[i]?=some (some x)->blk (φ i)≠some l) (hg:h l=none) (o:Obj):Inv h φ (w.putObj l o) T:=by
 refine ⟨fun b cs e=>?_,fun i x e=>?_,hI.dis⟩
 ·obtain ⟨E,fr,hw⟩:=hI.gh b cs e
  refine ⟨E,fr,?_⟩
  rw [World.putObj_heap_other (fun hb=>by subst hb;rw [hg] at e;simp at e)]
  exact hw
 ·have h1:=hI.obj i x e
  exact nO h1 (GLe.refl h) (Nat.le_refl _) (fun _ _=>rfl) (bFp e) fun g hb=>⟨World.putObj_heap_other fun hgl=>hl i x e (hgl ▸ hb),(eU h1 hb).2⟩
theorem aYV (hE:Evo h φ T w h' φ' T' w') (o:Obj):Evo h φ T (w.putObj l o) h' φ' T' (w'.putObj l o):=by
 refine ⟨hE.os,hE.tape,hE.output,by simpa using hE.size,fun b hb hn=>?_,hE.le,fun b cs e=>?_,hE.phi,fun i o b e hb=>?_,hE.len,hE.drawn⟩
 ·rw [World.putObj_size] at hb
  by_cases hbl:b=l
  ·subst hbl
   rw [World.putObj_heap_same hb,World.putObj_heap_same (Nat.lt_of_lt_of_le hb hE.size)]
  ·rw [World.putObj_heap_other hbl,World.putObj_heap_other hbl]
   exact hE.frame b hb hn
 ·rw [World.putObj_size];exact hE.gfr b cs e
 ·rw [World.putObj_size];exact hE.org i o b e hb
theorem aWo (hI:Inv h φ w T) {i:Nat} {r:Loop} {s:List (Nat×AV)} (hi:bK T i=some (.lp r s)) :
  ∃ l:Nat,φ i=.func (.yield l) #[] #[]/\w.heap[l]?=some (.loop r)/\h l=none/\(∀ i x y,(i,x)∈s->(i,y)∈s->x=y)/\∀ p∈s,Rp h φ T.length p.2 (r.tmps.getD p.1 undef):=hI.obj i _ (aN hi)
theorem aWp (hI:Inv h φ w T) {i:Nat} {r:Loop} {s:List (Nat×AV)} (hi:bK T i=some (.lp r s)) (hφ:φ i=.func (.yield l) #[] #[]):∀ j x,(T.set i none)[j]?=some (some x)->blk (φ j)≠some l:=by
 intro j x e hb
 rcases gU e with ⟨_,e'⟩ | ⟨hne,e'⟩
 ·simp at e'
 ·exact hne (hI.dis j i x _ l e' (aN hi) hb (by rw [hφ];rfl))
theorem aO4 (hI:Inv h φ w T) {i:Nat} {r:Loop} {s:List (Nat×AV)} (hi:bK T i=some (.lp r s)) (hφ:φ i=.func (.yield l) #[] #[]) {o0:Obj}
  (hE:Evo h φ (T.set i none) (w.putObj l o0) h2 φ2 X w3) (hX:Inv h2 φ2 w3 X) (r':Loop) (hr:r'.tmps=r.tmps) :
  Evo h φ T w h2 φ2 (X.set i (some (.lp r' s))) (w3.putObj l (.loop r'))/\Inv h2 φ2 (w3.putObj l (.loop r')) (X.set i (some (.lp r' s))):=by
 obtain ⟨l',e1,e2,e3,e4,e5⟩:=aWo hI hi
 rw [hφ] at e1
 injection e1 with e1 _ _
 injection e1 with e1
 subst e1
 have hlt:l<w.heap.size:=aC2 e2
 have hilt:=aST hi
 have hoff:=aWp hI hi hφ
 have hlen:T.length<=X.length:=by have:=hE.len;rwa [List.length_set] at this
 have hlt3:l<w3.heap.size:=by have:=hE.size;rw [World.putObj_size] at this;omega
 have hφ2:φ2 i=.func (.yield l) #[] #[]:=by rw [hE.phi i (by rw [List.length_set];exact hilt)];exact hφ
 have up:∀ j x b,(T.set i none)[j]?=some (some x)->blk (φ j)=some b->∃ j o,T[j]?=some (some o)/\blk (φ j)=some b:=by
  intro j x b e hb
  rcases gU e with ⟨_,e'⟩ | ⟨_,e'⟩
  ·simp at e'
  ·exact ⟨j,x,e',hb⟩
 have notl:∀ j o,X[j]?=some (some o)->blk (φ2 j)≠some l:=by
  intro j o e hb
  rcases hE.org j o l e hb with h1 | ⟨j',o',h1,h2⟩
  ·rw [World.putObj_size] at h1;omega
  ·exact hoff j' o' h1 h2
 have hgh:h2 l=none:=by
  cases hh:h2 l with
  | none=>rfl
  | some cs =>
   rcases hE.gfr l cs hh with h1 | h1 | ⟨j,o,h1,h2⟩
   ·rw [e3] at h1;simp at h1
   ·rw [World.putObj_size] at h1;omega
   ·exact absurd h2 (hoff j o h1)
 have hX':=aO3 hX notl hgh (.loop r')
 refine ⟨⟨hE.os,hE.tape,hE.output,by have:=hE.size;simpa using this,fun b hb hn=>?_,hE.le,fun b cs e=>?_,fun j hj=>hE.phi j (by rw [List.length_set];exact hj),fun j o b e hb=>?_,by rw [List.length_set];exact hlen,hE.drawn⟩,⟨hX'.gh,fun j o e=>?_,fun j k oj ok b ej ek hbj hbk=>?_⟩⟩
 ·have hbl:b≠l:=fun hbl=>hn i _ (aN hi) (by rw [hφ,hbl];rfl)
  rw [World.putObj_heap_other hbl,hE.frame b (by rw [World.putObj_size];exact hb) fun j o ej hbj=>?_,World.putObj_heap_other hbl]
  obtain ⟨j',o',h1,h2⟩:=up j o b ej hbj
  exact hn j' o' h1 h2
 ·rcases hE.gfr b cs e with h1 | h1 | ⟨j,o,h1,h2⟩
  ·exact .inl h1
  ·rw [World.putObj_size] at h1;exact .inr (.inl h1)
  ·exact .inr (.inr (up j o b h1 h2))
 ·rcases gU e with ⟨rfl,_⟩ | ⟨_,e'⟩
  ·rw [hφ2] at hb
   exact .inr ⟨j,_,aN hi,by rw [hφ];exact hb⟩
  ·rcases hE.org j o b e' hb with h1 | ⟨j',o',h1,h2⟩
   ·rw [World.putObj_size] at h1;exact .inl h1
   ·exact .inr (up j' o' b h1 h2)
 ·rw [List.length_set]
  rcases gU e with ⟨rfl,e'⟩ | ⟨_,e'⟩
  ·injection e' with e'
   subst e'
   refine ⟨l,hφ2,World.putObj_heap_same hlt3,hgh,e4,fun p hp=>?_⟩
   rw [hr]
   exact (e5 p hp).mono hE.le hlen fun j hj=>hE.phi j (by rw [List.length_set];exact hj)
  ·exact hX'.obj j o e'
 ·rcases gU ej with ⟨rfl,_⟩ | ⟨_,ej'⟩<;>rcases gU ek with ⟨rfl,_⟩ | ⟨_,ek'⟩
  ·rfl
  ·rw [hφ2] at hbj
   simp only [blk,Option.some.injEq] at hbj
   subst hbj
   exact absurd hbk (notl k ok ek')
  ·rw [hφ2] at hbk
   simp only [blk,Option.some.injEq] at hbk
   subst hbk
   exact absurd hbj (notl j oj ej')
  ·exact hX.dis j k oj ok b ej' ek' hbj hbk
theorem aJ3 {d:List Nat} {q:Nat×AV}:∀ {s:List (Nat×AV)},q∈aCx d s->q∈s
 | [],h=>by simp [aCx] at h
 | (i,x)::s,h=>by
  simp only [aCx] at h
  split at h
  ·rcases List.mem_cons.1 h with h | h
   ·simp [h]
   ·simp [aJ3 h]
  ·simp [aJ3 h]
theorem aRB {n:Nat} {s:List (Nat×AV)} {t:Array Value} (hs:∀ p∈s,Rp h φ n p.2 (t.getD p.1 undef)):SOk h φ n s ⟨t,[]⟩:=by
 intro i
 rcases aO0 (l:=s) (i:=i) with e | e
 ·rw [e];simp [Rp]
 ·exact hs _ e
theorem aMF {n:Nat}:∀ {ps:List Nat} {xs:List AV} {us:List Value} {s:List (Nat×AV)} {t:Array Value},SOk h φ n s ⟨t,[]⟩->aFn s->RpL h φ n xs us->xs.length=ps.length->(∀ p∈ps,p<t.size) ->
  SOk h φ n (rQ s ps xs) ⟨(ps.zip us).foldl (fun t (p,u)=>t.setIfInBounds p u) t,[]⟩/\aFn (rQ s ps xs)/\((ps.zip us).foldl (fun t (p,u)=>t.setIfInBounds p u) t).size=t.size
 | [],[],us,s,t,hs,ho,hr,_,_=>by simpa [rQ] using ⟨hs,ho⟩
 | [],x::xs,us,s,t,hs,ho,hr,hl,_=>by simp at hl
 | p::ps,[],us,s,t,hs,ho,hr,hl,_=>by simp at hl
 | p::ps,x::xs,us,s,t,hs,ho,hr,hl,hp=>by
  simp only [RpL] at hr
  obtain ⟨u,us',rfl,h1,h2⟩:=hr
  have hs':=aE7 (o:=some p) hs h1 (fun j hj=>by injection hj with hj;subst hj;exact hp p (by simp))
  have:=aMF (t:=t.setIfInBounds p u) (s:=aAQ s p x) hs' (aIQ ho p x) h2 (by simpa using hl) (fun q hq=>by rw [Array.size_setIfInBounds];exact hp q (by simp [hq]))
  simpa only [rQ,List.zip_cons_cons,List.foldl_cons,Array.size_setIfInBounds] using this
end
end
section
def aEc (L:List Nat):List Nat->List Nat
 | []=>L
 | i::r=>if L.contains i then aEc L r else aEc (i::L) r
def aHs (L d:List Nat):List Nat:=L.filter fun i=>!d.contains i
def aO5 (ops:Array Oper):List Oper->List Nat->List Nat->List Nat->List Nat×List Nat×List Nat
 | [],e,w,a=>(e,w,a)
 | o::os,e,w,a =>
  let g:=match o.guard with | some (j,_)=>(match (ops[j]?).bind (·.dst) with | some d=>[d] | none=>[]) | none=>[]
  let rd:=aHs (g++o.op.operands.toList.flatMap aR) w
  match o.dst with
  | some d=>aO5 ops os (aEc e rd) (d::w) (d::a)
  | none=>aO5 ops os (aEc e rd) w a
def atE:List (Nat×List Nat)->Nat->List Nat
 | [],_=>[]
 | (i,x)::r,j=>if i=j then x else atE r j
def lM (ex:List (Nat×List Nat)) (rt:List Nat):Code->List Nat->List Nat
 | .region _ ops _,out=>let u:=aO5 ops ops.toList [] [] [];aEc u.1 (aHs out u.2.1)
 | .seq a b,out=>lM ex rt a (lM ex rt b out)
 | .cond c a b,out=>aEc (aEc (aR c) (lM ex rt a out)) (lM ex rt b out)
 | .block i a,out=>lM ((i,out)::ex) rt a out
 | .loop a,_=>lM ex rt a []
 | .exit i,_=>atE ex i
 | .ret,_=>rt
 | .scope a,out=>lM ex rt a out
 | .rangeFunc g ps a b,out =>
  let ex':=ex.map fun p=>(p.1,([]:List Nat))
  aEc (aEc (aEc (aR g) (aHs (lM ex' [] a (lM ex' [] b [])) ps.toList)) out) (aEc rt (ex.flatMap (·.2)))
 | _,out=>out
def aTd (d:List Nat) (h:HC):HC:=match d with | []=>h | d=>.seq h (.kill d)
def aTe (d:List Nat) (h:HC):HC:=match d with | []=>h | d=>.seq (.kill d) h
def aUP (wr:List Nat):List (Nat×Option Nat×Nat)->HC->HC
 | [],h=>h
 | (j,c,k)::r,h=>aUP wr r (if wr.contains j&&decide (k<1000) then .seq h (match k with | 0=>.shut (c.getD j) | k=>.own j c k) else h)
def bAv (H:List (Nat×Option Nat×Nat)):Option Nat->Option Nat
 | none=>none
 | some d=>match H.find? fun x=>x.1==d&&x.2.2==1000 with
  | some x=>some (x.2.1.getD d)
  | none=>none
def aWq (H:List (Nat×Option Nat×Nat)):List HOper->List HOper->HC
 | acc,[]=>.reg acc
 | acc,o::os=>match bAv H o.dst with
  | some j=>.seq (.seq (.reg (acc++[o])) (.shut j)) (aWq H [] os)
  | none=>aWq H (acc++[o]) os
def bD (P:Program) (N:Nat) (H:List (Nat×Option Nat×Nat)):Code->List (Nat×List Nat)->List Nat->List Nat->Option HC
 | .skip,_,_,_=>some .skip
 | .region id ops dr,ex,rt,out =>
  let u:=aO5 ops ops.toList [] [] []
  let k:=aHs (aEc u.2.2 (lM ex rt (.region id ops dr) out)) out
  if dr then (if P.follows .mixedOrders then (aEa P N H ops).map fun d=>aUP (aHs u.2.2 k) H (aTd k (.regd d)) else none)
  else (dC P N ops ops.toList).map fun l=>aUP (aHs u.2.2 k) H (aTd k (aWq H [] l))
 | .seq a b,ex,rt,out=>match bD P N H a ex rt (lM ex rt b out),bD P N H b ex rt out with
  | some x,some y=>some (.seq x y)
  | _,_=>none
 | .cond c a b,ex,rt,out =>
  let la:=lM ex rt a out
  let lb:=lM ex rt b out
  let all:=aEc (aEc (aR c) la) lb
  match bD P N H a ex rt out,bD P N H b ex rt out with
  | some x,some y=>some (.cond c (aTe (aHs all la) x) (aTe (aHs all lb) y))
  | _,_=>none
 | .block i a,ex,rt,out=>(bD P N H a ((i,out)::ex) rt out).map fun h=>aUP [1000000+i] H (.block i h)
 | .loop a,ex,rt,_=>(bD P N H a ex rt (lM ex rt a [])).map (.loop [])
 | .exit i,_,_,_=>some (.exit i)
 | .ret,_,_,_=>some .ret
 | .scope a,ex,rt,out=>bD P N H a ex rt out
 | .label _,_,_,_=>some .skip
 | .rangeFunc g ps a b,ex,_,_ =>
  let ex':=ex.map fun p=>(p.1,([]:List Nat))
  match bD P N H a ex' [] (lM ex' [] b []),bD P N H b ex' [] [] with
  | some x,some y=>if ps.toList.all (· < N) then some (.rng g ps.toList (aHs (lM ex' [] a (lM ex' [] b [])) ps.toList) x y) else none
  | _,_=>none
 | _,_,_,_=>none
structure HFun where
 nt:Nat
 res:List (Nat×Option (Option Nat))
 code:HC
 deriving Inhabited
def aJ4 (P:Program):List ResultVar->Option (List (Nat×Option (Option Nat)))
 | []=>some []
 | .tmp t::r=>(aJ4 P r).map ((t,none)::·)
 | .cell a t::r=>match aCi P t with
  | some n=>(aJ4 P r).map ((a,some n)::·)
  | none=>none
def aB (P:Program) (f:FuncId) (H:List (Nat×Option Nat×Nat)):Option HFun :=
  match P.funcs[f]? with
  | none=>none
  | some fn=>if fn.name == "runtime.NumGoroutine" then none else match fn.body,aJ4 P fn.results.toList with
    | some c,some rs=>let rt:=rs.map (·.1)
      (bD P fn.ntmps H c [] rt rt).map fun h=>⟨fn.ntmps,rs,aTe (aHs (List.range (fn.params.size+fn.nfree)) (lM [] rt c rt)) h⟩
    | _,_=>none
section
variable {P:Program} {G:Nat->Option (List AV)} {N:Nat} {H:List (Nat×Option Nat×Nat)} {h0:GH} {φ0:Nat->Value} {T0:Tab} {w0:World} {a:Act} {w:World}
def exQ (Q:Ex->St->Prop):Exit->St->Prop
 | .normal,s=>Q .normal s
 | .exit i,s=>Q (.exit i) s
 | .ret,s=>Q .ret s
 | _,_=>False
theorem aPC {p:Nat->Prop} (h:∃ n,p n):∃ n,p n/\∀ m,m<n->¬p m:=by
 obtain ⟨n,hn⟩:=h
 induction n using Nat.strongRecOn with
 | _ n ih =>
  by_cases hx:∃ m,m<n/\p m
  ·obtain ⟨m,hm,hp⟩:=hx;exact ih m hm hp
  ·exact ⟨n,hn,fun m hm hp=>hx ⟨m,hm,hp⟩⟩
theorem SInv.kill {st:St} (hS:SInv P G N h0 φ0 T0 w0 st a w) (d:List Nat):SInv P G N h0 φ0 T0 w0 ⟨st.r,hZ d st.s,st.T⟩ a w:=by
 obtain ⟨hr,honce,⟨h,φ,hG,hE,hI,hSl⟩,hsz,hdf⟩:=hS
 have ho:aFn (hZ d st.s):=fun i x y hx hy=>honce i x y (aE4 hx) (aE4 hy)
 refine ⟨hr,ho,⟨h,φ,hG,hE,hI,fun i=>?_⟩,hsz,hdf⟩
 show Rp h φ st.T.length (aK (hZ d st.s) i) _
 rcases aO0 (l:=hZ d st.s) (i:=i) with e | e
 ·rw [e];simp [Rp]
 ·rw [<-aIP honce (aE4 e)];exact hSl i
theorem aUQ {d:List Nat} {c:HC} {Q:Ex->St->Prop} {st:St} (h:cF P G (aTd d c) Q st):∃ R:Ex->St->Prop,cF P G c R st/\∀ s,R .normal s->Q .normal s\/Q .normal ⟨s.r,hZ d s.s,s.T⟩:=by
 cases d with
 | nil=>exact ⟨Q,h,fun s hs=>.inl hs⟩
 | cons i d=>exact ⟨_,h,fun s hs=>.inr hs⟩
theorem aFt {ro:Option Nat} {ops:Array Oper} {Q:Exit->Act->World->Prop} {K:Ex->St->Prop}:∀ {os acc:List HOper} {l1 l2:List Oper} {st:St} {a:Act} {w:World},dC P N ops l1=some acc->dC P N ops l2=some os->cF P G (aWq H acc os) K st->SInv P G N h0 φ0 T0 w0 st a w ->
  (∀ st' a' w',K .normal st'->SInv P G N h0 φ0 T0 w0 st' a' w'->Q .normal a' w')->wpListIn (fe ro) 0 P ops Q (l1++l2) a w
 | [],acc,l1,[],st,a,w,h1,h2,hw,hS,hn=>by rw [List.append_nil];exact aUN h1 hw hS hn
 | [],acc,l1,o::l2,st,a,w,h1,h2,hw,hS,hn=>by obtain ⟨x,y,_,_,e⟩:=aE9 h2;simp at e
 | o::os,acc,l1,[],st,a,w,h1,h2,hw,hS,hn=>by simp [dC] at h2
 | o::os,acc,l1,o'::l2,st,a,w,h1,h2,hw,hS,hn=>by
  obtain ⟨x,y,e1,e2,e⟩:=aE9 h2
  injection e with ea eb
  subst ea;subst eb
  have h3:dC P N ops (l1++[o'])=some (acc++[o]):=aGq h1 (by simp [dC,e1])
  have h4:l1++o'::l2=(l1++[o'])++l2:=by simp
  rw [h4]
  simp only [aWq] at hw
  split at hw
  ·rename_i j hj
   simp only [cF] at hw
   exact yZ h3 hw hS fun st' a' w' hk hS'=>by
    have:=aFt (ro:=ro) (l1:=[]) (acc:=[]) rfl e2 hk (hS'.shut j) hn
    simpa using this
  ·exact aFt (ro:=ro) h3 e2 hw hS hn
theorem aRC {d:List Nat} {l:HD} {Q:Ex->St->Prop} {st:St} (h:cF P G (aTd d (.regd l)) Q st) :
  ∃ K:St->Prop,hdW P G l st K/\∀ s,K s->Q .normal s\/Q .normal ⟨s.r,hZ d s.s,s.T⟩:=by
 cases d with
 | nil=>exact ⟨Q .normal,h,fun s hs=>.inl hs⟩
 | cons i d=>exact ⟨_,h,fun s hs=>.inr hs⟩
theorem aO6 {d:List Nat} {c:HC} {Q:Ex->St->Prop} {st:St} (h:cF P G (aTe d c) Q st):cF P G c Q st\/cF P G c Q ⟨st.r,hZ d st.s,st.T⟩:=by
 cases d with
 | nil=>exact .inl h
 | cons i d=>exact .inr h
theorem SInv.own {st:St} (hS:SInv P G N h0 φ0 T0 w0 st a w) (j:Nat) (c:Option Nat) (k:Nat):SInv P G N h0 φ0 T0 w0 (aIs st j c k) a w:=by
 have key:∀ {h:GH} {φ:Nat->Value},Inv h φ w st.T->Evo h0 φ0 T0 w0 h φ st.T w ->
   Inv h (upd φ st.T.length (.slice none 0 0)) w (st.T++[some (.arr k [])])/\Evo h0 φ0 T0 w0 h (upd φ st.T.length (.slice none 0 0)) (st.T++[some (.arr k [])]) w:=by
  intro h φ hI hE
  have:=nI (w':=w) (o:=.arr k []) (v:=.slice none 0 0) hI rfl rfl rfl (Nat.le_refl _) (fun _ _=>rfl) (fun g hg=>by simp [blk] at hg) ⟨by simp,.inl ⟨none,aO,rfl⟩⟩
  exact ⟨this.1,hE.trans this.2⟩
 cases c with
 | none =>
  simp only [aIs]
  split
  ·rename_i hj
   obtain ⟨hr,honce,⟨h,φ,hG,hE,hI,hSl⟩,hsz,hdf⟩:=hS
   obtain ⟨k1,k2⟩:=key hI hE
   have hjv:=hSl j
   rw [hj] at hjv
   simp only [Rp] at hjv
   refine ⟨hr,aIQ honce _ _,⟨h,_,hG,k2,k1,fun i=>?_⟩,hsz,hdf⟩
   rw [aE3]
   split
   ·rename_i e
    subst e
    simp only [Rp]
    exact ⟨by simp,by rw [hjv,aO],none,0,0,hjv⟩
   ·exact (hSl i).mono (GLe.refl h) (by simp) (fun i hi=>dE hi)
  ·exact hS
 | some c =>
  simp only [aIs]
  split
  ·rename_i i o hj
   split
   ·rename_i cs hg
    split
    ·rename_i hc
     obtain ⟨hr,honce,⟨h,φ,hG,hE,hI,hSl⟩,hsz,hdf⟩:=hS
     obtain ⟨k1,k2⟩:=key hI hE
     have hgt:=aN hg
     have hlt:i<st.T.length:=by
      rcases Nat.lt_or_ge i st.T.length with hh | hh
      ·exact hh
      ·rw [List.getElem?_eq_none hh] at hgt;simp at hgt
     have hgt':(st.T++[some (.arr k [])])[i]?=some (some (.box cs)):=by rw [List.getElem?_append_left hlt];exact hgt
     obtain ⟨g,us,E,e1,e2,e3,e4⟩:=k1.obj i _ hgt'
     have hset:=aBY (w':=w) (o':=.box (cs.set c (.own st.T.length))) k1 rfl rfl rfl (Nat.le_refl _) hgt' (fun _ _ _=>rfl) (by
      refine ⟨g,us,E,e1,e2,e3,?_⟩
      obtain ⟨u,hu1,hu2⟩:=e4.get hc
      simp only [Rp] at hu2
      have:=e4.set (m:=c) (c:=.own st.T.length) (u:=u) (by
       simp only [Rp]
       exact ⟨by simp,by rw [hu2,aO],none,0,0,hu2⟩)
      rwa [show us.toList.set c u=us.toList from by
       apply List.ext_getElem?
       intro m
       rw [List.getElem?_set]
       split
       ·rename_i e;subst e;split
        ·exact hu1.symm
        ·rename_i hh;rw [List.getElem?_eq_none (by omega)]
       ·rfl] at this)
     refine ⟨hr,honce,⟨h,_,hG,k2.trans hset.2,hset.1,fun i=>?_⟩,hsz,hdf⟩
     exact (hSl i).mono (GLe.refl h) (by simp) (fun i hi=>dE hi)
    ·exact hS
   ·exact hS
  ·exact hS
theorem aO7 {wr:List Nat}:∀ {H:List (Nat×Option Nat×Nat)} {c:HC} {Q:Ex->St->Prop} {st:St},cF P G (aUP wr H c) Q st->∃ R:Ex->St->Prop,cF P G c R st /\
  (∀ s,R .normal s->∀ (a:Act) (w:World),SInv P G N h0 φ0 T0 w0 s a w->∃ s',Q .normal s'/\SInv P G N h0 φ0 T0 w0 s' a w)/\(∀ i s,R (.exit i) s->Q (.exit i) s)/\(∀ s,R .ret s->Q .ret s)
 | [],c,Q,st,h=>⟨Q,h,fun s hs a w hS=>⟨s,hs,hS⟩,fun _ _ h=>h,fun _ h=>h⟩
 | (j,d,k)::r,c,Q,st,h=>by
  simp only [aUP] at h
  obtain ⟨R,h1,h2,h3,h4⟩:=aO7 h
  split at h1
  ·cases k with
   | zero =>
    simp only [cF] at h1
    exact ⟨_,h1,fun s hs a w hS=>h2 _ hs a w (hS.shut _),fun i s hs=>h3 i s hs,fun s hs=>h4 s hs⟩
   | succ k =>
    simp only [cF] at h1
    exact ⟨_,h1,fun s hs a w hS=>h2 _ hs a w (hS.own j d (k+1)),fun i s hs=>h3 i s hs,fun s hs=>h4 s hs⟩
  ·exact ⟨R,h1,h2,h3,h4⟩
theorem mB {b:Frame} {x:Code} {k:List Item} {cs:List Frame}:step P (lone (b.atR a (.code (.scope x)::k)) cs w)=.next (lone (b.atR a (.code x::.inScope x::k)) cs w) :=
 step_lone_go (by simp [stepG,stepG.exec,Frame.atR])
theorem aJ5 {b:Frame} {x:Code} {k:List Item} {cs:List Frame}:step P (lone (b.atR a (.inScope x::k)) cs w)=.next (lone (b.atR a k) cs w) :=
 step_lone_go (by simp [stepG,stepG.exec,Frame.atR])
theorem aPD {F:Fence} {n:Nat} {c:Code} {Q:Exit->Act->World->Prop} (h:c.wpIn F n P Q a w) (hg:∀ l a w,¬Q (.goto l) a w):(Code.scope c).wpIn F n P Q a w:=by
 intro b k cs hro hb hr
 have h0:(lone (b.atR a (.code (.scope c)::k)) cs w).fenced P F:=fenced_calm hb hr rfl
 obtain ⟨e,a₁,w₁,hq,harr⟩:=h b (.inScope c::k) cs hro hb hr
 cases e with
 | normal=>exact ⟨.normal,a₁,w₁,hq,.head h0 mB (StepsIn.trans harr (.one (fenced_calm hb hr rfl) aJ5))⟩
 | exit id =>
  have hx:exitTo id (.inScope c::k)=exitTo id k:=by simp [exitTo]
  exact ⟨.exit id,a₁,w₁,hq,fun k' hk=>.head h0 mB (harr.1 k' (by rw [hx];exact hk)),
   fun hr' hk=>let ⟨k₁,h1,h2⟩:=harr.2 hr' (by rw [hx];exact hk);⟨k₁,h1,.head h0 mB h2⟩⟩
 | goto l=>exact absurd hq (hg l a₁ w₁)
 | ret=>exact ⟨_,a₁,w₁,hq,.of_steps (.one h0 mB) harr⟩
 | panic ch=>exact ⟨_,a₁,w₁,hq,.of_steps (.one h0 mB) harr⟩
 | outgrown=>exact ⟨_,a₁,w₁,hq,.of_steps (b:=b) (k:=k) (cs:=cs) (e:=.outgrown) (.one h0 mB) harr⟩
def aYW (ro:Option Nat) (φ0:Nat->Value) (T0:Tab) (w0:World):Prop:=∀ l,ro=some l->(∃ r,w0.heap[l]?=some (.loop r))/\∀ i o,T0[i]?=some (some o)->blk (φ0 i)≠some l
def aFu (P:Program) (G:Nat->Option (List AV)) (N:Nat) (H:List (Nat×Option Nat×Nat)) (c:Code):Prop :=
 ∀ {ro:Option Nat} {h0:GH} {φ0:Nat->Value} {T0:Tab} {w0:World} {hc:HC} {Q:Ex->St->Prop} {st:St} {a:Act} {w:World} {ex:List (Nat×List Nat)} {rt out:List Nat},aYW ro φ0 T0 w0->bD P N H c ex rt out=some hc->cF P G hc Q st->SInv P G N h0 φ0 T0 w0 st a w ->
  c.wpIn (fe ro) 0 P (fun e a' w'=>∃ st',exQ Q e st'/\SInv P G N h0 φ0 T0 w0 st' a' w') a w
theorem aPE {ca cb:Code} (iha:aFu P G N H ca) (ihb:aFu P G N H cb) {ha hb:HC} {ps:List Nat} {exs:List (Nat×List Nat)} {ra oa rb ob:List Nat} (ea:bD P N H ca exs ra oa=some ha) (eb:bD P N H cb exs rb ob=some hb)
  (hps:∀ p∈ps,p<N) {r:Loop} (r1:r.state=.ready) (r2:r.pending=none) (r3:r.params.toList=ps) (r4:r.assign=ca) (r5:r.body=cb) (r6:N<=r.tmps.size)
  (i:Nat) (s:List (Nat×AV)) (T:Tab) (args:List AV) (post:AV->Tab->Prop) (hi:bK T i=some (.lp r s)) (hl:args.length=ps.length)
  (hw:cF P G ha (fun e s1=>match e with | .normal=>cF P G hb (aFi i r s T.length post) s1 | _=>False) ⟨T.length,rQ s ps args,T.set i none⟩):yR P G i args T post:=by
 intro h φ W vals l hG hI hA hφ
 obtain ⟨l',e1,e2,e3,e4,e5⟩:=aWo hI hi
 rw [hφ] at e1
 injection e1 with e1 _ _
 injection e1 with e1
 subst e1
 have hlt:=aC2 e2
 have hAl:=hA.length
 have hpsz:r.params.size=ps.length:=by rw [<-r3,Array.length_toList]
 have hoff:=aWp hI hi hφ
 have hilt:=aST hi
 refine ⟨_,_,_,_,run_yield e2 (by rw [hpsz,<-hl,hAl,Array.length_toList]),?_⟩
 obtain ⟨p1,p2,p3⟩:=aMF (h:=h) (φ:=φ) (n:=T.length) (ps:=ps) (xs:=args) (us:=vals.toList) (s:=s) (t:=r.tmps) (aRB e5) e4 hA hl (fun p hp=>Nat.lt_of_lt_of_le (hps p hp) r6)
 have hfold:(r.params.zip vals).foldl (fun tmps (x:Tmp×Value)=>tmps.setIfInBounds x.1 x.2) r.tmps=(ps.zip vals.toList).foldl (fun t (p,u)=>t.setIfInBounds p u) r.tmps:=by
  rw [<-Array.foldl_toList,Array.toList_zip,r3]
 rw [hfold]
 revert p1 p2 p3
 generalize (ps.zip vals.toList).foldl (fun t (p,u)=>t.setIfInBounds p u) r.tmps=tm
 intro p1 p2 p3
 obtain ⟨d1,d2⟩:=qT hI i
 have hS0:SInv P G N h φ (T.set i none) W ⟨T.length,rQ s ps args,T.set i none⟩ ⟨tm,[]⟩ W :=
  ⟨by simp,p2,⟨h,φ,hG,Evo.refl,d1,by simpa using p1⟩,by rw [p3];exact r6,by simp [aCk]⟩
 have hro:aYW (some l) φ (T.set i none) W:=by
  intro l2 h2
  injection h2 with h2
  subst h2
  exact ⟨⟨r,e2⟩,hoff⟩
 rw [r4,r5]
 refine roundIn_of_wpIn (F:=Fence.wide) trivial (wpIn_mono (iha (ro:=some l) hro ea hw hS0) ?_)
 rintro e a1 w1 ⟨st1,hq,hS1⟩
 cases e with
 | normal =>
  simp only [exQ] at hq
  have hl1:w1.heap[l]?=some (.loop r):=by
   obtain ⟨_,_,⟨_,_,_,hE,_,_⟩,_,_⟩:=hS1
   rw [hE.frame l hlt hoff]
   exact e2
  refine ⟨_,run_beginRound hl1 r1,?_⟩
  let rb:Loop:={ r with state:=.busy }
  have hS2:SInv P G N h φ (T.set i none) (W.putObj l (.loop rb)) st1 a1 (w1.putObj l (.loop rb)):=by
   obtain ⟨q1,q2,⟨h1,φ1,q3,q4,q5,q6⟩,q7,q8⟩:=hS1
   have notl:∀ j o,st1.T[j]?=some (some o)->blk (φ1 j)≠some l:=by
    intro j o e hb
    rcases q4.org j o l e hb with h1 | ⟨j',o',h1,h2⟩
    ·omega
    ·exact hoff j' o' h1 h2
   have hgh:h1 l=none:=by
    cases hh:h1 l with
    | none=>rfl
    | some cs =>
     rcases q4.gfr l cs hh with h1 | h1 | ⟨j,o,h1,h2⟩
     ·rw [e3] at h1;simp at h1
     ·omega
     ·exact absurd h2 (hoff j o h1)
   refine ⟨q1,q2,⟨h1,φ1,q3,aYV q4 _,aO3 q5 notl hgh _,q6⟩,q7,q8.1,fun d hd=>?_⟩
   obtain ⟨D,f1,f2,f3⟩:=q8.2 d hd
   refine ⟨D,f1,by simpa using f2,?_⟩
   rw [World.putObj_heap_other (fun hD=>by subst hD;rw [hl1] at f3;simp at f3)]
   exact f3
  have hro2:aYW (some l) φ (T.set i none) (W.putObj l (.loop rb)):=by
   intro l2 h2
   injection h2 with h2
   subst h2
   exact ⟨⟨rb,World.putObj_heap_same hlt⟩,hoff⟩
  refine wpIn_mono (ihb (ro:=some l) hro2 eb hq hS2) ?_
  rintro e a3 w3 ⟨st3,hq3,hS3⟩
  have hl3:w3.heap[l]?=some (.loop rb):=by
   obtain ⟨_,_,⟨_,_,_,hE,_,_⟩,_,_⟩:=hS3
   rw [hE.frame l (by rw [World.putObj_size];exact hlt) hoff]
   exact World.putObj_heap_same hlt
  have hX:∀ gc:Bool,∃ h2 φ2,Evo h φ (T.set i none) (W.putObj l (.loop rb)) h2 φ2 (if gc then (gcs [] ⟨T.length,[],st3.T⟩).T else st3.T) w3/\Inv h2 φ2 w3 (if gc then (gcs [] ⟨T.length,[],st3.T⟩).T else st3.T):=by
   intro gc
   obtain ⟨q1,q2,⟨h1,φ1,q3,q4,q5,q6⟩,q7,q8⟩:=hS3
   cases gc with
   | false=>exact ⟨h1,φ1,q4,q5⟩
   | true =>
    have hS4:SInv P G 0 h φ (T.set i none) (W.putObj l (.loop rb)) ⟨T.length,[],st3.T⟩ ⟨#[],[]⟩ w3:=⟨by simp,fun _ _ _ hx=>by simp at hx,⟨h1,φ1,q3,q4,q5,fun _=>by simp [aK,Rp]⟩,Nat.zero_le _,by simp [aCk]⟩
    obtain ⟨_,_,⟨h4,φ4,_,g1,g2,_⟩,_,_⟩:=aB0 (st:=⟨T.length,[],st3.T⟩) [] hS4
    exact ⟨h4,φ4,g1,g2⟩
  cases e with
  | normal =>
   simp only [exQ,aFi] at hq3
   obtain ⟨gc,hq3⟩:=hq3
   obtain ⟨h2,φ2,x1,x2⟩:=hX gc
   have hrun:=run_endRound (P:=P) none hl3
   have hr':({ rb with state:=if (none:Option Code).isNone then .ready else .done,pending:=none }:Loop)=r:=by
    cases r;simp_all [rb]
   rw [hr'] at hrun
   refine ⟨_,_,hrun,_,rfl,_,_,h2,φ2,hq3,?_⟩
   obtain ⟨y1,y2⟩:=aO4 hI hi hφ x1 x2 r rfl
   exact ⟨y1,y2,by simp [Rp]⟩
  | exit id =>
   simp only [exQ,aFi] at hq3
   obtain ⟨gc,hq3⟩:=hq3
   obtain ⟨h2,φ2,x1,x2⟩:=hX gc
   have hrun:=run_endRound (P:=P) (some (.exit id)) hl3
   refine ⟨_,_,hrun,_,rfl,_,_,h2,φ2,hq3,?_⟩
   obtain ⟨y1,y2⟩:=aO4 hI hi hφ x1 x2 (left r (.exit id)) rfl
   exact ⟨y1,y2,by simp [Rp]⟩
  | ret =>
   simp only [exQ,aFi] at hq3
   obtain ⟨gc,hq3⟩:=hq3
   obtain ⟨h2,φ2,x1,x2⟩:=hX gc
   have hrun:=run_endRound (P:=P) (some .ret) hl3
   refine ⟨_,_,hrun,_,rfl,_,_,h2,φ2,hq3,?_⟩
   obtain ⟨y1,y2⟩:=aO4 hI hi hφ x1 x2 (left r .ret) rfl
   exact ⟨y1,y2,by simp [Rp]⟩
  | _=>exact hq3.elim
 | exit id=>exact hq.elim
 | goto id=>exact hq.elim
 | ret=>exact hq.elim
 | panic id=>exact hq.elim
 | outgrown=>exact hq.elim
theorem aEd {f:FuncId} (hb:aNQ P f) (vals:Array Value) (w:World):(callFunc f vals).run P w=.ok (.enter f vals) w:=by
 obtain ⟨fn,c,h1,h2,h3⟩:=hb
 simp [callFunc,h1,h3,h2]
theorem aPF {ca cb:Code} (iha:aFu P G N H ca) (ihb:aFu P G N H cb) {g:Operand} {params:Array Tmp}:aFu P G N H (.rangeFunc g params ca cb):=by
 intro ro h0 φ0 T0 w0 hc Q st a w exs rt out hroo e hw hS
 simp only [bD] at e
 split at e
 ·rename_i ha hb ea eb
  split at e
  ·rename_i hall
   injection e with e
   subst e
   simp only [cF] at hw
   have hps:∀ p∈params.toList,p<N:=fun p hp=>by simpa using List.all_eq_true.1 hall p hp
   obtain ⟨hr,honce,⟨h,φ,hG,hE,hI,hSl⟩,hsz,hdf⟩:=hS
   refine wpIn_rangeFunc ?_
   intro fn _
   rw [aPx]
   have hent:∃ (l:Nat) (mark:List Deferred) (w1:World) (df:Nat),(Instr.enterLoop fn a.tmps params ca cb ro).run P w=.ok (l,mark) w1/\w.heap.size<=l/\w1.os=w.os/\w1.tape=w.tape/\w1.output=w.output/\w1.drawn=w.drawn/\w.heap.size<=w1.heap.size /\
     (∀ b,b<w.heap.size->w1.heap[b]?=w.heap[b]?)/\w1.heap[l]?=some (.loop { state:=.ready,pending:=none,fn,tmps:=a.tmps,params,assign:=ca,body:=cb,defers:=df }) /\
     (mark=[]\/∃ D,mark=[{ target:=.collected D,args:=#[] }]/\w.heap.size<=D/\w1.heap[D]?=some (.deferred (some []))):=by
    cases ro with
    | none =>
     refine ⟨_,_,_,w.heap.size,run_enterLoop_outer fn a.tmps params ca cb,by omega,rfl,rfl,rfl,rfl,by simp only [World.size_alloc];omega,fun b hb=>?_,?_,.inr ⟨_,rfl,Nat.le_refl _,?_⟩⟩
     ·rw [gF _ _ b (by simp;omega),gF _ _ b hb]
     ·have:=World.alloc_heap_new (w.alloc (.deferred (some []))) (.loop { state:=.ready,pending:=none,fn,tmps:=a.tmps,params,assign:=ca,body:=cb,defers:=w.heap.size });rwa [World.size_alloc] at this
     ·rw [gF _ _ _ (by simp)];exact World.alloc_heap_new w _
    | some l0 =>
     obtain ⟨⟨r0,e0⟩,hoff0⟩:=hroo l0 rfl
     have hl0:w.heap[l0]?=some (.loop r0):=by
      rw [hE.frame l0 (aC2 e0) hoff0];exact e0
     refine ⟨w.heap.size,[],w.alloc (.loop { state:=.ready,pending:=none,fn,tmps:=a.tmps,params,assign:=ca,body:=cb,defers:=r0.defers }),r0.defers,?_,Nat.le_refl _,rfl,rfl,rfl,rfl,by simp,fun b hb=>gF _ _ b hb,World.alloc_heap_new w _,.inl rfl⟩
     unfold Instr.enterLoop
     simp only [Sem.run_bind,run_getLoop hl0,Result.andThen_ok,Sem.run_pure,run_newObj_alloc]
   obtain ⟨l,mark,w1,df,n1,n2,n3,n4,n5,n6,n7,n8,n9,n10⟩:=hent
   revert n1 n9
   generalize hrec:({ state:=.ready,pending:=none,fn,tmps:=a.tmps,params,assign:=ca,body:=cb,defers:=df }:Loop)=r
   intro n1 n9
   have r1:r.state=.ready:=by rw [<-hrec]
   have r2:r.pending=none:=by rw [<-hrec]
   have r3:r.params=params:=by rw [<-hrec]
   have r4:r.assign=ca:=by rw [<-hrec]
   have r5:r.body=cb:=by rw [<-hrec]
   have r6:r.tmps=a.tmps:=by rw [<-hrec]
   have hw:=hw r r1 r2 (by rw [r3,Array.length_toList]) (fun i s T args post hi hl hcw=>aPE iha ihb ea eb hps r1 r2 (by rw [r3]) r4 r5 (by rw [r6];exact hsz) i s T args post hi hl hcw)
   split at hw
   ·rename_i f caps hev
    obtain ⟨hgb,hw⟩:=hw
    have hf:=bP hG hSl g
    rw [hev] at hf
    simp only [Rp] at hf
    obtain ⟨us,hu,hcs⟩:=hf
    have hk:∀ q∈aCx (aHs (lM (exs.map fun p=>(p.1,([]:List Nat))) [] ca (lM (exs.map fun p=>(p.1,([]:List Nat))) [] cb [])) params.toList) st.s,q∈st.s:=fun q hq=>aJ3 hq
    revert hk hw
    generalize aCx (aHs (lM (exs.map fun p=>(p.1,([]:List Nat))) [] ca (lM (exs.map fun p=>(p.1,([]:List Nat))) [] cb [])) params.toList) st.s=s0
    intro hw hk
    obtain ⟨i1,i2⟩:=nI (w':=w1) (o:=AObj.lp r s0) (v:=Value.func (.yield l) #[] #[]) hI n3 n4 n5 n7 n8 (fun g' hg'=>by simp only [blk,Option.some.injEq] at hg';omega)
     ⟨l,aO,n9,by
      cases hh:h l with
      | none=>rfl
      | some cs=>have:=tI hI hh;omega,fun j x y hx hy=>honce j x y (hk _ hx) (hk _ hy),fun p hp=>by
      rw [r6,<-aIP honce (show (p.1,p.2)∈st.s from hk p hp)]
      exact (hSl p.1).mono (GLe.refl h) (by omega) fun i hi=>dE hi⟩ (by rw [n6];exact Nat.le_refl _)
    have hargs:RpL h (upd φ st.T.length (Value.func (.yield l) #[] #[])) (st.T++[some (AObj.lp r s0)]).length (.yl st.T.length::caps) (#[Value.func (.yield l) #[] #[]]++us).toList:=by
     simp only [Array.toList_append,List.cons_append,List.nil_append,RpL]
     refine ⟨_,_,rfl,?_,hcs.mono (GLe.refl h) (by simp) fun i hi=>dE hi⟩
     simp only [Rp]
     exact ⟨by simp,aO.symm,l,rfl⟩
    refine ⟨l,mark,w1,{ target:=.fn (.func f) us,args:=#[.func (.yield l) #[] #[]] },w1,f,#[.func (.yield l) #[] #[]]++us,w1,n1,?_,fun f' _=>aT6 ro f',?_,fun hh=>by rw [aPy] at hh;simp at hh,?_⟩
    ·simp only [resolve,hu]
     simp [go_sem]
    ·simp only [invoke]
     exact aEd hgb _ _
    ·rcases aE1 hw hG i1 hargs with ⟨_,hcall⟩ | ⟨v,w',e',_⟩
     rotate_left
     ·rw [aEd hgb] at e'
      simp at e'
     refine (aIR hcall).mono ?_
     rintro e w3 ⟨v,rfl,rr,T2,h2,φ2,hK,hE2,hI2,_⟩
     simp only [aRa] at hK
     split at hK
     ·rename_i rec s' hT2
      obtain ⟨hnb,hK⟩:=hK
      obtain ⟨l',e1,e2,e3,e4,e5⟩:=aWo hI2 hT2
      have hφl:φ2 st.T.length=.func (.yield l) #[] #[]:=by rw [hE2.phi _ (by simp),aO]
      rw [hφl] at e1
      injection e1 with e1 _ _
      injection e1 with e1
      subst e1
      have hrun:=run_endLoop (P:=P) e2 hnb
      have hset:=aBY (w':=w3.putObj l (.loop { rec with state:=.exhausted })) (o':=.lp { rec with state:=.exhausted } s') hI2 rfl rfl rfl (by simp) (aN hT2)
       (fun b _ hne=>World.putObj_heap_other fun hb=>hne (by rw [hφl,hb];rfl)) ⟨l,hφl,World.putObj_heap_same (aC2 e2),e3,e4,e5⟩
      have hdrop:=qT hset.1 st.T.length
      rw [List.set_set] at hdrop
      have hEE:=((hE.trans i2).trans hE2).trans (hset.2.trans hdrop.2)
      have hdf4:aCk w0 { a with defers:=mark++a.defers } (w3.putObj l (.loop { rec with state:=.exhausted })):=by
       have hdf1:aCk w0 a w1:=by
        refine ⟨hdf.1,fun d hd=>?_⟩
        obtain ⟨D,f1,f2,f3⟩:=hdf.2 d hd
        exact ⟨D,f1,f2,by rw [n8 D (aC2 f3)];exact f3⟩
       have hdf2:aCk w0 { a with defers:=mark++a.defers } w1:=by
        rcases n10 with rfl | ⟨D,rfl,g1,g2⟩
        ·exact hdf1
        ·refine ⟨?_,fun d hd=>?_⟩
         ·rw [List.singleton_append,List.pairwise_cons]
          refine ⟨fun d hd=>?_,hdf.1⟩
          obtain ⟨D',f1,f2,f3⟩:=hdf.2 d hd
          rw [f1]
          intro hh
          injection hh with hh
          subst hh
          have:=aC2 f3
          omega
         ·rcases List.mem_append.1 hd with hd | hd
          ·simp only [List.mem_singleton] at hd
           subst hd
           exact ⟨D,rfl,by have:=hE.size;omega,g2⟩
          ·exact hdf1.2 d hd
       exact ((hdf2.keep i1 hE2).keep hI2 hset.2)
      have hSf:SInv P G N h0 φ0 T0 w0 ⟨st.r,st.s,T2.set st.T.length none⟩ { a with defers:=mark++a.defers } (w3.putObj l (.loop { rec with state:=.exhausted })):=by
       refine ⟨hr,honce,⟨h2,φ2,hG.mono hE2.le,hEE,hdrop.1,fun i=>?_⟩,hsz,hdf4⟩
       have hl2:=hE2.len
       exact (hSl i).mono hE2.le (by rw [List.length_set];simp at hl2;omega) fun j hj=>by
        rw [hE2.phi j (by simp;omega),dE hj]
      revert hrun hSf
      generalize w3.putObj l (.loop { rec with state:=.exhausted })=w4
      intro hrun hSf
      refine ⟨rec.pending,_,hrun,?_⟩
      split at hK
      ·rename_i hp
       rw [hp]
       exact ⟨_,hK,hSf⟩
      ·rename_i id hp
       rw [hp]
       exact wpIn_exit ⟨_,hK,hSf⟩
      ·rename_i hp
       rw [hp]
       exact wpIn_ret ⟨_,hK,hSf⟩
      ·exact hK.elim
     ·exact hK.elim
   ·exact hw.elim
  ·simp at e
 ·simp at e
theorem aJ6:∀ (c:Code),aFu P G N H c:=by
 intro c
 induction c with
 | skip =>
  intro ro h0 φ0 T0 w0 hc Q st a w exs rt out hroo e hw hS
  simp only [bD,Option.some.injEq] at e
  subst e
  exact wpIn_skip ⟨st,hw,hS⟩
 | label l =>
  intro ro h0 φ0 T0 w0 hc Q st a w exs rt out hroo e hw hS
  simp only [bD,Option.some.injEq] at e
  subst e
  exact wpIn_label ⟨st,hw,hS⟩
 | scope x ih =>
  intro ro h0 φ0 T0 w0 hc Q st a w exs rt out hroo e hw hS
  simp only [bD] at e
  exact aPD (ih hroo e hw hS) fun l a w ⟨_,h,_⟩=>h
 | rangeFunc g ps x y ihx ihy=>exact aPF ihx ihy
 | region id ops draw =>
  intro ro h0 φ0 T0 w0 hc Q st a w exs rt out hroo e hw hS
  cases draw with
  | true =>
   simp only [bD,if_true] at e
   split at e
   ·rename_i hm
    cases ho:aEa P N H ops with
    | none=>simp [ho] at e
    | some hd =>
     simp only [ho,Option.map_some,Option.some.injEq] at e
     subst e
     obtain ⟨R,hw,h2,_,_⟩:=aO7 (N:=N) (h0:=h0) (φ0:=φ0) (T0:=T0) (w0:=w0) hw
     obtain ⟨K,hw,hK⟩:=aRC hw
     refine wpIn_region_any hm (aRA ho hw hS.drawn fun st' a' w' hk hS'=>(hK st' hk).elim (fun hq=>h2 st' hq a' w' hS') fun hq=>h2 _ hq a' w' (hS'.kill _))
   ·simp at e
  | false =>
   simp only [bD,Bool.false_eq_true,if_false] at e
   cases ho:dC P N ops ops.toList with
   | none=>simp [ho] at e
   | some hl =>
    simp only [ho,Option.map_some,Option.some.injEq] at e
    subst e
    obtain ⟨R,hw,h2,_,_⟩:=aO7 (N:=N) (h0:=h0) (φ0:=φ0) (T0:=T0) (w0:=w0) hw
    obtain ⟨K,hw,hK⟩:=aUQ hw
    have:=aFt (H:=H) (ro:=ro) (l1:=[]) (acc:=[]) (Q:=fun e a' w'=>∃ st',exQ Q e st'/\SInv P G N h0 φ0 T0 w0 st' a' w') rfl ho hw hS fun st' a' w' hk hS'=>(hK st' hk).elim (fun hq=>h2 st' hq a' w' hS') fun hq=>h2 _ hq a' w' (hS'.kill _)
    exact wpIn_region_list this
 | seq x y ihx ihy =>
  intro ro h0 φ0 T0 w0 hc Q st a w exs rt out hroo e hw hS
  simp only [bD] at e
  split at e
  ·rename_i hx hy h1 h2
   injection e with e
   subst e
   simp only [cF] at hw
   refine wpIn_seq (wpIn_mono (ihx hroo h1 hw hS) fun ex a' w' ⟨st',hq,hS'⟩=>?_)
   cases ex with
   | normal=>exact ihy hroo h2 hq hS'
   | exit i=>exact ⟨st',hq,hS'⟩
   | ret=>exact ⟨st',hq,hS'⟩
   | _=>exact hq.elim
  ·simp at e
 | cond c x y ihx ihy =>
  intro ro h0 φ0 T0 w0 hc Q st a w exs rt out hroo e hw hS
  simp only [bD] at e
  split at e
  ·rename_i hx hy h1 h2
   injection e with e
   subst e
   simp only [cF] at hw
   split at hw
   ·rename_i t ht
    have hS':=hS
    obtain ⟨hr,honce,⟨h,φ,hG,hE,hI,hSl⟩,hsz,hdf⟩:=hS'
    refine wpIn_cond (t:=t) (iV hG hSl ht) ?_
    cases t
    ·rcases aO6 hw with hw | hw
     ·exact ihy hroo h2 hw hS
     ·exact ihy hroo h2 hw (hS.kill _)
    ·rcases aO6 hw with hw | hw
     ·exact ihx hroo h1 hw hS
     ·exact ihx hroo h1 hw (hS.kill _)
   ·exact hw.elim
  ·simp at e
 | block id x ih =>
  intro ro h0 φ0 T0 w0 hc Q st a w exs rt out hroo e hw hS
  simp only [bD] at e
  cases hx:bD P N H x ((id,out)::exs) rt out with
  | none=>simp [hx] at e
  | some hx' =>
   simp only [hx,Option.map_some,Option.some.injEq] at e
   subst e
   obtain ⟨R,hw,h2,h3,h4⟩:=aO7 (N:=N) (h0:=h0) (φ0:=φ0) (T0:=T0) (w0:=w0) hw
   simp only [cF] at hw
   refine wpIn_block (wpIn_mono (ih hroo hx hw hS) fun ex a' w' ⟨st',hq,hS'⟩=>?_)
   cases ex with
   | normal=>exact h2 st' hq a' w' hS'
   | exit i =>
    simp only [exQ] at hq
    simp only [Exit.inBlock]
    split
    ·rename_i hi
     rw [if_pos hi] at hq
     exact h2 st' hq a' w' hS'
    ·rename_i hi
     rw [if_neg hi] at hq
     exact ⟨st',h3 _ _ hq,hS'⟩
   | ret=>exact ⟨st',h4 _ hq,hS'⟩
   | _=>exact hq.elim
 | loop x ih =>
  intro ro h0 φ0 T0 w0 hc Q st a w exs rt out hroo e hw hS
  simp only [bD] at e
  cases hx:bD P N H x exs rt (lM exs rt x []) with
  | none=>simp [hx] at e
  | some hx' =>
   simp only [hx,Option.map_some,Option.some.injEq] at e
   subst e
   simp only [cF] at hw
   obtain ⟨I,⟨n0,hI0⟩,hround⟩:=hw
   let J:Act->World->Nat->Prop:=fun a w n=>∃ st,I n st/\SInv P G N h0 φ0 T0 w0 st a w
   refine wpIn_loop (fun a w=>∃ n,J a w n) (fun a w=>open Classical in if h:∃ n,J a w n then (aPC h).choose else 0) ⟨n0,hI0.elim (fun h=>⟨_,h,aB0 _ hS⟩) fun h=>⟨_,h,hS⟩⟩ fun a w hJ=>?_
   obtain ⟨st',hI',hS'⟩:=(aPC hJ).choose_spec.1
   refine wpIn_mono (ih hroo hx (hround _ st' hI') hS') fun ex a' w' ⟨st2,hq,hS2⟩=>?_
   cases ex with
   | normal =>
    obtain ⟨m,hm,hIm⟩:=hq
    have hJm:J a' w' m:=hIm.elim (fun h=>⟨_,h,aB0 _ hS2⟩) fun h=>⟨_,h,hS2⟩
    have hJ':∃ n,J a' w' n:=⟨m,hJm⟩
    refine ⟨hJ',?_⟩
    simp only [dif_pos hJ',dif_pos hJ]
    have hle:(aPC hJ').choose<=m:=by
     rcases Nat.lt_or_ge m (aPC hJ').choose with hlt | hge
     ·exact absurd hJm ((aPC hJ').choose_spec.2 m hlt)
     ·exact hge
    omega
   | exit i=>exact ⟨st2,hq,hS2⟩
   | ret=>exact ⟨st2,hq,hS2⟩
   | _=>exact hq.elim
 | exit i =>
  intro ro h0 φ0 T0 w0 hc Q st a w exs rt out hroo e hw hS
  simp only [bD,Option.some.injEq] at e
  subst e
  exact wpIn_exit ⟨st,hw,hS⟩
 | ret =>
  intro ro h0 φ0 T0 w0 hc Q st a w exs rt out hroo e hw hS
  simp only [bD,Option.some.injEq] at e
  subst e
  exact wpIn_ret ⟨st,hw,hS⟩
 | _=>intro ro h0 φ0 T0 w0 hc Q st a w exs rt out hroo e;simp [bD] at e
end
end
end Hud
