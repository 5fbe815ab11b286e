import Derived.Test.YthlndebkfkanbaaGreatDoorLib02
set_option linter.all false
namespace Hud
open Go
section
theorem fU.drop {h:GH} {b k:Nat}:∀ {es:List (List AV)} {o:Nat},fU h b k es o->∀ l,fU h b k (es.drop l) (o+l*k)
 | [],_,_,l=>by simp [fU]
 | e::es,o,hh,0=>by simpa using hh
 | e::es,o,hh,l+1=>by
  simp only [fU] at hh
  have:=fU.drop hh.2.2 l
  rw [List.drop_succ_cons,Nat.succ_mul,Nat.add_comm (l*k) k,<-Nat.add_assoc]
  exact this
theorem fU.take {h:GH} {b k:Nat}:∀ {es:List (List AV)} {o:Nat},fU h b k es o->∀ l,fU h b k (es.take l) o
 | [],_,_,l=>by simp [fU]
 | e::es,o,hh,0=>by simp [fU]
 | e::es,o,hh,l+1=>by
  simp only [fU] at hh
  rw [List.take_succ_cons]
  simp only [fU]
  exact ⟨hh.1,hh.2.1,fU.take hh.2.2 l⟩
mutual
theorem aIE {h h':GH} {φ:Nat->Value} {n:Nat}:∀ {x:AV} {u:Value},kJ x->Rp h φ n x u->Rp h' φ n x u
 | .v _,_,_,e=>by simpa [Rp] using e
 | .ls k es,u,hf,e=>by
  simp only [kJ] at hf
  subst hf
  simp only [Rp,RpD] at e ⊢
  obtain ⟨A,c,h1,h2,h3,_⟩:=e
  exact ⟨A,c,h1,h2,h3,.inl trivial⟩
 | .ag cs,_,hf,e=>by simp only [Rp,kJ] at *;obtain ⟨us,h1,h2⟩:=e;exact ⟨us,h1,qV hf h2⟩
 | .own _,_,_,e=>by simpa [Rp] using e
 | .ptr _ _,_,_,e=>by simpa [Rp] using e
 | .elt _ _ _ _,_,_,e=>by simpa [Rp] using e
 | .vw _ _ _ _,_,_,e=>by simpa [Rp] using e
 | .mp _,_,_,e=>by simpa [Rp] using e
 | .yl _,_,_,e=>by simpa [Rp] using e
 | .rp cs,u,hf,e=>by
  simp only [kJ] at hf
  subst hf
  simp only [Rp] at e ⊢
  obtain ⟨b,o,h1,_⟩:=e
  exact ⟨b,o,h1,by simp [iU]⟩
 | .cl f cs,_,hf,e=>by simp only [Rp,kJ] at *;obtain ⟨us,h1,h2⟩:=e;exact ⟨us,h1,qV hf h2⟩
 | .bm f kk cs,_,hf,e=>by simp only [Rp,kJ] at *;obtain ⟨us,h1,h2⟩:=e;exact ⟨us,h1,qV hf h2⟩
 | .tup cs,_,hf,e=>by simp only [Rp,kJ] at *;obtain ⟨us,h1,h2⟩:=e;exact ⟨us,h1,qV hf h2⟩
 | .any,_,_,_=>by simp [Rp]
theorem qV {h h':GH} {φ:Nat->Value} {n:Nat}:∀ {cs:List AV} {us:List Value},kX cs->RpL h φ n cs us->RpL h' φ n cs us
 | [],_,_,e=>by simpa [RpL] using e
 | c::cs,us,hf,e=>by
  simp only [RpL,kX] at *
  obtain ⟨u,us',h1,h2,h3⟩:=e
  exact ⟨u,us',h1,aIE hf.1 h2,qV hf.2 h3⟩
end
theorem aPl {h h':GH}:∀ {cs:List AV} {us:List Value},(∀ c∈cs,∃ x,c=.v x)->bC h cs us->bC h' cs us
 | [],_,_,e=>by simpa [bC] using e
 | c::cs,us,hf,e=>by
  simp only [bC] at *
  obtain ⟨u,us',h1,h2,h3⟩:=e
  obtain ⟨x,rfl⟩:=hf c (by simp)
  refine ⟨u,us',h1,?_,aPl (fun d hd=>hf d (by simp [hd])) h3⟩
  simpa only [RpD] using h2
theorem aWb {h h':GH} {φ:Nat->Value} {n:Nat} {w:World} {i:Nat} {o:AObj} (hf:aIr (some o)) (hg:∀ g,blk (φ i)=some g->h' g=none) (e:sF h φ n w i o):sF h' φ n w i o:=by
 cases o with
 | box cs =>
  obtain ⟨g,us,E,h1,h2,_,h4⟩:=e
  exact ⟨g,us,E,h1,h2,hg g (by rw [h1];rfl),qV hf h4⟩
 | arr k es =>
  obtain ⟨h0,h1 | ⟨g,c,cur,E,h1,h2,h3,h4,h5,_,h7⟩⟩:=e
  ·exact ⟨h0,.inl h1⟩
  ·refine ⟨h0,.inr ⟨g,c,cur,E,h1,h2,h3,h4,h5,hg g (by rw [h1];rfl),aPl (fun c hc=>?_) h7⟩⟩
   obtain ⟨d,hd,hcd⟩:=List.mem_flatten.1 hc
   exact hf d hd c hcd
 | arf k es =>
  obtain ⟨h0,h1 | ⟨g,c,cur,E,h1,h2,h3,h4,h5,_,h7⟩⟩:=e
  ·exact ⟨h0,.inl h1⟩
  ·refine ⟨h0,.inr ⟨g,c,cur,E,h1,h2,h3,h4,h5,hg g (by rw [h1];rfl),qV ?_ h7⟩⟩
   have app:∀ {a b:List AV},kX a->kX b->kX (a++b):=by
    intro a b ha hb
    induction a with
    | nil=>exact hb
    | cons c a ih=>simp only [kX,List.cons_append] at ha ⊢;exact ⟨ha.1,ih ha.2⟩
   have key:∀ l:List (List AV),(∀ e∈l,kX e)->kX l.flatten:=by
    intro l
    induction l with
    | nil=>intro _;simp [kX]
    | cons e l ih=>intro hl;rw [List.flatten_cons];exact app (hl e (by simp)) (ih fun d hd=>hl d (by simp [hd]))
   exact key es hf
 | lp r s =>
  obtain ⟨g,h1,h2,h3,h4,h5⟩:=e
  exact ⟨g,h1,h2,hg g (by rw [h1];rfl),h4,fun p hp=>aIE (hf p hp) (h5 p hp)⟩
 | mit m since seen st =>
  obtain ⟨g,mo,h1,h2,h3,h4⟩:=e
  exact ⟨g,mo,h1,h2,hg g (by rw [h1];rfl),h4⟩
 | map ag ks vs bs cl =>
  obtain ⟨g,ens,h1,h2,h3,h4,h5,h6⟩:=e
  exact ⟨g,ens,h1,h2,hg g (by rw [h1];rfl),h4,h5,qV hf h6⟩
theorem iU.of_list {h:GH} {b:Nat}:∀ {cs:List AV} {us:List Value} {o:Nat},bC h cs us->(∀ c∈cs,aP c=true)->(∀ j u,us[j]?=some u->mH h b (o+j)=some u)->iU h b cs o
 | cs,us,o,e,hc,hu=>iU.mk fun i c hi=>by
  obtain ⟨u,h1,h2⟩:=e.get hi
  exact ⟨u,hc c (List.mem_of_getElem? hi),hu i u h1,h2⟩
theorem fU.of_list {h:GH} {b k:Nat}:∀ {es:List (List AV)} {us:List Value} {o:Nat},bC h es.flatten us->(∀ e∈es,e.length=k/\∀ c∈e,aP c=true)->(∀ j u,us[j]?=some u->mH h b (o+j)=some u)->fU h b k es o
 | es,us,o,e,hc,hu=>fU.mk fun j d hj=>by
  have hd:=hc d (List.mem_of_getElem? hj)
  refine ⟨hd.1,?_⟩
  have hs:=e.sub (j*k) k
  rw [aIx (fun e he=>(hc e he).1) hj] at hs
  refine iU.of_list hs hd.2 fun i u hi=>?_
  rw [List.getElem?_take] at hi
  split at hi
  ·rw [List.getElem?_drop] at hi
   rw [<-hu _ _ hi]
   congr 1
   omega
  ·simp at hi
open Classical in
noncomputable def lentG (h:GH) (φ:Nat->Value) (T:Tab) (w:World):GH:=fun b =>
 if ∃ i o,T[i]?=some (some o)/\blk (φ i)=some b then (match w.heap[b]? with | some (.cells cs _ _)=>some cs | _=>none) else h b
open Classical in
noncomputable def unlentG (h:GH) (φ:Nat->Value) (T:Tab):GH:=fun b=>if ∃ i o,T[i]?=some (some o)/\blk (φ i)=some b then none else h b
section
variable {h:GH} {φ:Nat->Value} {T:Tab} {w:World}
theorem aMx (hI:Inv h φ w T) {i:Nat} {k:Nat} {es:List (List AV)} (hi:T[i]?=some (some (.arr k es))) {b:Nat} (hb:blk (φ i)=some b):∃ cs E,w.heap[b]?=some (.cells cs E (0,0))/\lentG h φ T w b=some cs:=by
 have:∃ cs E,w.heap[b]?=some (.cells cs E (0,0)):=by
  obtain ⟨_,⟨A,h1⟩ | ⟨g,c,cur,E,h1,h2,_⟩⟩:=hI.obj i _ hi
  ·rw [h1.1] at hb;simp [blk] at hb
  ·rw [h1] at hb;simp only [blk,Option.some.injEq] at hb;subst hb
   exact ⟨cur,E,h2⟩
 obtain ⟨cs,E,hw⟩:=this
 refine ⟨cs,E,hw,?_⟩
 unfold lentG
 rw [if_pos ⟨i,_,hi,hb⟩,hw]
theorem qW (hI:Inv h φ w T):GLe h (lentG h φ T w):=by
 intro b cs e
 unfold lentG
 rw [if_neg]
 ·exact e
 ·rintro ⟨i,o,hi,hb⟩
  have:=(eU (hI.obj i o hi) hb).2
  rw [e] at this
  simp at this
theorem aWc (hI:Inv h φ w T) (φ':Nat->Value):Inv (lentG h φ T w) φ' w []:=by
 refine ⟨fun b cs e=>?_,fun i o e=>by simp at e,fun i j oi oj b e=>by simp at e⟩
 by_cases hx:∃ i o,T[i]?=some (some o)/\blk (φ i)=some b
 ·unfold lentG at e
  rw [if_pos hx] at e
  split at e
  ·rename_i cs' E fr hw
   injection e with e
   subst e
   exact ⟨E,_,hw⟩
  ·simp at e
 ·unfold lentG at e
  rw [if_neg hx] at e
  exact hI.gh b cs e
mutual
theorem aWd (hI:Inv h φ w T) {φ':Nat->Value}:∀ {x:AV} {u:Value},eN (pU T x)=[]->Rp h φ T.length x u->Rp (lentG h φ T w) φ' 0 (pU T x) u
 | .v _,_,_,e=>by simpa [Rp,pU] using e
 | .ls _ _,_,_,e=>by simp only [Rp,pU] at *;exact e.mono (qW hI)
 | .ag cs,_,hd,e=>by simp only [Rp,pU,eN] at *;obtain ⟨us,h1,h2⟩:=e;exact ⟨us,h1,aIF hI hd h2⟩
 | .own i,u,_,e=>by
  simp only [Rp,pU] at *
  split
  ·rename_i k es hg
   simp only [Rp,RpD]
   obtain ⟨hl,⟨A0,h1⟩ | ⟨g,c,cur,E,hφ,hw,h2,h3,h4,h5,h6⟩⟩:=sZ hI hg
   ·exact ⟨A0,0,by rw [e.2.1,h1.1,h1.2];rfl,by rw [h1.2];simp,by simp,.inl h1.2⟩
   ·refine ⟨_,c+1,by rw [e.2.1,hφ],h2,h3,.inr ⟨g,0,rfl,?_⟩⟩
    obtain ⟨cs',E',hw',hlent⟩:=aMx hI (aN hg) (b:=g) (by rw [hφ];rfl)
    rw [hw] at hw'
    injection hw' with hw'
    injection hw' with hw'
    subst hw'
    refine fU.of_list (h6.mono (qW hI)) hl fun j v hj=>?_
    unfold mH
    rw [hlent]
    rw [List.getElem?_take] at hj
    split at hj
    ·simpa using hj
    ·simp at hj
  ·simp [Rp]
 | .ptr _ _,_,hd,_=>by simp [eN,pU] at hd
 | .elt _ _ _ _,_,hd,_=>by simp [eN,pU] at hd
 | .mp _,_,hd,_=>by simp [eN,pU] at hd
 | .yl _,_,hd,_=>by simp [eN,pU] at hd
 | .vw i k lo m,u,_,e=>by
  simp only [Rp,pU] at *
  split
  ·rename_i k' es hg
   split
   ·rename_i hk
    obtain ⟨rfl,hlen⟩:=hk
    obtain ⟨_,A,c,hu,hmc,hcm,h0⟩:=e
    have hln:((es.drop lo).take m).length=m:=by rw [List.length_take,List.length_drop];omega
    simp only [Rp,RpD]
    refine ⟨A,c,by rw [hln];exact hu,by rw [hln];exact hmc,hcm,?_⟩
    rcases h0 with rfl | ⟨g,l,c',hφ,rfl,hle⟩
    ·exact .inl (by simp)
    ·obtain ⟨hl,h1 | ⟨g',c2,cur,E,hφ',hw,h2,h3,h4,h5,h6⟩⟩:=sZ hI hg
     ·obtain ⟨A0,_,rfl⟩:=h1
      exact .inl (by simp)
     ·rw [hφ] at hφ'
      injection hφ' with e1 e2 e3
      injection e1 with e1
      injection e1 with e1
      subst e1
      subst e3
      refine .inr ⟨g,lo*k,rfl,?_⟩
      obtain ⟨cs',E',hw',hlent⟩:=aMx hI (aN hg) (b:=g) (by rw [hφ];rfl)
      rw [hw] at hw'
      injection hw' with hw'
      injection hw' with hw'
      subst hw'
      have hfull:fU (lentG h φ T w) g k es 0:=fU.of_list (h6.mono (qW hI)) hl fun j v hj=>by
       unfold mH
       rw [hlent]
       rw [List.getElem?_take] at hj
       split at hj
       ·simpa using hj
       ·simp at hj
      simpa using (hfull.drop lo).take m
   ·simp [Rp]
  ·simp [Rp]
 | .rp cs,u,_,e=>by
  simp only [Rp,pU] at *
  obtain ⟨b,o,h1,h2⟩:=e
  exact ⟨b,o,h1,h2.mono (qW hI)⟩
 | .cl f cs,_,hd,e=>by
  simp only [Rp,pU,eN] at *
  obtain ⟨us,h1,h2⟩:=e
  exact ⟨us,h1,qX hI hd h2⟩
 | .bm f kk cs,_,hd,e=>by
  simp only [Rp,pU,eN] at *
  obtain ⟨us,h1,h2⟩:=e
  exact ⟨us,h1,qX hI hd h2⟩
 | .tup cs,_,hd,e=>by
  simp only [Rp,pU,eN] at *
  obtain ⟨us,h1,h2⟩:=e
  exact ⟨us,h1,qX hI hd h2⟩
 | .any,_,_,_=>by simp [Rp,pU]
theorem aIF (hI:Inv h φ w T) {φ':Nat->Value}:∀ {cs:List AV} {us:List Value},fI (aAS T cs)=[]->RpL h φ T.length cs us->RpL (lentG h φ T w) φ' 0 (aAS T cs) us
 | [],_,_,e=>by simpa [RpL,aAS] using e
 | c::cs,us,hd,e=>by
  simp only [RpL,aAS,fI,List.append_eq_nil_iff] at *
  obtain ⟨u,us',h1,h2,h3⟩:=e
  exact ⟨u,us',h1,aWd hI hd.1 h2,aIF hI hd.2 h3⟩
theorem aYQ (hI:Inv h φ w T) {φ':Nat->Value}:∀ {x:AV} {u:Value},eN x=[]->Rp h φ T.length x u->Rp (lentG h φ T w) φ' 0 x u
 | .v _,_,_,e=>by simpa [Rp] using e
 | .ls _ _,_,_,e=>by simp only [Rp] at *;exact e.mono (qW hI)
 | .ag cs,_,hd,e=>by simp only [Rp,eN] at *;obtain ⟨us,h1,h2⟩:=e;exact ⟨us,h1,qX hI hd h2⟩
 | .own _,_,hd,_=>by simp [eN] at hd
 | .ptr _ _,_,hd,_=>by simp [eN] at hd
 | .elt _ _ _ _,_,hd,_=>by simp [eN] at hd
 | .vw _ _ _ _,_,hd,_=>by simp [eN] at hd
 | .mp _,_,hd,_=>by simp [eN] at hd
 | .yl _,_,hd,_=>by simp [eN] at hd
 | .rp cs,u,_,e=>by
  simp only [Rp] at *
  obtain ⟨b,o,h1,h2⟩:=e
  exact ⟨b,o,h1,h2.mono (qW hI)⟩
 | .cl f cs,_,hd,e=>by simp only [Rp,eN] at *;obtain ⟨us,h1,h2⟩:=e;exact ⟨us,h1,qX hI hd h2⟩
 | .bm f kk cs,_,hd,e=>by simp only [Rp,eN] at *;obtain ⟨us,h1,h2⟩:=e;exact ⟨us,h1,qX hI hd h2⟩
 | .tup cs,_,hd,e=>by simp only [Rp,eN] at *;obtain ⟨us,h1,h2⟩:=e;exact ⟨us,h1,qX hI hd h2⟩
 | .any,_,_,_=>by simp [Rp]
theorem qX (hI:Inv h φ w T) {φ':Nat->Value}:∀ {cs:List AV} {us:List Value},fI cs=[]->RpL h φ T.length cs us->RpL (lentG h φ T w) φ' 0 cs us
 | [],_,_,e=>by simpa [RpL] using e
 | c::cs,us,hd,e=>by
  simp only [RpL,fI,List.append_eq_nil_iff] at *
  obtain ⟨u,us',h1,h2,h3⟩:=e
  exact ⟨u,us',h1,aYQ hI hd.1 h2,qX hI hd.2 h3⟩
end
theorem aWe (hI:Inv h φ w T) {φc:Nat->Value} {T':Tab} {h1:GH} {φc':Nat->Value} {w':World} (hE:Evo (lentG h φ T w) φc [] w h1 φc' T' w') (hI':Inv h1 φc' w' T') {r:AV} {v:Value} (hr:Rp h1 φc' T'.length r v)
  (hfr:kJ r) (hfT:∀ o∈T',aIr o) :
  ∃ h' φ',Evo h φ T w h' φ' (T++T'.map (bkO [] T.length)) w'/\Inv h' φ' w' (T++T'.map (bkO [] T.length))/\Rp h' φ' (T++T'.map (bkO [] T.length)).length (bkA [] T.length r) v:=by
 have hframe:∀ b,b<w.heap.size->w'.heap[b]?=w.heap[b]?:=fun b hb=>hE.frame b hb fun i o e=>by simp at e
 let h':GH:=unlentG h1 φ T
 have hle:GLe h h':=by
  intro b cs e
  have h2:=hE.le b cs (qW hI b cs e)
  show unlentG h1 φ T b=some cs
  unfold unlentG
  rw [if_neg]
  ·exact h2
  ·rintro ⟨i,o,hi,hb⟩
   have:=(eU (hI.obj i o hi) hb).2
   rw [e] at this
   simp at this
 have hun:∀ b cs,h' b=some cs->h1 b=some cs/\¬∃ i o,T[i]?=some (some o)/\blk (φ i)=some b:=by
  intro b cs e
  change unlentG h1 φ T b=some cs at e
  unfold unlentG at e
  split at e
  ·simp at e
  ·rename_i hx;exact ⟨e,hx⟩
 have hI2:Inv h' φc' w' T':=by
  refine ⟨fun b cs e=>hI'.gh b cs (hun b cs e).1,fun i o e=>?_,hI'.dis⟩
  have ho:=hI'.obj i o e
  refine aWb (hfT _ (List.mem_of_getElem? e)) (fun g hg=>?_) ho
  have hn:=(eU ho hg).2
  cases hh:h' g with
  | none=>rfl
  | some cs=>rw [(hun g cs hh).1] at hn;simp at hn
 have hE2:Evo h φc [] w h' φc' T' w':=by
  refine ⟨hE.os,hE.tape,hE.output,hE.size,hE.frame,hle,fun b cs e=>?_,fun i hi=>by simp at hi,hE.org,by simp,hE.drawn⟩
  obtain ⟨e1,hx⟩:=hun b cs e
  rcases hE.gfr b cs e1 with h2 | h2 | ⟨i,o,h3,_⟩
  ·unfold lentG at h2
   rw [if_neg hx] at h2
   exact .inl h2
  ·exact .inr (.inl h2)
  ·simp at h3
 have hnil:rnT ([]:List Nat) T=[]:=rfl
 have:=aWa (L:=[]) (φc:=φc) (by simp) (fun i hi=>by simp at hi) hI (fun j i e=>by simp at e) (by rw [hnil];exact hE2) hI2 (aIE (h':=h') hfr hr)
 have hbk:bkT [] T.length T [] T'=T++T'.map (bkO [] T.length):=by
  cases T' with
  | nil=>simp [bkT]
  | cons x T'=>rfl
 rw [hbk] at this
 exact ⟨h',this⟩
end
section
variable {P:Program} {G:Nat->Option (List AV)} {h:GH} {φ:Nat->Value} {T:Tab} {w:World}
mutual
theorem aYR {h:GH} {φ:Nat->Value} {n:Nat}:∀ {x y:AV} {u:Value},lH x y->Rp h φ n x u->Rp h φ n y u
 | .ag cs,y,u,hs,e=>by
  simp only [lH] at hs
  rcases hs with rfl | ⟨ds,rfl,hs⟩
  ·exact e
  ·simp only [Rp] at e ⊢
   obtain ⟨us,h1,h2⟩:=e
   exact ⟨us,h1,aNX hs h2⟩
 | .v x,y,u,hs,e=>by
  simp only [lH] at hs
  rcases hs with rfl | ⟨rfl,k,rfl⟩ | ⟨us,rfl,rfl⟩
  ·exact e
  ·simp only [Rp] at e
   subst e
   simp only [Rp,RpD]
   exact ⟨none,0,rfl,Nat.le_refl _,Nat.zero_le _,by simp⟩
  ·simp only [Rp] at e
   subst e
   simp only [Rp]
   refine ⟨us,rfl,?_⟩
   have:∀ l:List Value,RpL h φ n (l.map .v) l:=by
    intro l
    induction l with
    | nil=>simp [RpL]
    | cons c l ih=>simp only [List.map_cons,RpL];exact ⟨c,l,rfl,by simp [Rp],ih⟩
   exact this _
 | .ls _ _,y,u,hs,e=>by simp only [lH] at hs;subst hs;exact e
 | .own _,y,u,hs,e=>by simp only [lH] at hs;subst hs;exact e
 | .ptr _ _,y,u,hs,e=>by simp only [lH] at hs;subst hs;exact e
 | .elt _ _ _ _,y,u,hs,e=>by simp only [lH] at hs;subst hs;exact e
 | .vw _ _ _ _,y,u,hs,e=>by simp only [lH] at hs;subst hs;exact e
 | .mp _,y,u,hs,e=>by simp only [lH] at hs;subst hs;exact e
 | .yl _,y,u,hs,e=>by simp only [lH] at hs;subst hs;exact e
 | .rp _,y,u,hs,e=>by simp only [lH] at hs;subst hs;exact e
 | .cl _ _,y,u,hs,e=>by simp only [lH] at hs;subst hs;exact e
 | .bm _ _ _,y,u,hs,e=>by simp only [lH] at hs;subst hs;exact e
 | .tup _,y,u,hs,e=>by simp only [lH] at hs;subst hs;exact e
 | .any,y,u,hs,e=>by simp only [lH] at hs;subst hs;exact e
theorem aNX {h:GH} {φ:Nat->Value} {n:Nat}:∀ {cs ds:List AV} {us:List Value},tG cs ds->RpL h φ n cs us->RpL h φ n ds us
 | [],ds,us,hs,e=>by simp only [tG] at hs;subst hs;exact e
 | c::cs,ds,us,hs,e=>by
  simp only [tG] at hs
  obtain ⟨d,ds',rfl,h1,h2⟩:=hs
  simp only [RpL] at e ⊢
  obtain ⟨u,us',h3,h4,h5⟩:=e
  exact ⟨u,us',h3,aYR h1 h4,aNX h2 h5⟩
end
theorem aUo {f:FuncId} {args:List AV} {K:AV->Tab->Prop} (hc:aW1 P G f args T K) (hG:GOk G h) (hI:Inv h φ w T) {vals:Array Value} (ha:RpL h φ T.length args vals.toList) :
  ((callFunc f vals).run P w=.ok (.enter f vals) w/\Calls P f vals w (fun e w'=>∃ v,e=.returned v/\Ret h φ T w K v w')) \/
  (∃ v w',(callFunc f vals).run P w=.ok (.value v) w'/\Ret h φ T w K v w'):=by
 rcases hc with ⟨L,hL,hlt,hc⟩ | ⟨hids,hc⟩
 ·have hφ:aGp L φ (fun j=>φ (L.getD j 0)):=by
   intro j i e
   simp [List.getD_eq_getElem?_getD,e]
  have hlen:(rnT L T).length=L.length:=by simp [rnT]
  have back:∀ v w',Ret h (fun j=>φ (L.getD j 0)) (rnT L T) w (fun r T'=>K (bkA L T.length r) (bkT L T.length T L T')) v w'->Ret h φ T w K v w':=by
   rintro v w' ⟨r,T',h',φ',e1,e2,e3,e4⟩
   obtain ⟨φ2,e5,e6,e7⟩:=aWa hL hlt hI hφ e2 e3 e4
   exact ⟨_,_,h',φ2,e1,e5,e6,e7⟩
  exact (hc h _ w vals hG (aW8 hL hI hφ) (by rw [hlen];exact yW hφ ha)).imp
   (fun ⟨e,c⟩=>⟨e,c.mono fun _ w' ⟨v,e1,e2⟩=>⟨v,e1,back v w' e2⟩⟩) (fun ⟨v,w',e,c⟩=>⟨v,w',e,back v w' c⟩)
 ·have back:∀ v w',Ret (lentG h φ T w) φ [] w (fun r T'=>kJ r/\(∀ o∈T',aIr o)/\K (bkA [] T.length r) (T++T'.map (bkO [] T.length))) v w'->Ret h φ T w K v w':=by
   rintro v w' ⟨r,T',h',φ',⟨f1,f2,e1⟩,e2,e3,e4⟩
   obtain ⟨h2,φ2,e5,e6,e7⟩:=aWe hI e2 e3 e4 f1 f2
   exact ⟨_,_,h2,φ2,e1,e5,e6,e7⟩
  exact (hc (lentG h φ T w) φ w vals (hG.mono (qW hI)) (aWc hI φ) (aIF hI hids ha)).imp
   (fun ⟨e,c⟩=>⟨e,c.mono fun _ w' ⟨v,e1,e2⟩=>⟨v,e1,back v w' e2⟩⟩) (fun ⟨v,w',e,c⟩=>⟨v,w',e,back v w' c⟩)
theorem aE1 {f:FuncId} {args:List AV} {K:AV->Tab->Prop} (hc:aDT P G f args T K) (hG:GOk G h) (hI:Inv h φ w T) {vals:Array Value} (ha:RpL h φ T.length args vals.toList) :
  ((callFunc f vals).run P w=.ok (.enter f vals) w/\Calls P f vals w (fun e w'=>∃ v,e=.returned v/\Ret h φ T w K v w')) \/
  (∃ v w',(callFunc f vals).run P w=.ok (.value v) w'/\Ret h φ T w K v w'):=by
 obtain ⟨args',hs,hc⟩:=hc
 exact aUo hc hG hI (aNX hs ha)
end
end
end Hud
