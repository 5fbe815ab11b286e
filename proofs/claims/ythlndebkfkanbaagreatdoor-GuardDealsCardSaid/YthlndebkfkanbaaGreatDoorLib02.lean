import Derived.Test.YthlndebkfkanbaaGreatDoorLib01
set_option linter.all false
namespace Hud
open Go
section
theorem tI {h:GH} {φ:Nat->Value} {T:Tab} {w:World} (hI:Inv h φ w T) {b:Nat} {cs:Array Value} (e:h b=some cs):b<w.heap.size:=by
 obtain ⟨E,fr,hw⟩:=hI.gh b cs e
 rcases Nat.lt_or_ge b w.heap.size with hh | hh
 ·exact hh
 ·rw [Array.getElem?_eq_none hh] at hw;simp at hw
theorem eU {h:GH} {φ:Nat->Value} {n:Nat} {w:World} {i:Nat} {o:AObj} (e:sF h φ n w i o) {g:Nat} (hg:blk (φ i)=some g) :
  g<w.heap.size/\h g=none:=by
 have lt:∀ {x:Obj},w.heap[g]?=some x->g<w.heap.size:=by
  intro x hx
  rcases Nat.lt_or_ge g w.heap.size with hh | hh
  ·exact hh
  ·rw [Array.getElem?_eq_none hh] at hx;simp at hx
 cases o with
 | box cs =>
  obtain ⟨g',us,E,h1,h2,h3,_⟩:=e
  rw [h1] at hg
  simp only [blk,Option.some.injEq] at hg
  subst hg
  exact ⟨lt h2,h3⟩
 | arr k es =>
  obtain ⟨_,⟨A,h1⟩ | ⟨g',c,cur,E,h1,h2,_,_,_,h3,_⟩⟩:=e
  ·rw [h1.1] at hg;simp [blk] at hg
  ·rw [h1] at hg
   simp only [blk,Option.some.injEq] at hg
   subst hg
   exact ⟨lt h2,h3⟩
 | arf k es =>
  obtain ⟨_,⟨A,h1⟩ | ⟨g',c,cur,E,h1,h2,_,_,_,h3,_⟩⟩:=e
  ·rw [h1.1] at hg;simp [blk] at hg
  ·rw [h1] at hg
   simp only [blk,Option.some.injEq] at hg
   subst hg
   exact ⟨lt h2,h3⟩
 | lp r s =>
  obtain ⟨g',h1,h2,h3,_⟩:=e
  rw [h1] at hg
  simp only [blk,Option.some.injEq] at hg
  subst hg
  exact ⟨lt h2,h3⟩
 | mit m since seen st =>
  obtain ⟨g',mo,h1,h2,h3,_⟩:=e
  rw [h1] at hg
  simp only [blk,Option.some.injEq] at hg
  subst hg
  exact ⟨lt h2,h3⟩
 | map ag ks vs bs cl =>
  obtain ⟨g',ens,h1,h2,h3,_⟩:=e
  rw [h1] at hg
  simp only [blk,Option.some.injEq] at hg
  subst hg
  exact ⟨lt h2,h3⟩
theorem nO {h h':GH} {φ φ':Nat->Value} {n n':Nat} {w w':World} {i:Nat} {o:AObj} (e:sF h φ n w i o) (le:GLe h h') (hn:n<=n') (hp:∀ j,j<n->φ' j=φ j) (hi:i<n)
  (hb:∀ g,blk (φ i)=some g->w'.heap[g]?=w.heap[g]?/\h' g=none):sF h' φ' n' w' i o:=by
 cases o with
 | box cs =>
  obtain ⟨g,us,E,h1,h2,h3,h4⟩:=e
  obtain ⟨h5,h6⟩:=hb g (by rw [h1];rfl)
  exact ⟨g,us,E,by rw [hp i hi];exact h1,by rw [h5];exact h2,h6,h4.mono le hn hp⟩
 | arr k es =>
  obtain ⟨h0,h1 | ⟨g,c,cur,E,h1,h2,h3,h4,h5,h6,h7⟩⟩:=e
  ·exact ⟨h0,.inl (by rw [hp i hi];exact h1)⟩
  ·obtain ⟨h8,h9⟩:=hb g (by rw [h1];rfl)
   exact ⟨h0,.inr ⟨g,c,cur,E,by rw [hp i hi];exact h1,by rw [h8];exact h2,h3,h4,h5,h9,h7.mono le⟩⟩
 | arf k es =>
  obtain ⟨h0,h1 | ⟨g,c,cur,E,h1,h2,h3,h4,h5,h6,h7⟩⟩:=e
  ·exact ⟨h0,.inl (by rw [hp i hi];exact h1)⟩
  ·obtain ⟨h8,h9⟩:=hb g (by rw [h1];rfl)
   exact ⟨h0,.inr ⟨g,c,cur,E,by rw [hp i hi];exact h1,by rw [h8];exact h2,h3,h4,h5,h9,h7.mono le hn hp⟩⟩
 | lp r s =>
  obtain ⟨g,h1,h2,h3,h4,h5⟩:=e
  obtain ⟨h8,h9⟩:=hb g (by rw [h1];rfl)
  exact ⟨g,by rw [hp i hi];exact h1,by rw [h8];exact h2,h9,h4,fun p hpm=>(h5 p hpm).mono le hn hp⟩
 | mit m since seen st =>
  obtain ⟨g,mo,h1,h2,h3,h4⟩:=e
  obtain ⟨h8,h9⟩:=hb g (by rw [h1];rfl)
  refine ⟨g,mo,by rw [hp i hi];exact h1,by rw [h8];exact h2,h9,?_⟩
  cases m with
  | none=>exact h4
  | some j =>
   obtain ⟨b,h5,h6,h7⟩:=h4
   exact ⟨b,h5,by omega,by rw [hp j h6];exact h7⟩
 | map ag ks vs bs cl =>
  obtain ⟨g,ens,h1,h2,h3,h4,h5,h6⟩:=e
  obtain ⟨h8,h9⟩:=hb g (by rw [h1];rfl)
  exact ⟨g,ens,by rw [hp i hi];exact h1,by rw [h8];exact h2,h9,h4,h5,h6.mono le hn hp⟩
def upd (φ:Nat->Value) (n:Nat) (v:Value):Nat->Value:=fun i=>if i=n then v else φ i
theorem dE {φ:Nat->Value} {n i:Nat} {v:Value} (h:i<n):upd φ n v i=φ i:=by unfold upd;rw [if_neg (by omega)]
theorem aO {φ:Nat->Value} {n:Nat} {v:Value}:upd φ n v n=v:=by unfold upd;rw [if_pos rfl]
theorem fR {T:Tab} {o:Option AObj} {i:Nat} {x:AObj} (e:(T++[o])[i]?=some (some x)):(i<T.length/\T[i]?=some (some x))\/(i=T.length/\o=some x):=by
 rcases Nat.lt_or_ge i T.length with hh | hh
 ·rw [List.getElem?_append_left hh] at e;exact .inl ⟨hh,e⟩
 ·rw [List.getElem?_append_right hh] at e
  have h0:i-T.length=0:=by
   rcases Nat.eq_zero_or_pos (i-T.length) with h | h
   ·exact h
   ·rw [List.getElem?_eq_none (by simp;omega)] at e;simp at e
  rw [h0] at e
  simp at e
  exact .inr ⟨by omega,e⟩
theorem gU {T:Tab} {o:Option AObj} {i j:Nat} {x:AObj} (e:(T.set j o)[i]?=some (some x)):(i=j/\o=some x)\/(i≠j/\T[i]?=some (some x)):=by
 rw [List.getElem?_set] at e
 split at e
 ·rename_i hh
  subst hh
  split at e
  ·injection e with e;exact .inl ⟨rfl,e⟩
  ·simp at e
 ·rename_i hh
  exact .inr ⟨fun h=>hh h.symm,e⟩
theorem nI {h:GH} {φ:Nat->Value} {T:Tab} {w w':World} (hI:Inv h φ w T) (hos:w'.os=w.os) (htp:w'.tape=w.tape) (hout:w'.output=w.output) (hsz:w.heap.size<=w'.heap.size)
  (hb:∀ b,b<w.heap.size->w'.heap[b]?=w.heap[b]?) {o:AObj} {v:Value} (hv:∀ g,blk v=some g->w.heap.size<=g) (ho:sF h (upd φ T.length v) (T.length+1) w' T.length o)
  (hdr:w.drawn<=w'.drawn:=by first | exact Nat.le_refl _ | exact Nat.le_succ _ | assumption) :
  Inv h (upd φ T.length v) w' (T++[some o])/\Evo h φ T w h (upd φ T.length v) (T++[some o]) w':=by
 have old:∀ i x,T[i]?=some (some x)->i<T.length:=by
  intro i x e
  rcases Nat.lt_or_ge i T.length with hh | hh
  ·exact hh
  ·rw [List.getElem?_eq_none hh] at e;simp at e
 refine ⟨⟨?_,?_,?_⟩,⟨hos,htp,hout,hsz,fun b hb' _=>hb b hb',GLe.refl h,fun _ _ e=>.inl e,fun i hi=>dE hi,?_,by simp,hdr⟩⟩
 ·intro b cs e
  obtain ⟨E,fr,hw⟩:=hI.gh b cs e
  exact ⟨E,fr,by rw [hb b (tI hI e)];exact hw⟩
 ·intro i x e
  rcases fR e with ⟨hi,e'⟩ | ⟨rfl,e'⟩
  ·have h1:=hI.obj i x e'
   rw [List.length_append]
   exact nO h1 (GLe.refl h) (by simp) (fun j hj=>dE hj) hi fun g hg=>by
    obtain ⟨h2,h3⟩:=eU h1 hg
    exact ⟨hb g h2,h3⟩
  ·injection e' with e'
   subst e'
   rw [List.length_append]
   exact ho
 ·intro i j oi oj b ei ej hbi hbj
  rcases fR ei with ⟨hi,ei'⟩ | ⟨rfl,ei'⟩<;>rcases fR ej with ⟨hj,ej'⟩ | ⟨rfl,ej'⟩
  ·rw [dE hi] at hbi;rw [dE hj] at hbj
   exact hI.dis i j oi oj b ei' ej' hbi hbj
  ·rw [dE hi] at hbi;rw [aO] at hbj
   have:=(eU (hI.obj i oi ei') hbi).1
   have:=hv b hbj
   omega
  ·rw [aO] at hbi;rw [dE hj] at hbj
   have:=(eU (hI.obj j oj ej') hbj).1
   have:=hv b hbi
   omega
  ·rfl
 ·intro i x b e hbl
  rcases fR e with ⟨hi,e'⟩ | ⟨rfl,e'⟩
  ·rw [dE hi] at hbl
   exact .inr ⟨i,x,e',hbl⟩
  ·rw [aO] at hbl
   exact .inl (hv b hbl)
theorem aBY {h:GH} {φ:Nat->Value} {T:Tab} {w w':World} (hI:Inv h φ w T) (hos:w'.os=w.os) (htp:w'.tape=w.tape) (hout:w'.output=w.output) (hsz:w.heap.size<=w'.heap.size)
  {i:Nat} {o o':AObj} (hi:T[i]?=some (some o)) (hb:∀ b,b<w.heap.size->blk (φ i)≠some b->w'.heap[b]?=w.heap[b]?) (ho:sF h φ T.length w' i o')
  (hdr:w.drawn<=w'.drawn:=by first | exact Nat.le_refl _ | exact Nat.le_succ _ | assumption) :
  Inv h φ w' (T.set i (some o'))/\Evo h φ T w h φ (T.set i (some o')) w':=by
 have hlt:i<T.length:=by
  rcases Nat.lt_or_ge i T.length with hh | hh
  ·exact hh
  ·rw [List.getElem?_eq_none hh] at hi;simp at hi
 refine ⟨⟨?_,?_,?_⟩,⟨hos,htp,hout,hsz,fun b hb' hn=>hb b hb' (hn i o hi),GLe.refl h,fun _ _ e=>.inl e,fun _ _=>rfl,?_,by simp,hdr⟩⟩
 ·intro b cs e
  obtain ⟨E,fr,hw⟩:=hI.gh b cs e
  refine ⟨E,fr,?_⟩
  rw [hb b (tI hI e) fun hbl=>?_]
  ·exact hw
  ·have:=(eU (hI.obj i o hi) hbl).2
   rw [e] at this
   simp at this
 ·intro j x e
  rw [List.length_set]
  rcases gU e with ⟨rfl,e'⟩ | ⟨hne,e'⟩
  ·injection e' with e'
   subst e'
   exact ho
  ·have h1:=hI.obj j x e'
   have hj:j<T.length:=by
    rcases Nat.lt_or_ge j T.length with hh | hh
    ·exact hh
    ·rw [List.getElem?_eq_none hh] at e';simp at e'
   exact nO h1 (GLe.refl h) (Nat.le_refl _) (fun _ _=>rfl) hj fun g hg=>by
    obtain ⟨h2,h3⟩:=eU h1 hg
    exact ⟨hb g h2 fun hbl=>hne (hI.dis j i x o g e' hi hg hbl),h3⟩
 ·intro j k oj ok b ej ek hbj hbk
  have get:∀ {m:Nat} {x:AObj},(T.set i (some o'))[m]?=some (some x)->∃ y,T[m]?=some (some y):=by
   intro m x e
   rcases gU e with ⟨rfl,_⟩ | ⟨_,e'⟩
   ·exact ⟨o,hi⟩
   ·exact ⟨x,e'⟩
  obtain ⟨y,hy⟩:=get ej
  obtain ⟨z,hz⟩:=get ek
  exact hI.dis j k y z b hy hz hbj hbk
 ·intro j x b e hbl
  rcases gU e with ⟨rfl,_⟩ | ⟨_,e'⟩
  ·exact .inr ⟨j,o,hi,hbl⟩
  ·exact .inr ⟨j,x,e',hbl⟩
theorem qT {h:GH} {φ:Nat->Value} {T:Tab} {w:World} (hI:Inv h φ w T) (i:Nat):Inv h φ w (T.set i none)/\Evo h φ T w h φ (T.set i none) w:=by
 have get:∀ {m:Nat} {x:AObj},(T.set i none)[m]?=some (some x)->T[m]?=some (some x):=by
  intro m x e
  rcases gU e with ⟨_,e'⟩ | ⟨_,e'⟩
  ·simp at e'
  ·exact e'
 refine ⟨⟨hI.gh,?_,?_⟩,⟨rfl,rfl,rfl,Nat.le_refl _,fun _ _ _=>rfl,GLe.refl h,fun _ _ e=>.inl e,fun _ _=>rfl,?_,by simp,Nat.le_refl _⟩⟩
 ·intro j x e;rw [List.length_set];exact hI.obj j x (get e)
 ·intro j k x y b e e';exact hI.dis j k x y b (get e) (get e')
 ·intro j x b e hb;exact .inr ⟨j,x,get e,hb⟩
end
section
section
variable {P:Program} {G:Nat->Option (List AV)} {h:GH} {φ:Nat->Value} {T:Tab} {w:World} {s:List (Nat×AV)} {a:Act}
def fE (h:GH) (φ:Nat->Value) (T:Tab) (w:World) (run:Result Value) (x:AV) (T':Tab):Prop :=
 ∃ v w' h' φ',run=.ok v w'/\Evo h φ T w h' φ' T' w'/\Inv h' φ' w' T'/\Rp h' φ' T'.length x v
theorem gF (w:World) (o:Obj) (b:Nat) (h:b<w.heap.size):(w.alloc o).heap[b]?=w.heap[b]?
  := by rw [World.alloc,Array.getElem?_push,if_neg (by omega)]
theorem aSV (hI:Inv h φ w T) {cs:List AV} {us:Array Value} (hr:RpL h φ T.length cs us.toList) (E:TypeId) :
  fE h φ T w (.ok (.pointer (some ⟨w.heap.size,0,none⟩)) (w.alloc (.cells us E))) (.ptr T.length 0) (T++[some (.box cs)]):=by
 have hn:h w.heap.size=none:=by
  cases e:h w.heap.size with
  | none=>rfl
  | some cs=>have:=tI hI e;omega
 have:=nI (w':=w.alloc (.cells us E)) (o:=.box cs) (v:=.pointer (some ⟨w.heap.size,0,none⟩)) hI rfl rfl rfl (by simp) (fun b hb=>gF w _ b hb)
  (fun g hg=>by simp only [blk,Option.some.injEq] at hg;omega)
  ⟨w.heap.size,us,E,aO,heap_alloc_new w _,hn,hr.mono (GLe.refl h) (by omega) fun i hi=>dE hi⟩
 refine ⟨_,_,h,_,rfl,this.2,this.1,?_⟩
 simp only [Rp]
 exact ⟨by simp,w.heap.size,aO,rfl⟩
theorem aUi (hG:GOk G h) (hI:Inv h φ w T) (hS:SOk h φ T.length s a) {E:TypeId} {p:Operand} {x:AV} {T':Tab} (he:hop T (evO G s) (.box p)=some (x,T')) :
  fE h φ T w ((Instr.box E (a.eval p)).run P w) x T':=by
 simp only [hop] at he
 split at he
 ·rename_i hone
  injection he with he;injection he with e1 e2;subst e1;subst e2
  have hr:=xJ (bP hG hS p) (fun c hc=>List.all_eq_true.1 hone c hc)
  have:(Instr.box E (a.eval p)).run P w=.ok (.pointer (some ⟨w.heap.size,0,none⟩)) (w.alloc (.cells (a.eval p).cells E)):=by
   simp [Instr.box,newVar,newRow]
  rw [this]
  exact aSV hI hr E
 ·simp at he
theorem aIA (h:GH) (φ:Nat->Value) (n:Nat):∀ (us:List Value),RpL h φ n (us.map .v) us
 | []=>by simp [RpL]
 | u::us=>by simp only [List.map_cons,RpL];exact ⟨u,us,rfl,by simp [Rp],aIA h φ n us⟩
theorem aPd (hI:Inv h φ w T) {E:TypeId} {i:TypeInfo} {z:Value} (hi:P.info? E=some i) (hz:i.zero=some z) {ev:Operand->AV} {x:AV} {T':Tab} (he:hop T ev (.alloc z.cells.toList)=some (x,T')) :
  fE h φ T w ((Instr.alloc E true (.tuple #[])).run P w) x T':=by
 simp only [hop] at he
 injection he with he;injection he with e1 e2;subst e1;subst e2
 have:(Instr.alloc E true (.tuple #[])).run P w=.ok (.pointer (some ⟨w.heap.size,0,none⟩)) (w.alloc (.cells z.cells E)):=by
  simp [Instr.alloc,zeroValue,typeInfo,hi,hz,newVar,newRow]
 rw [this]
 exact aSV hI (by simpa using aIA h φ T.length z.cells.toList) E
theorem aW3 (vs:Array Value) (off:Nat) (cs:Array Value) (hl:off+vs.size<=cs.size) :
  (vs.zipIdx.foldl (fun cs (c,j)=>cs.setIfInBounds (off+j) c) cs).toList=cs.toList.take off++vs.toList++cs.toList.drop (off+vs.size):=by
 have key:∀ (l:List Value) (k:Nat) (cs:Array Value),off+k+l.length<=cs.size ->
   ((l.zipIdx k).foldl (fun (cs:Array Value) (p:Value×Nat)=>cs.setIfInBounds (off+p.2) p.1) cs).toList=cs.toList.take (off+k)++l++cs.toList.drop (off+k+l.length):=by
  intro l
  induction l with
  | nil=>intro k cs _;simp
  | cons v l ih =>
   intro k cs hc
   simp only [List.length_cons] at hc
   simp only [List.zipIdx_cons,List.foldl_cons]
   rw [ih (k+1) _ (by simp;omega)]
   have:=list_seg_step cs.toList (off+k) v l (by simp;omega)
   simpa [Array.toList_setIfInBounds,Nat.add_assoc] using this
 have:=key vs.toList 0 cs (by simpa using hl)
 rw [<-Array.foldl_toList,Array.toList_zipIdx]
 simpa using this
def aNS (a:Act) (l:List (Nat×Nat×Operand)):List (Nat×Nat×Value):=l.map fun p=>(p.1,p.2.1,a.eval p.2.2)
def aUj (cells:List Value):List (Nat×Nat×Value)->Option (List Value)
 | []=>some cells
 | (off,n,x)::r=>if x.cells.size=n/\off+n<=cells.length then aUj (cells.take off++x.cells.toList++cells.drop (off+n)) r else none
theorem aRf (hG:GOk G h) (hS:SOk h φ T.length s a):∀ (l:List (Nat×Nat×Operand)) {cells:List AV} {us:List Value} {cs:List AV},RpL h φ T.length cells us ->
  aFf cells (l.map fun p=>(p.1,p.2.1,evO G s p.2.2))=some cs->∃ vs,aUj us (aNS a l)=some vs/\RpL h φ T.length cs vs
 | [],cells,us,cs,hr,e=>by
  simp only [List.map_nil,aFf,Option.some.injEq] at e
  subst e
  exact ⟨us,rfl,hr⟩
 | p::l,cells,us,cs,hr,e=>by
  simp only [List.map_cons,aFf] at e
  split at e
  ·rename_i hc
   have hx:=xJ (bP hG hS p.2.2) (fun c hc'=>List.all_eq_true.1 hc.2.2 c hc')
   have hl:=hx.length
   have hrl:=hr.length
   simp only [aNS,List.map_cons,aUj]
   rw [if_pos ⟨by simp only [Array.length_toList] at hl;omega,by omega⟩]
   exact aRf hG hS l (((hr.take _).app hx).app (hr.drop _)) e
  ·simp at e
theorem aNT {place:Nat->Option (Nat×Nat)} (pl:Nat->Nat×Nat):∀ (l:List (Nat×Value)) (cells:Array Value) (vs:List Value),
  (∀ p∈l,place p.1=some (pl p.1))->aUj cells.toList (l.map fun p=>((pl p.1).1,(pl p.1).2,p.2))=some vs->Instr.fill place cells l=some vs.toArray
 | [],cells,vs,_,e=>by
  simp only [List.map_nil,aUj,Option.some.injEq] at e
  subst e
  simp [Instr.fill]
 | (i,v)::l,cells,vs,hf,e=>by
  have hp:=hf (i,v) (by simp)
  simp only [List.map_cons,aUj] at e
  split at e
  ·rename_i hc
   simp only [Array.length_toList] at hc
   simp only [Instr.fill,hp]
   rw [if_neg (by simp;omega)]
   refine aNT pl l _ vs (fun p hp=>hf p (by simp [hp])) ?_
   rw [aW3 _ _ _ (by omega),hc.1]
   exact e
  ·simp at e
theorem aMu (n:Nat):∀ (l:List (Nat×Operand)),aFk n l=l.map fun p=>(p.1*n,n,p.2)
 | []=>rfl
 | (i,x)::l=>by simp [aFk,aMu n l]
def plB (P:Program) (fs:List Field) (i:Nat):Nat×Nat:=match fs[i]? with | some f=>(f.offset,(kL P f.type).getD 0) | none=>(0,0)
theorem aMv {fs:List Field}:∀ {l:List (Nat×Operand)} {r:List (Nat×Nat×Operand)},aFj P fs l=some r ->
  r=(l.map fun p=>((plB P fs p.1).1,(plB P fs p.1).2,p.2))/\∀ p∈l,∃ f n,fs[p.1]?=some f/\kL P f.type=some n/\plB P fs p.1=(f.offset,n)
 | [],r,e=>by simp only [aFj,Option.some.injEq] at e;subst e;simp
 | (i,x)::l,r,e=>by
  simp only [aFj] at e
  split at e
  ·simp at e
  ·rename_i f hf
   split at e
   ·rename_i n l' hn hl
    injection e with e
    obtain ⟨h1,h2⟩:=aMv hl
    have hp:plB P fs i=(f.offset,n):=by simp [plB,hf,hn]
    subst h1
    subst e
    refine ⟨by simp [hp],fun p hp'=>?_⟩
    rcases List.mem_cons.1 hp' with rfl | hp'
    ·exact ⟨f,n,hf,hn,hp⟩
    ·exact h2 p hp'
   ·simp at e
theorem aPe (fs:List Field) (hs:∀ f∈fs,(kL P f.type).isSome=true) :
  (fs.mapM fun f=>do pure (f.offset,<-Go.sizeOf f.type):Sem (List (Nat×Nat))).run P w=.ok (fs.map fun f=>(f.offset,(kL P f.type).getD 0)) w:=by
 induction fs with
 | nil=>simp
 | cons f fs ih =>
  obtain ⟨n,hn⟩:=Option.isSome_iff_exists.1 (hs f (by simp))
  rw [List.mapM_cons]
  simp only [Sem.run_bind,lJ hn,Result.andThen_ok,Sem.run_pure,ih fun f hf=>hs f (by simp [hf]),List.map_cons,hn,Option.getD_some]
theorem aRg {t:TypeId} {fs:Array Field} (ht:P.underlying t=some (.struct fs)) {i:TypeInfo} (hi:P.info? t=some i) {z:Value} (hz:i.zero=some z) {parts:Array (Nat×Operand)} {l:List (Nat×Nat×Operand)}
  (hl:aFj P fs.toList parts.toList=some l) (hfs:fs.toList.all (fun f=>(kL P f.type).isSome)=true) (hG:GOk G h) (hS:SOk h φ T.length s a) {x:AV} {T':Tab}
  (he:hop T (evO G s) (.bld z.cells.toList l)=some (x,T')) :
  T'=T/\∃ v,(Instr.build t (parts.map fun (i,x)=>(i,a.eval x))).run P w=.ok v w/\Rp h φ T.length x v:=by
 simp only [hop] at he
 split at he
 ·rename_i cs hcs
  injection he with he;injection he with e1 e2;subst e1;subst e2
  obtain ⟨vs,h1,h2⟩:=aRf hG hS l (aIA h φ T.length z.cells.toList) hcs
  obtain ⟨h3,h4⟩:=aMv hl
  have hpl:=aPe (P:=P) (w:=w) fs.toList (fun f hf=>List.all_eq_true.1 hfs f hf)
  have hfill:=aNT (place:=fun i=>(fs.toList.map fun f=>(f.offset,(kL P f.type).getD 0)).toArray[i]?) (plB P fs.toList) (parts.toList.map fun p=>(p.1,a.eval p.2)) z.cells vs
   (fun p hp=>by
    obtain ⟨q,hq,rfl⟩:=List.mem_map.1 hp
    obtain ⟨f,n,hf,hn,hb⟩:=h4 q hq
    simp [hf,hb,hn]) (by rw [<-h1,h3];simp [aNS,List.map_map,Function.comp_def])
  refine ⟨rfl,.agg vs.toArray,?_,by simp only [Rp];exact ⟨_,rfl,by simpa using h2⟩⟩
  have hm:(fs.mapM fun f=>do pure (f.offset,<-Go.sizeOf f.type):Sem (Array (Nat×Nat))).run P w=.ok (fs.toList.map fun f=>(f.offset,(kL P f.type).getD 0)).toArray w:=by
   rw [Array.mapM_eq_mapM_toList]
   simp only [Sem.run_map,hpl,Result.andThen_ok]
  simp only [Instr.build,Sem.run_bind,zeroValue,typeInfo,run_program,Result.andThen_ok,hi,Sem.run_pure,hz,run_underlying ht,hm]
  simp only [Array.toList_map]
  rw [hfill]
  rfl
 ·simp at he
end
end
section
theorem aGn {k:Nat}:∀ (n:Nat) (cs:List AV),cs.length=n*k->(oQ k n cs).flatten=cs/\(oQ k n cs).length=n/\∀ e∈oQ k n cs,e.length=k
 | 0,cs,hl=>by
  have:cs=[]:=List.eq_nil_of_length_eq_zero (by simpa using hl)
  subst this
  simp [oQ]
 | n+1,cs,hl=>by
  rw [Nat.succ_mul] at hl
  obtain ⟨h1,h2,h3⟩:=aGn (k:=k) n (cs.drop k) (by rw [List.length_drop];omega)
  refine ⟨by simp [oQ,h1],by simp [oQ,h2],fun e he=>?_⟩
  simp only [oQ,List.mem_cons] at he
  rcases he with rfl | he
  ·rw [List.length_take];omega
  ·exact h3 e he
theorem aUk {h:GH} {φ:Nat->Value} {n:Nat}:∀ {x:AV} {u:Value},Rp h φ n x u->aP x=true->RpD h x u
 | .v _,u,e,_=>by simpa [Rp,RpD] using e
 | .ls k es,u,e,_=>by simpa only [Rp] using e
 | .ag _,_,_,hc=>by simp [aP] at hc
 | .own _,_,_,hc=>by simp [aP] at hc
 | .ptr _ _,_,_,hc=>by simp [aP] at hc
 | .elt _ _ _ _,_,_,hc=>by simp [aP] at hc
 | .vw _ _ _ _,_,_,hc=>by simp [aP] at hc
 | .mp _,_,_,hc=>by simp [aP] at hc
 | .yl _,_,_,hc=>by simp [aP] at hc
 | .rp _,_,_,hc=>by simp [aP] at hc
 | .cl _ _,_,_,hc=>by simp [aP] at hc
 | .bm _ _ _,_,_,hc=>by simp [aP] at hc
 | .tup _,_,_,hc=>by simp [aP] at hc
 | .any,_,_,hc=>by simp [aP] at hc
theorem aRh {h:GH} {φ:Nat->Value} {n:Nat} {cs:List AV} {us:List Value} (e:RpL h φ n cs us) (hc:∀ c∈cs,aP c=true):bC h cs us :=
 bC.mk e.length fun i c u hi hu=>by
  obtain ⟨u',h1,h2⟩:=e.get hi
  rw [hu] at h1
  injection h1 with h1
  subst h1
  exact aUk h2 (hc c (List.mem_of_getElem? hi))
theorem aDX (z:List Value):∀ n,(aDV z n).length=n*z.length
 | 0=>by simp [aDV]
 | n+1=>by simp [aDV,aDX z n,Nat.succ_mul];omega
theorem aIB (z:List Value) (hz:0<z.length):∀ (n i:Nat),i<n*z.length->(aDV z n)[i]?=z[i%z.length]?
 | 0,i,hi=>by simp at hi
 | n+1,i,hi=>by
  simp only [aDV]
  by_cases hlt:i<z.length
  ·rw [List.getElem?_append_left hlt,Nat.mod_eq_of_lt hlt]
  ·rw [List.getElem?_append_right (by omega),aIB z hz n (i-z.length) (by rw [Nat.add_mul,Nat.one_mul] at hi;omega)]
   congr 1
   exact (Nat.mod_eq_sub_mod (by omega)).symm
theorem aMw (z:Array Value) (hz:0<z.size) (n:Nat):((Array.range (n*z.size)).map fun i=>z[i%z.size]!).toList=aDV z.toList n:=by
 apply List.ext_getElem?
 intro i
 rcases Nat.lt_or_ge i (n*z.size) with hi | hi
 ·rw [aIB z.toList (by simpa using hz) n i (by simpa using hi)]
  have hm:i%z.size<z.size:=Nat.mod_lt _ hz
  simp [hi,hm]
 ·rw [List.getElem?_eq_none (by simp;omega),List.getElem?_eq_none (by rw [aDX];simpa using hi)]
theorem bC.app {h:GH} {cs ds:List AV} {us vs:List Value} (a:bC h cs us) (b:bC h ds vs):bC h (cs++ds) (us++vs):=by
 induction cs generalizing us with
 | nil=>simp only [bC] at a;subst a;simpa using b
 | cons c cs ih =>
  simp only [bC] at a
  obtain ⟨u,us',rfl,h1,h2⟩:=a
  simp only [List.cons_append,bC]
  exact ⟨u,us'++vs,rfl,h1,ih h2⟩
theorem bC.take {h:GH} {cs:List AV} {us:List Value} (a:bC h cs us) (m:Nat):bC h (cs.take m) (us.take m):=by simpa using a.sub 0 m
theorem bC.drop {h:GH} {cs:List AV} {us:List Value} (a:bC h cs us) (m:Nat):bC h (cs.drop m) (us.drop m):=by
 have:=a.sub m cs.length
 rwa [List.take_of_length_le (by simp),List.take_of_length_le (by rw [List.length_drop,a.length];omega)] at this
theorem aPf {k:Nat}:∀ {es:List (List AV)},(∀ e∈es,e.length=k)->∀ {j:Nat} {e:List AV},es[j]?=some e->∀ {off n:Nat} {x:List AV},off+n<=k ->
  (es.set j (e.take off++x++e.drop (off+n))).flatten=es.flatten.take (j*k+off)++x++es.flatten.drop (j*k+off+n)
 | [],_,j,e,hj,_,_,_,_=>by simp at hj
 | d::es,hl,j,e,hj,off,n,x,hle=>by
  have hd:=hl d (by simp)
  cases j with
  | zero =>
   simp only [List.getElem?_cons_zero,Option.some.injEq] at hj
   subst hj
   simp only [List.set_cons_zero,List.flatten_cons,Nat.zero_mul,Nat.zero_add]
   rw [List.take_append_of_le_length (by omega),List.drop_append_of_le_length (by omega)]
   simp [List.append_assoc]
  | succ j =>
   simp only [List.getElem?_cons_succ] at hj
   simp only [List.set_cons_succ,List.flatten_cons]
   rw [aPf (fun e he=>hl e (by simp [he])) hj hle]
   have e1:(j+1)*k+off=d.length+(j*k+off):=by rw [Nat.add_mul,Nat.one_mul,hd];omega
   rw [e1,Nat.add_assoc d.length,List.take_length_add_append,List.drop_length_add_append]
   simp [List.append_assoc]
theorem aPg {α:Type} (L vals:List α) (p n m:Nat) (h1:p+n<=m) (h2:m<=L.length) (hv:vals.length=n) :
  (L.take p++vals++L.drop (p+n)).take m=(L.take m).take p++vals++(L.take m).drop (p+n):=by
 rw [List.take_append,List.take_of_length_le (by simp;omega),List.drop_take,List.take_take]
 congr 2
 ·congr 1;omega
 ·simp;omega
section
variable {P:Program} {G:Nat->Option (List AV)} {h:GH} {φ:Nat->Value} {T:Tab} {w:World} {s:List (Nat×AV)} {a:Act}
theorem aBZ (hI:Inv h φ w T):h w.heap.size=none:=by
 cases e:h w.heap.size with
 | none=>rfl
 | some cs=>have:=tI hI e;omega
theorem RpB.mono {h h':GH} {φ φ':Nat->Value} {n n':Nat} {b:Bool} {cs:List AV} {us:List Value} (g:GLe h h') (hn:n<=n') (hp:∀ i,i<n->φ' i=φ i) (a:RpB h φ n b cs us):RpB h' φ' n' b cs us:=by
 cases b with
 | true=>exact bC.mono g a
 | false=>exact RpL.mono g hn hp a
theorem RpB.app {h:GH} {φ:Nat->Value} {n:Nat} {b:Bool} {cs ds:List AV} {us vs:List Value} (x:RpB h φ n b cs us) (y:RpB h φ n b ds vs):RpB h φ n b (cs++ds) (us++vs):=by
 cases b with
 | true=>exact bC.app x y
 | false=>exact RpL.app x y
theorem RpB.take {h:GH} {φ:Nat->Value} {n:Nat} {b:Bool} {cs:List AV} {us:List Value} (x:RpB h φ n b cs us) (m:Nat):RpB h φ n b (cs.take m) (us.take m):=by
 cases b with
 | true=>exact bC.take x m
 | false=>exact RpL.take x m
theorem RpB.drop {h:GH} {φ:Nat->Value} {n:Nat} {b:Bool} {cs:List AV} {us:List Value} (x:RpB h φ n b cs us) (m:Nat):RpB h φ n b (cs.drop m) (us.drop m):=by
 cases b with
 | true=>exact bC.drop x m
 | false=>exact RpL.drop x m
theorem RpB.length {h:GH} {φ:Nat->Value} {n:Nat} {b:Bool} {cs:List AV} {us:List Value} (x:RpB h φ n b cs us):cs.length=us.length:=by
 cases b with
 | true=>exact bC.length x
 | false=>exact RpL.length x
theorem RpB.of {h:GH} {φ:Nat->Value} {n:Nat} {b:Bool} {cs:List AV} {us:List Value} (e:RpL h φ n cs us) (hc:∀ c∈cs,okC b c=true):RpB h φ n b cs us:=by
 cases b with
 | true=>exact aRh e hc
 | false=>exact e
theorem RpB.weaken {h:GH} {φ:Nat->Value} {n:Nat} {b c:Bool} {cs:List AV} {us:List Value} (x:RpB h φ n b cs us) (hbc:c=true->b=true):RpB h φ n c cs us:=by
 cases c with
 | true=>rw [hbc rfl] at x;exact x
 | false=>exact x.toL
theorem lK {b c:Bool} {x:AV} (hx:okC b x=true) (hbc:c=true->b=true):okC c x=true:=by
 cases c with
 | true=>rw [hbc rfl] at hx;exact hx
 | false=>exact aHU hx
theorem mW (hI:Inv h φ w T) {w1:World} (h1:w1.heap=w.heap) (hos:w1.os=w.os) (htp:w1.tape=w.tape) (hout:w1.output=w.output) {b:Bool} {k n c:Nat} {es:List (List AV)} (hes:∀ e∈es,e.length=k/\∀ c∈e,okC b c=true) (hn:es.length=n) {cur:Array Value} (hc:n<=c) (hcm:c<=maxLen) (hcs:cur.size=c*k)
  (hr:RpB h φ T.length b es.flatten (cur.toList.take (n*k))) (E:TypeId) (hdr:w.drawn<=w1.drawn:=by first | exact Nat.le_refl _ | exact Nat.le_succ _ | assumption) :
  fE h φ T w (.ok (.slice (some ⟨w.heap.size,0,none⟩) n c) (w1.alloc (.cells cur E))) (.own T.length) (T++[some (eR b k es)]):=by
 subst hn
 have hsz:w1.heap.size=w.heap.size:=by rw [h1]
 have hnew:(w1.alloc (.cells cur E)).heap[w.heap.size]?=some (.cells cur E (0,0)):=by rw [<-hsz];exact heap_alloc_new w1 _
 have:=nI (w':=w1.alloc (.cells cur E)) (o:=eR b k es) (v:=.slice (some ⟨w.heap.size,0,none⟩) es.length c) hI hos htp hout (by simp [hsz]) (fun b hb=>by rw [gF w1 _ b (by omega),h1])
  (fun g hg=>by
   cases c with
   | zero=>simp [blk] at hg
   | succ c=>simp only [blk,Option.some.injEq] at hg;omega)
  (iW.2 (by
   cases c with
   | zero=>exact ⟨hes,.inl ⟨_,by rw [aO,Nat.le_zero.1 hc],List.eq_nil_of_length_eq_zero (Nat.le_zero.1 hc)⟩⟩
   | succ c=>exact ⟨hes,.inr ⟨w.heap.size,c,cur,E,aO,hnew,hc,hcm,hcs,aBZ hI,hr.mono (GLe.refl h) (by omega) fun i hi=>dE hi⟩⟩))
 refine ⟨_,_,h,_,rfl,this.2,this.1,?_⟩
 simp only [Rp]
 exact ⟨by simp,aO.symm,_,_,_,rfl⟩
theorem aSW (hI:Inv h φ w T) {w1:World} (h1:w1.heap=w.heap) (hos:w1.os=w.os) (htp:w1.tape=w.tape) (hout:w1.output=w.output) {k n c:Nat} {es:List (List AV)} (hes:∀ e∈es,e.length=k/\∀ c∈e,aP c=true) (hn:es.length=n) {cur:Array Value} (hc:n<=c) (hcm:c<=maxLen) (hcs:cur.size=c*k)
  (hr:bC h es.flatten (cur.toList.take (n*k))) (E:TypeId) (hdr:w.drawn<=w1.drawn:=by first | exact Nat.le_refl _ | exact Nat.le_succ _ | assumption) :
  fE h φ T w (.ok (.slice (some ⟨w.heap.size,0,none⟩) n c) (w1.alloc (.cells cur E))) (.own T.length) (T++[some (.arr k es)]):=mW (b:=true) hI h1 hos htp hout hes hn hc hcm hcs hr E hdr
theorem aUl {t e:TypeId} (ht:P.underlying t=some (.slice e)) {i:TypeInfo} (hi:P.info? e=some i) {z:Value} (hz:i.zero=some z) (hzs:z.cells.size=i.size) (h0:0<i.size) {len:Nat} (hlen:len*i.size<=2^20) (hpos:0<len) {parts:Array (Nat×Operand)}
  (hG:GOk G h) (hI:Inv h φ w T) (hS:SOk h φ T.length s a) {x:AV} {T':Tab}
  (he:hop T (evO G s) (.bsl i.size (aDV z.cells.toList len) (aFk i.size parts.toList) len)=some (x,T')) :
  fE h φ T w ((Instr.buildSlice t len (parts.map fun (i,x)=>(i,a.eval x))).run P w) x T':=by
 simp only [hop] at he
 split at he
 ·rename_i cs hcs
  obtain ⟨b,hcl,hx⟩:∃ b:Bool,(∀ c∈cs,okC b c=true)/\(some (AV.own T.length,T++[some (eR b i.size (oQ i.size len cs))])=some (x,T')):=by
   split at he
   ·rename_i hcl;exact ⟨true,fun c hc=>List.all_eq_true.1 hcl c hc,he⟩
   ·split at he
    ·rename_i hcl;exact ⟨false,fun c hc=>List.all_eq_true.1 hcl c hc,he⟩
    ·simp at he
  clear he
  have he:=hx
  ·injection he with he;injection he with e1 e2;subst e1;subst e2
   obtain ⟨vs,h1,h2⟩:=aRf hG hS (aFk i.size parts.toList) (aIA h φ T.length (aDV z.cells.toList len)) hcs
   have hrange:=aMw z.cells (by omega) len
   have hfill:=aNT (place:=fun j=>some (j*i.size,i.size)) (fun j=>(j*i.size,i.size)) (parts.toList.map fun p=>(p.1,a.eval p.2)) ((Array.range (len*z.cells.size)).map fun j=>z.cells[j%z.cells.size]!) vs (fun p _=>rfl)
    (by rw [hrange,<-h1,aMu];simp [aNS,List.map_map,Function.comp_def])
   have hl:cs.length=len*i.size:=by
    have lay_len:∀ (l:List (Nat×Nat×AV)) (cells cs:List AV),aFf cells l=some cs->cs.length=cells.length:=by
     intro l
     induction l with
     | nil=>intro cells cs e;simp only [aFf,Option.some.injEq] at e;rw [e]
     | cons p l ih =>
      intro cells cs e
      obtain ⟨off,n,y⟩:=p
      simp only [aFf] at e
      split at e
      ·rename_i hc
       rw [ih _ _ e]
       simp only [List.length_append,List.length_take,List.length_drop]
       omega
      ·simp at e
    rw [lay_len _ _ _ hcs,List.length_map,aDX,Array.length_toList,hzs]
   obtain ⟨g1,g2,g3⟩:=aGn len cs hl
   have hvl:=h2.length
   have hrun:(Instr.buildSlice t len (parts.map fun (i,x)=>(i,a.eval x))).run P w=.ok (.slice (some ⟨w.heap.size,0,none⟩) len len) (w.alloc (.cells vs.toArray e)):=by
    have hne:¬(len*i.size=0):=by
     have:=Nat.mul_pos hpos h0;omega
    have hsz:¬(16777216<len*i.size):=by omega
    rw [hzs] at hfill
    simp only [Instr.buildSlice,Sem.run_bind,run_underlying ht,Result.andThen_ok,Go.sizeOf,typeInfo,run_program,hi,Sem.run_pure,zeroValue,hz]
    simp only [Sem.run_ite,hne,if_false,gt_iff_lt,Nat.reducePow,hsz,Sem.run_bind,run_program,Result.andThen_ok,hi,hz,Sem.run_pure,Array.toList_map,hzs]
    simp [hfill,newRow]
   rw [hrun]
   have hlm:len<=maxLen:=by
    have h':len<=len*i.size:=Nat.le_mul_of_pos_right _ h0
    unfold maxLen;omega
   have hvs:vs.toArray.size=len*i.size:=by rw [List.size_toArray];omega
   refine mW hI rfl rfl rfl rfl (fun d hd=>⟨g3 d hd,fun c hc=>hcl c (by rw [<-g1];exact List.mem_flatten.2 ⟨d,hd,hc⟩)⟩) g2 (Nat.le_refl _) hlm hvs ?_ e
   rw [g1]
   have:(vs.toArray.toList.take (len*i.size))=vs:=List.take_of_length_le (by show vs.length<=_;rw [<-hvl,hl];exact Nat.le_refl _)
   rw [this]
   exact RpB.of h2 hcl
 ·simp at he
theorem aNU {i:Nat} {o o':AObj} (hI:Inv h φ w T) (hi:T[i]?=some (some o)) {g:Nat} {cur new:Array Value} {E:TypeId} (hw:w.heap[g]?=some (.cells cur E (0,0))) (hbl:blk (φ i)=some g)
  (ho:sF h φ T.length (w.setRow g new) i o'):Inv h φ (w.setRow g new) (T.set i (some o'))/\Evo h φ T w h φ (T.set i (some o')) (w.setRow g new) :=
 aBY (w':=w.setRow g new) hI rfl rfl rfl (by simp) hi (fun b _ hne=>setRow_other w g b new fun e=>hne (by rw [hbl,e])) ho
theorem aW4 {t:TypeId} {n:Nat} (ht:kL P t=some n) (hG:GOk G h) (hI:Inv h φ w T) (hS:SOk h φ T.length s a) {p q:Operand} {x:AV} {T':Tab} (he:hop T (evO G s) (.st n p q)=some (x,T')) :
  ∃ w',(Instr.storeAt t (a.eval p) (a.eval q)).run P w=.ok () w'/\x=.v undef/\Evo h φ T w h φ T' w'/\Inv h φ w' T':=by
 have hp:=bP hG hS p
 have run:∀ (g o:Nat) (cur:Array Value) (E:TypeId),w.heap[g]?=some (.cells cur E (0,0))->(∀ c∈bR (evO G s q),gM c=true)->(bR (evO G s q)).length=n->o+n<=cur.size ->
   (Instr.storeAt t (.pointer (some ⟨g,o,none⟩)) (a.eval q)).run P w=.ok () (w.setRow g (cur.toList.take o++(a.eval q).cells.toList++cur.toList.drop (o+n)).toArray):=by
  intro g o cur E hw hone hlen hle
  have hx:=xJ (bP hG hS q) hone
  have hl:=hx.length
  rw [hlen] at hl
  have h1:∀ v∈(a.eval q).cells.toList,v.oneCell'=true:=by
   intro v hv
   obtain ⟨j,hj⟩:=List.getElem?_of_mem hv
   have hjl:j<(bR (evO G s q)).length:=by
    rw [hx.length]
    rcases Nat.lt_or_ge j (a.eval q).cells.toList.length with hh | hh
    ·exact hh
    ·rw [List.getElem?_eq_none hh] at hj;simp at hj
   obtain ⟨u,h2,h3⟩:=hx.get (List.getElem?_eq_getElem hjl)
   rw [hj] at h2
   injection h2 with h2
   subst h2
   exact aHT h3 (hone _ (List.getElem_mem hjl))
  have:=run_storeCells_at P g o E (a.eval q).cells.toList 0 cur w hw (by omega) h1
  have hsz:(a.eval q).cells.size=n:=by rw [<-Array.length_toList];exact hl.symm
  simp only [Nat.add_zero] at this
  rw [<-hl] at this
  simp [Instr.storeAt,Instr.sureAddr,storeVar,lJ ht,hsz,this]
 simp only [hop] at he
 split at he
 ·rename_i i off hev
  rw [hev] at hp;simp only [Rp] at hp
  obtain ⟨_,g,hφ,hu⟩:=hp
  split at he
  ·rename_i cs hg
   split at he
   ·rename_i hc
    obtain ⟨c1,c2,c3⟩:=hc
    injection he with he;injection he with e1 e2;subst e1;subst e2
    obtain ⟨g',us,E,hφ',hw,hgh,hr⟩:=aMr hI hg
    rw [hφ] at hφ'
    injection hφ' with hφ';injection hφ' with hφ';injection hφ' with hφ'
    subst hφ'
    have hone:∀ c∈bR (evO G s q),gM c=true:=fun c hc=>List.all_eq_true.1 c3 c hc
    have hrl:=hr.length
    rw [hu,run g off us E hw hone c1 (by simp only [Array.length_toList] at hrl;omega)]
    have hx:=xJ (bP hG hS q) hone
    have:=aNU (o':=.box (cs.take off++bR (evO G s q)++cs.drop (off+n))) hI (aN hg) hw (by rw [hφ];rfl)
     (new:=(us.toList.take off++(a.eval q).cells.toList++us.toList.drop (off+n)).toArray)
     ⟨g,_,E,hφ,setRow_heap w g us _ E _ hw,hgh,by simpa using ((hr.take off).app hx).app (hr.drop (off+n))⟩
    exact ⟨_,rfl,rfl,this.2,this.1⟩
   ·simp at he
  ·simp at he
 ·rename_i i k j off hev
  rw [hev] at hp;simp only [Rp] at hp
  obtain ⟨_,g,l,c,hφ,hu⟩:=hp
  split at he
  ·rename_i k' es b hg
   split at he
   ·rename_i hk
    subst hk
    split at he
    ·rename_i e hj
     split at he
     ·rename_i hc
      obtain ⟨c1,c2,c3⟩:=hc
      injection he with he;injection he with e1 e2;subst e1;subst e2
      have hclosed:∀ c∈bR (evO G s q),okC b c=true:=fun c hc=>List.all_eq_true.1 c3 c hc
      have hone:∀ c∈bR (evO G s q),gM c=true:=fun c hc=>aHU (hclosed c hc)
      obtain ⟨hl0,h1 | ⟨g',c',cur,E,hφ',hw,h2,h3,h4,h5,h6⟩⟩:=lZ hI hg
      ·rw [h1.choose_spec.2] at hj;simp at hj
      ·rw [hφ] at hφ'
       injection hφ' with hφ' hl1 hc1;injection hφ' with hφ';injection hφ' with hφ'
       subst hφ';subst hc1
       have hl:∀ e∈es,e.length=k:=fun e he=>(hl0 e he).1
       have hjl:j<es.length:=by
        rcases Nat.lt_or_ge j es.length with hh | hh
        ·exact hh
        ·simp [List.getElem?_eq_none hh] at hj
       have hel:e.length=k:=hl e (List.mem_of_getElem? hj)
       have hjk:(j+1)*k<=es.length*k:=Nat.mul_le_mul_right k hjl
       have hck:es.length*k<=(c'+1)*k:=Nat.mul_le_mul_right k h2
       rw [Nat.succ_mul] at hjk
       rw [hu,run g _ cur E hw hone c1 (by omega)]
       have hx:=RpB.of (b:=b) (xJ (bP hG hS q) hone) hclosed
       have hflat:=aPf (x:=bR (evO G s q)) hl hj (off:=off) (n:=n) (by omega)
       have hnl:∀ d∈es.set j (e.take off++bR (evO G s q)++e.drop (off+n)),d.length=k/\∀ c∈d,okC b c=true:=by
        intro d hd
        rcases List.mem_or_eq_of_mem_set hd with hd | rfl
        ·exact hl0 d hd
        ·refine ⟨by simp only [List.length_append,List.length_take,List.length_drop];omega,fun c hc=>?_⟩
         have he0:=(hl0 e (List.mem_of_getElem? hj)).2
         simp only [List.mem_append] at hc
         rcases hc with (hc | hc) | hc
         ·exact he0 c (List.mem_of_mem_take hc)
         ·exact hclosed c hc
         ·exact he0 c (List.mem_of_mem_drop hc)
       have hxl:=hx.length
       have hcl:(a.eval q).cells.toList.length=n:=by omega
       have h6l:=h6.length
       rw [tH hl] at h6l
       have hcur:es.length*k<=cur.toList.length:=by rw [show cur.toList.length=cur.size from Array.length_toList,h4];exact hck
       have hpm:j*k+off+n<=es.length*k:=by omega
       have hnew:(cur.toList.take (j*k+off)++(a.eval q).cells.toList++cur.toList.drop (j*k+off+n)).length=(c'+1)*k:=by
        have e1:cur.toList.length=(c'+1)*k:=by rw [show cur.toList.length=cur.size from Array.length_toList,h4]
        simp only [List.length_append,List.length_take,List.length_drop,hcl]
        omega
       have:=aNU (o':=eR b k (es.set j (e.take off++bR (evO G s q)++e.drop (off+n)))) hI (aN (yU hg)) hw (by rw [hφ];rfl)
        (new:=(cur.toList.take (j*k+off)++(a.eval q).cells.toList++cur.toList.drop (j*k+off+n)).toArray)
        (iW.2 ⟨hnl,.inr ⟨g,c',_,E,by rw [hφ,List.length_set,hl1],setRow_heap w g cur _ E _ hw,by rw [List.length_set];omega,by omega,by
         rw [List.size_toArray];exact hnew,h5,by
         rw [hflat,List.length_set]
         have:=aPg cur.toList (a.eval q).cells.toList (j*k+off) n (es.length*k) hpm hcur hcl
         show RpB h φ T.length b _ (List.take _ (cur.toList.take (j*k+off)++(a.eval q).cells.toList++cur.toList.drop (j*k+off+n)))
         rw [this]
         exact ((h6.take _).app hx).app (h6.drop _)⟩⟩)
       exact ⟨_,rfl,rfl,this.2,this.1⟩
     ·simp at he
    ·simp at he
   ·simp at he
  ·simp at he
 ·simp at he
end
end
section
theorem fU.vals {h:GH} {b k:Nat}:∀ {es:List (List AV)} {o:Nat},fU h b k es o ->
  (∀ e∈es,e.length=k/\∀ c∈e,aP c=true)/\∃ us,bC h es.flatten us/\∀ j u,us[j]?=some u->mH h b (o+j)=some u
 | [],o,_=>⟨by simp,[],by simp [bC],fun j u hj=>by simp at hj⟩
 | e::es,o,hh=>by
  simp only [fU] at hh
  obtain ⟨h1,h2,h3⟩:=hh
  obtain ⟨us,h4,h5⟩:=h2.vals
  obtain ⟨h6,vs,h7,h8⟩:=h3.vals
  refine ⟨fun d hd=>?_,us++vs,by rw [List.flatten_cons];exact h4.app h7,fun j u hj=>?_⟩
  ·rcases List.mem_cons.1 hd with rfl | hd
   ·refine ⟨h1,fun c hc=>?_⟩
    obtain ⟨i,hi⟩:=List.getElem?_of_mem hc
    exact (h2.get hi).choose_spec.1
   ·exact h6 d hd
  ·have hl:=h4.length
   rcases Nat.lt_or_ge j us.length with hlt | hge
   ·rw [List.getElem?_append_left hlt] at hj;exact h5 j u hj
   ·rw [List.getElem?_append_right hge] at hj
    have:=h8 _ _ hj
    rw [<-this]
    congr 1
    omega
section
variable {P:Program} {G:Nat->Option (List AV)} {h:GH} {φ:Nat->Value} {T:Tab} {w:World} {s:List (Nat×AV)} {a:Act}
theorem aFl {α:Type} {k:Nat}:∀ {es:List (List α)},(∀ e∈es,e.length=k)->∀ (l:Nat),(es.drop l).flatten=es.flatten.drop (l*k)
 | [],_,l=>by simp
 | e::es,he,0=>by simp
 | e::es,he,l+1=>by
  have h1:e.length=k:=he e (by simp)
  rw [List.drop_succ_cons,aFl (fun d hd=>he d (by simp [hd])) l,List.flatten_cons,Nat.succ_mul,Nat.add_comm,<-List.drop_drop,<-h1]
  simp
theorem aFm {α:Type} {k:Nat}:∀ {es:List (List α)},(∀ e∈es,e.length=k)->∀ (l:Nat),(es.take l).flatten=es.flatten.take (l*k)
 | [],_,l=>by simp
 | e::es,he,0=>by simp
 | e::es,he,l+1=>by
  have h1:e.length=k:=he e (by simp)
  rw [List.take_succ_cons,List.flatten_cons,aFm (fun d hd=>he d (by simp [hd])) l,List.flatten_cons,Nat.succ_mul,List.take_append,<-h1]
  congr 1
  ·rw [List.take_of_length_le (by omega)]
  ·congr 1;omega
theorem aW5 {α:Type} {k:Nat} {es:List (List α)} (he:∀ e∈es,e.length=k) (l m:Nat):((es.drop l).take m).flatten=(es.flatten.drop (l*k)).take (m*k):=by
 rw [aFm (fun d hd=>he d (List.mem_of_mem_drop hd)),aFl he]
def aUm (T:Tab) (k:Nat):AV->Option (List (List AV)×Bool)
 | .ls k' es=>if k=k' then some (es,true) else none
 | .own a=>match mI (bK T a) with
  | some (k',es,b)=>if k=k' then some (es,b) else none
  | _=>none
 | .v (.slice none 0 0)=>some ([],true)
 | .vw a k' lo m=>match mI (bK T a) with
  | some (k'',es,b)=>if k=k'/\k=k''/\lo+m<=es.length then some ((es.drop lo).take m,b) else none
  | _=>none
 | _=>none
theorem aW6 (hI:Inv h φ w T) {k:Nat} {x:AV} {u:Value} (hx:Rp h φ T.length x u) {new:List (List AV)} {b:Bool} (e:aUm T k x=some (new,b)) :
  (∀ e∈new,e.length=k/\∀ c∈e,okC b c=true)/\∃ A c news,u=.slice A new.length c/\RpB h φ T.length b new.flatten news /\
   (new=[]\/∃ b o,A=some ⟨b,o,none⟩/\∀ j v,news[j]?=some v->w.cell? ⟨b,o+j,none⟩=some v):=by
 unfold aUm at e
 split at e
 ·rename_i k' es
  split at e
  ·rename_i hk
   subst hk
   injection e with e
   injection e with e1 e2
   subst e1;subst e2
   simp only [Rp,RpD] at hx
   obtain ⟨A,c,hu,_,_,h3⟩:=hx
   rcases h3 with rfl | ⟨b,o,rfl,hE⟩
   ·exact ⟨by simp,A,c,[],hu,by simp [RpB,bC],.inl rfl⟩
   ·obtain ⟨h4,us,h5,h6⟩:=hE.vals
    exact ⟨h4,_,c,us,hu,h5,.inr ⟨b,o,rfl,fun j v hj=>aPc hI (h6 j v hj)⟩⟩
  ·simp at e
 ·rename_i i
  split at e
  ·rename_i k' es b' hg
   split at e
   ·rename_i hk
    subst hk
    injection e with e
    injection e with e1 e2
    subst e1;subst e2
    simp only [Rp] at hx
    obtain ⟨hl,h1 | ⟨g,c,cur,E,hφ,hw,h2,h3,h4,h5,h6⟩⟩:=lZ hI hg
    ·obtain ⟨A,h1,h2⟩:=h1
     rw [h2]
     exact ⟨by simp,A,0,[],by rw [hx.2.1,h1];rfl,by cases b'<;>simp [RpB,bC,RpL],.inl rfl⟩
    ·refine ⟨hl,_,c+1,_,by rw [hx.2.1,hφ],h6,.inr ⟨g,0,rfl,fun j v hj=>?_⟩⟩
     rw [yT hw]
     rw [List.getElem?_take] at hj
     split at hj
     ·rw [<-hj];simp
     ·simp at hj
   ·simp at e
  ·simp at e
 ·injection e with e
  injection e with e1 e2
  subst e1;subst e2
  simp only [Rp] at hx
  exact ⟨by simp,none,0,[],hx,by simp [RpB,bC],.inl rfl⟩
 ·rename_i i k' lo m
  split at e
  ·rename_i k'' es b' hg
   split at e
   ·rename_i hk
    obtain ⟨rfl,rfl,hlen⟩:=hk
    injection e with e
    injection e with e1 e2
    subst e1;subst e2
    simp only [Rp] at hx
    obtain ⟨_,A,c,hu,_,_,h0⟩:=hx
    obtain ⟨hl,h1⟩:=lZ hI hg
    have hl':∀ d∈(es.drop lo).take m,d.length=k/\∀ c∈d,okC b' c=true:=fun d hd=>hl d (List.mem_of_mem_drop (List.mem_of_mem_take hd))
    have hln:((es.drop lo).take m).length=m:=by rw [List.length_take,List.length_drop];omega
    refine ⟨hl',?_⟩
    have hnil:RpB h φ T.length b' [] []:=by cases b'<;>simp [RpB,bC,RpL]
    rcases h0 with rfl | ⟨g,l,c',hφ,rfl,hle⟩
    ·exact ⟨A,c,[],by simpa using hu,by simpa using hnil,.inl (by simp)⟩
    ·by_cases hm:m=0
     ·subst hm
      exact ⟨_,c,[],by simpa using hu,by simpa using hnil,.inl (by simp)⟩
     ·rcases h1 with h1 | ⟨g',c2,cur,E,hφ',hw,h2,h3,h4,h5,h6⟩
      ·obtain ⟨A,h1,rfl⟩:=h1
       simp at hlen
       omega
      ·rw [hφ] at hφ'
       injection hφ' with e1 e2 e3
       injection e1 with e1
       injection e1 with e1
       subst e1
       refine ⟨_,c,((cur.toList.take (es.length*k)).drop (lo*k)).take (m*k),by rw [hu,hln],?_,.inr ⟨g,lo*k,rfl,fun j v hj=>?_⟩⟩
       ·rw [aW5 (fun d hd=>(hl d hd).1)]
        exact (h6.drop _).take _
       ·rw [yT hw]
        rw [List.getElem?_take] at hj
        split at hj
        ·rw [List.getElem?_drop,List.getElem?_take] at hj
         split at hj
         ·rw [<-hj];simp
         ·simp at hj
        ·simp at hj
   ·simp at e
  ·simp at e
 ·simp at e
theorem aYP {ev:Operand->AV} {x y:Operand} {k bytes:Nat} {r:AV} {T':Tab} (he:hop T ev (.app x y k bytes)=some (r,T')) :
    ∃ new b,aUm T k (ev y)=some (new,b) /\
      ((ev x=.v (.slice none 0 0)/\new.length*bytes<=140737488355328/\new.length<=maxLen/\r=.own T.length/\T'=T++[some (eR b k new)]) \/
       ∃ i es b',ev x=.own i/\mI (bK T i)=some (k,es,b')/\(es.length+new.length)*bytes<=140737488355328/\es.length+new.length<=maxLen/\r=.own T.length/\T'=T.set i none++[some (eR (b&&b') k (es++new))]):=by
  simp only [hop] at he
  split at he
  · simp at he
  · rename_i new b hs
    refine ⟨new,b,?_,?_⟩
    · unfold aUm
      exact hs
    · split at he
      · rename_i hx
        split at he
        · rename_i hc
          injection he with he;injection he with e1 e2
          exact .inl ⟨hx,hc.1,hc.2,e1.symm,e2.symm⟩
        · simp at he
      · rename_i i hx
        split at he
        · rename_i k' es b' hg
          split at he
          · rename_i hc
            obtain ⟨rfl,hc1,hc2⟩:=hc
            injection he with he;injection he with e1 e2
            exact .inr ⟨i,es,b',hx,hg,hc1,hc2,e1.symm,e2.symm⟩
          · simp at he
        · simp at he
      · simp at he
theorem aUn {t e ty:TypeId} (ht:P.underlying t=some (.slice e)) {i:TypeInfo} (hi:P.info? e=some i) {z:Value} (hz:i.zero=some z) (hzs:z.cells.size=i.size) (h0:0<i.size)
  (hG:GOk G h) (hI:Inv h φ w T) (hS:SOk h φ T.length s a) {p q:Operand} {x:AV} {T':Tab} (he:hop T (evO G s) (.app p q i.size i.bytes)=some (x,T')) :
  fE h φ T w ((Builtin.append_ #[t,t] ty #[a.eval p,a.eval q]).run P w) x T':=by
 obtain ⟨new,fb,hsrc,hcase⟩:=aYP he
 have hp:=bP hG hS p
 have hq:=bP hG hS q
 obtain ⟨hnew,A,c,news,hu,hnl,hcells⟩:=aW6 hI hq hsrc
 have hnlen:news.length=new.length*i.size:=by rw [<-hnl.length,tH fun d hd=>(hnew d hd).1]
 have hone:∀ v∈news,v.oneCell'=true:=by
  intro v hv
  obtain ⟨j,hj⟩:=List.getElem?_of_mem hv
  have hjl:j<new.flatten.length:=by
   rw [hnl.length]
   rcases Nat.lt_or_ge j news.length with hh | hh
   ·exact hh
   ·rw [List.getElem?_eq_none hh] at hj;simp at hj
  obtain ⟨u,h1,h2⟩:=hnl.toL.get (List.getElem?_eq_getElem hjl)
  rw [hj] at h1
  injection h1 with h1
  subst h1
  obtain ⟨d,hd,hcd⟩:=List.mem_flatten.1 (List.getElem_mem hjl)
  exact aHT h2 (aHU ((hnew d hd).2 _ hcd))
 have cap_cells:∀ (m old:Nat) (xs:List Value),xs.length=m*i.size->m<=maxLen ->
   (xs.toArray++Builtin.zeroCells z.cells (grownCap w m old e-m)).size=grownCap w m old e*i.size/\(xs.toArray++Builtin.zeroCells z.cells (grownCap w m old e-m)).toList.take (m*i.size)=xs/\m<=grownCap w m old e/\grownCap w m old e<=maxLen:=by
  intro m old xs hxs hm
  have hge:=grownCap_ge w m old e
  refine ⟨?_,?_,hge,grownCap_le_maxLen w m old e hm⟩
  ·simp only [Array.size_append,List.size_toArray,size_zeroCells,hzs,hxs,<-Nat.add_mul]
   congr 1
   omega
  ·simp only [Array.toList_append]
   rw [<-hxs]
   exact List.take_left
 rcases hcase with ⟨hx,hb,hm,rfl,rfl⟩ | ⟨j,es,b',hx,hg,hb,hm,rfl,rfl⟩
 ·
  rw [iV hG hS hx,hu]
  rcases hcells with rfl | ⟨b,o,rfl,hcell⟩
  ·have:(Builtin.append_ #[t,t] ty #[.slice none 0 0,.slice A ([]:List (List AV)).length c]).run P w=.ok (.slice none 0 0) w:=by
    cases A<;>simp [Builtin.append_,run_underlying ht,Go.sizeOf,typeInfo,hi,Builtin.lenOf,Builtin.firstCells,loadCells,loadCellsFrom]
   rw [this]
   have:=nI (w':=w) (o:=eR fb i.size []) (v:=.slice none 0 0) hI rfl rfl rfl (Nat.le_refl _) (fun _ _=>rfl) (fun g hg=>by simp [blk] at hg) (iW.2 ⟨by simp,.inl ⟨none,aO,rfl⟩⟩)
   refine ⟨_,w,h,_,rfl,this.2,this.1,?_⟩
   simp only [Rp]
   exact ⟨by simp,aO.symm,_,_,_,rfl⟩
  ·by_cases hn0:new=[]
   ·subst hn0
    have:(Builtin.append_ #[t,t] ty #[.slice none 0 0,.slice (some ⟨b,o,none⟩) ([]:List (List AV)).length c]).run P w=.ok (.slice none 0 0) w:=by
     simp [Builtin.append_,run_underlying ht,Go.sizeOf,typeInfo,hi,Builtin.lenOf,Builtin.firstCells,loadCells,loadCellsFrom]
    rw [this]
    have:=nI (w':=w) (o:=eR fb i.size []) (v:=.slice none 0 0) hI rfl rfl rfl (Nat.le_refl _) (fun _ _=>rfl) (fun g hg=>by simp [blk] at hg) (iW.2 ⟨by simp,.inl ⟨none,aO,rfl⟩⟩)
    refine ⟨_,w,h,_,rfl,this.2,this.1,?_⟩
    simp only [Rp]
    exact ⟨by simp,aO.symm,_,_,_,rfl⟩
   ·have hpos:0<new.length:=List.length_pos_iff.2 hn0
    have hr:=run_append_nil (P:=P) w t ty e i z ht hi hz ⟨b,o,none⟩ new.length c news hnlen (fun j v hj=>by rw [dT];exact hcell j v hj) hpos (by unfold maxLen at hm;omega) (by omega)
    rw [hr]
    obtain ⟨c1,c2,c3,c4⟩:=cap_cells new.length 0 news hnlen hm
    exact mW (w1:=w.drew) hI rfl rfl rfl rfl hnew rfl c3 c4 c1 (by rw [c2];exact hnl) e
 ·
  rw [hx] at hp
  simp only [Rp] at hp
  obtain ⟨hl,h1 | ⟨g,cap,cur,E,hφ,hw,h2,h3,h4,h5,h6⟩⟩:=lZ hI hg
  ·
   obtain ⟨A0,hφ,rfl⟩:=h1
   rw [hp.2.1,hφ,hu]
   simp only [List.nil_append,List.length_nil,Nat.zero_add] at hb hm ⊢
   obtain ⟨hI',hE'⟩:=qT hI j
   have comb:∀ {r:Result Value},fE h φ (T.set j none) w r (.own (T.set j none).length) (T.set j none++[some (eR (fb&&b') i.size new)])->fE h φ T w r (.own T.length) (T.set j none++[some (eR (fb&&b') i.size new)]):=by
    rintro r ⟨v,w',h',φ',m1,m2,m3,m4⟩
    rw [List.length_set] at m4
    exact ⟨v,w',h',φ',m1,hE'.trans m2,m3,m4⟩
   apply comb
   by_cases hn0:new=[]
   ·subst hn0
    have:(Builtin.append_ #[t,t] ty #[.slice A0 0 0,.slice A ([]:List (List AV)).length c]).run P w=.ok (.slice A0 0 0) w:=by
     cases A0<;>cases A<;>simp [Builtin.append_,run_underlying ht,Go.sizeOf,typeInfo,hi,Builtin.lenOf,Builtin.firstCells,loadCells,loadCellsFrom,storeCells]
    rw [this]
    have:=nI (w':=w) (o:=eR (fb&&b') i.size []) (v:=.slice A0 0 0) hI' rfl rfl rfl (Nat.le_refl _) (fun _ _=>rfl) (fun g hg=>by simp [blk] at hg) (iW.2 ⟨by simp,.inl ⟨A0,aO,rfl⟩⟩)
    refine ⟨_,w,h,_,rfl,this.2,this.1,?_⟩
    simp only [Rp]
    exact ⟨by simp,aO.symm,_,_,_,rfl⟩
   ·have hpos:0<new.length:=List.length_pos_iff.2 hn0
    rcases hcells with rfl | ⟨b,o,rfl,hcell⟩
    ·exact absurd rfl hn0
    ·cases A0 with
     | none =>
      have hr:=run_append_nil (P:=P) w t ty e i z ht hi hz ⟨b,o,none⟩ new.length c news hnlen (fun j v hj=>by rw [dT];exact hcell j v hj) hpos (by unfold maxLen at hm;omega) (by omega)
      rw [hr]
      obtain ⟨c1,c2,c3,c4⟩:=cap_cells new.length 0 news hnlen hm
      exact mW (w1:=w.drew) hI' rfl rfl rfl rfl (fun d hd=>⟨(hnew d hd).1,fun c hc=>lK ((hnew d hd).2 c hc) (fun hh=>(Bool.and_eq_true _ _ ▸ hh:fb=true/\b'=true).1)⟩) rfl c3 c4 c1 (by rw [c2,List.length_set];exact hnl.weaken (fun hh=>(Bool.and_eq_true _ _ ▸ hh:fb=true/\b'=true).1)) e
     | some a0 =>
      have hr:=run_append_grow (P:=P) w t ty e i z ht hi hz a0 0 0 [] (by simp) (fun j v hj=>by simp at hj) ⟨b,o,none⟩ new.length c news hnlen (fun j v hj=>by rw [dT];exact hcell j v hj) (by omega) (by unfold maxLen at hm;omega) (growslice_fits (by omega) (by simpa using hb))
      rw [hr]
      obtain ⟨c1,c2,c3,c4⟩:=cap_cells new.length 0 news hnlen hm
      simp only [Nat.zero_add,Array.empty_append] at *
      exact mW (w1:=w.drew) hI' rfl rfl rfl rfl (fun d hd=>⟨(hnew d hd).1,fun c hc=>lK ((hnew d hd).2 c hc) (fun hh=>(Bool.and_eq_true _ _ ▸ hh:fb=true/\b'=true).1)⟩) rfl c3 c4 c1 (by rw [c2,List.length_set];exact hnl.weaken (fun hh=>(Bool.and_eq_true _ _ ▸ hh:fb=true/\b'=true).1)) e
  ·rw [hp.2.1,hφ,hu]
   have holen:(cur.toList.take (es.length*i.size)).length=es.length*i.size:=by rw [<-h6.length,tH fun d hd=>(hl d hd).1]
   have hbb:(fb&&b')=true->fb=true/\b'=true:=fun hh=>by simpa using hh
   have hboth:∀ d∈es++new,d.length=i.size/\∀ c∈d,okC (fb&&b') c=true:=by
    intro d hd
    rcases List.mem_append.1 hd with hd | hd
    ·exact ⟨(hl d hd).1,fun c hc=>lK ((hl d hd).2 c hc) fun hh=>(hbb hh).2⟩
    ·exact ⟨(hnew d hd).1,fun c hc=>lK ((hnew d hd).2 c hc) fun hh=>(hbb hh).1⟩
   have hbothL:RpB h φ T.length (fb&&b') (es++new).flatten (cur.toList.take (es.length*i.size)++news):=by rw [List.flatten_append];exact (h6.weaken fun hh=>(hbb hh).2).app (hnl.weaken fun hh=>(hbb hh).1)
   by_cases hroom:es.length+new.length<=cap+1
   ·
    have hf:(Builtin.firstCells i.size new.length (.slice A new.length c)).run P w=.ok news.toArray w:=by
     rcases hcells with rfl | ⟨b,o,rfl,hcell⟩
     ·have:news=[]:=List.eq_nil_of_length_eq_zero (by simpa using hnlen)
      subst this
      cases A<;>simp [Builtin.firstCells,loadCells,loadCellsFrom]
     ·exact run_firstCells_some w i.size new.length ⟨b,o,none⟩ _ _ news hnlen fun j v hj=>by rw [dT];exact hcell j v hj
    have hfit:es.length*i.size+news.length<=cur.size:=by rw [hnlen,h4,<-Nat.add_mul];exact Nat.mul_le_mul_right _ hroom
    have hst:=run_storeCells_at P g (es.length*i.size) E news 0 cur w hw (by simpa using hfit) hone
    simp only [Nat.add_zero] at hst
    have hrun:(Builtin.append_ #[t,t] ty #[.slice (some ⟨g,0,none⟩) es.length (cap+1),.slice A new.length c]).run P w =
      .ok (.slice (some ⟨g,0,none⟩) (es.length+new.length) (cap+1)) (w.setRow g (cur.toList.take (es.length*i.size)++news++cur.toList.drop (es.length*i.size+news.length)).toArray):=by
     simp [Builtin.append_,run_underlying ht,Go.sizeOf,typeInfo,hi,Builtin.lenOf,hroom,hf,dT,hst]
    rw [hrun]
    have hI1:=qT hI j
    have hgt:=aN (yU hg)
    refine ⟨_,_,h,upd φ T.length (.slice (some ⟨g,0,none⟩) (es.length+new.length) (cap+1)),rfl,?_,?_,?_⟩
    ·refine ⟨rfl,rfl,rfl,by simp,fun b hb hne=>setRow_other w g b _ fun e=>hne j _ hgt (by rw [hφ,e];rfl),GLe.refl h,fun _ _ e=>.inl e,fun m hm=>dE hm,fun m o b em hbl=>?_,by simp,Nat.le_refl _⟩
     rcases fR em with ⟨hm',em'⟩ | ⟨rfl,em'⟩
     ·rw [List.length_set] at hm'
      rw [dE hm'] at hbl
      rcases gU em' with ⟨_,e'⟩ | ⟨_,e'⟩
      ·simp at e'
      ·exact .inr ⟨m,o,e',hbl⟩
     ·rw [List.length_set,aO] at hbl
      simp only [blk,Option.some.injEq] at hbl
      exact .inr ⟨j,_,hgt,by rw [hφ];simp [blk,hbl]⟩
    ·refine ⟨fun b cs eb=>?_,fun m o em=>?_,fun m m' o o' b em em' hbm hbm'=>?_⟩
     ·obtain ⟨E',fr,hb'⟩:=hI.gh b cs eb
      refine ⟨E',fr,?_⟩
      rw [setRow_other w g b _ fun e=>by subst e;rw [h5] at eb;simp at eb]
      exact hb'
     ·rcases fR em with ⟨hm',em'⟩ | ⟨rfl,em'⟩
      ·rw [List.length_set] at hm'
       rcases gU em' with ⟨_,e'⟩ | ⟨hne,e'⟩
       ·simp at e'
       ·rw [List.length_append,List.length_set]
        have h7:=hI.obj m o e'
        refine nO h7 (GLe.refl h) (by simp) (fun j hj=>dE hj) hm' fun b hb'=>?_
        obtain ⟨h8,h9⟩:=eU h7 hb'
        refine ⟨setRow_other w g b _ fun e=>hne (hI.dis m j o _ b e' hgt hb' (by rw [hφ,e];rfl)),h9⟩
      ·injection em' with em'
       subst em'
       rw [List.length_set,List.length_append,List.length_set]
       refine iW.2 ⟨hboth,.inr ⟨g,cap,_,E,by rw [aO,List.length_append],setRow_heap w g cur _ E _ hw,by rw [List.length_append];exact hroom,h3,?_,h5,?_⟩⟩
       ·rw [List.size_toArray]
        simp only [List.length_append,List.length_drop,holen]
        rw [show cur.toList.length=cur.size from Array.length_toList,<-h4]
        omega
       ·have hlen2:(cur.toList.take (es.length*i.size)++news).length=(es++new).length*i.size:=by rw [List.length_append,holen,hnlen,List.length_append,Nat.add_mul]
        show RpB h _ _ (fb&&b') _ (List.take _ (cur.toList.take (es.length*i.size)++news++cur.toList.drop (es.length*i.size+news.length)))
        rw [<-hlen2,List.take_left]
        exact hbothL.mono (GLe.refl h) (by simp) fun i hi=>dE hi
     ·rcases fR em with ⟨hm1,em1⟩ | ⟨rfl,em1⟩<;>rcases fR em' with ⟨hm2,em2⟩ | ⟨rfl,em2⟩
      ·rw [List.length_set] at hm1 hm2
       rw [dE hm1] at hbm;rw [dE hm2] at hbm'
       exact hI1.1.dis m m' o o' b em1 em2 hbm hbm'
      ·rw [List.length_set] at hm1 hbm'
       rw [dE hm1] at hbm;rw [aO] at hbm'
       simp only [blk,Option.some.injEq] at hbm'
       rcases gU em1 with ⟨_,e'⟩ | ⟨hne,e'⟩
       ·simp at e'
       ·exact absurd (hI.dis m j o _ b e' hgt hbm (by rw [hφ,<-hbm'];rfl)) hne
      ·rw [List.length_set] at hm2 hbm
       rw [dE hm2] at hbm';rw [aO] at hbm
       simp only [blk,Option.some.injEq] at hbm
       rcases gU em2 with ⟨_,e'⟩ | ⟨hne,e'⟩
       ·simp at e'
       ·exact absurd (hI.dis m' j o' _ b e' hgt hbm' (by rw [hφ,<-hbm];rfl)) hne
      ·rfl
    ·simp only [Rp]
     rw [List.length_append,List.length_set]
     exact ⟨by simp,by rw [aO],_,_,_,rfl⟩
   ·
    have hne:new≠[]:=by rintro rfl;simp at hroom;omega
    rcases hcells with rfl | ⟨b,o,rfl,hcell⟩
    ·exact absurd rfl hne
    ·have holds:∀ j v,(cur.toList.take (es.length*i.size))[j]?=some v->w.cell? ((⟨g,0,none⟩:Addr).add j)=some v:=by
      intro j v hj
      rw [dT,yT hw]
      rw [List.getElem?_take] at hj
      split at hj
      ·rw [<-hj];simp
      ·simp at hj
     have hr:=run_append_grow (P:=P) w t ty e i z ht hi hz ⟨g,0,none⟩ es.length (cap+1) _ holen holds ⟨b,o,none⟩ new.length c news hnlen (fun j v hj=>by rw [dT];exact hcell j v hj) (by omega) (by unfold maxLen at hm;omega) (growslice_fits (by omega) hb)
     rw [hr]
     obtain ⟨hI',hE'⟩:=qT hI j
     have comb:∀ {r:Result Value},fE h φ (T.set j none) w r (.own (T.set j none).length) (T.set j none++[some (eR (fb&&b') i.size (es++new))])->fE h φ T w r (.own T.length) (T.set j none++[some (eR (fb&&b') i.size (es++new))]):=by
      rintro r ⟨v,w',h',φ',m1,m2,m3,m4⟩
      rw [List.length_set] at m4
      exact ⟨v,w',h',φ',m1,hE'.trans m2,m3,m4⟩
     apply comb
     have hxs:(cur.toList.take (es.length*i.size)++news).length=(es.length+new.length)*i.size:=by rw [List.length_append,holen,hnlen,Nat.add_mul]
     obtain ⟨c1,c2,c3,c4⟩:=cap_cells (es.length+new.length) (cap+1) (cur.toList.take (es.length*i.size)++news) hxs hm
     have heq:(cur.toList.take (es.length*i.size)).toArray++news.toArray=(cur.toList.take (es.length*i.size)++news).toArray:=by simp
     rw [heq]
     exact mW (w1:=w.drew) hI' rfl rfl rfl rfl hboth (by simp) c3 c4 c1 (by rw [c2,List.length_set];exact hbothL) e
end
end
section
theorem aDY:∀ (xs L:List Nat),∃ l,aDS L xs=L++l
 | [],L=>⟨[],by simp [aDS]⟩
 | i::r,L=>by
  simp only [aDS]
  split
  ·exact aDY r L
  ·obtain ⟨l,h⟩:=aDY r (L++[i])
   exact ⟨i::l,by rw [h];simp⟩
theorem yV:∀ (xs L:List Nat),L.Nodup->(aDS L xs).Nodup
 | [],L,h=>h
 | i::r,L,h=>by
  simp only [aDS]
  split
  ·exact yV r L h
  ·rename_i hc
   refine yV r _ (List.nodup_append.2 ⟨h,by simp,fun a ha b hb=>?_⟩)
   simp only [List.mem_singleton] at hb
   subst hb
   rintro rfl
   exact hc (by simpa using ha)
theorem aIC (T:Tab):∀ (R:Tab) (L:List Nat),∃ l,aAR T R L=L++l
 | [],L=>⟨[],by simp [aAR]⟩
 | _::R,L=>by
  obtain ⟨l,h⟩:=aDY (aW0 T L) L
  obtain ⟨l',h'⟩:=aIC T R (aDS L (aW0 T L))
  exact ⟨l++l',by simp only [aAR];rw [h',h];simp⟩
theorem aDZ (T:Tab):∀ (R:Tab) (L:List Nat),L.Nodup->(aAR T R L).Nodup
 | [],_,h=>h
 | _::R,L,h=>by
  simp only [aAR]
  exact aDZ T R _ (yV _ _ h)
theorem aGo (T:Tab) (ids:List Nat):(pT T ids).Nodup:=aDZ T T _ (yV _ _ (by simp))
theorem aID:∀ (m k:Nat) (more:List Nat),∃ l,aDS (List.range k) (List.range' k m++more)=List.range (k+m)++l
 | 0,k,more=>by simpa using aDY more (List.range k)
 | m+1,k,more=>by
  simp only [List.range'_succ,List.cons_append,aDS]
  rw [if_neg (by simp)]
  have:=aID m (k+1) more
  rw [List.range_succ] at this
  rw [show k+(m+1)=k+1+m from by omega]
  exact this
theorem aPh (T:Tab) (r:Nat) (more:List Nat):∃ l,pT T (List.range r++more)=List.range r++l:=by
 obtain ⟨l,h⟩:=aID r 0 more
 obtain ⟨l',h'⟩:=aIC T T (aDS [] (List.range r++more))
 refine ⟨l++l',?_⟩
 unfold pT
 rw [h']
 simp only [List.range_zero,Nat.zero_add] at h
 rw [List.range_eq_range',h,<-List.range_eq_range']
 simp
theorem qU {L:List Nat} {i j:Nat} (e:idx L i=some j):L[j]?=some i:=by
 unfold idx at e
 induction L generalizing j with
 | nil=>simp at e
 | cons a L ih =>
  rw [List.idxOf?_cons] at e
  split at e
  ·rename_i ha
   injection e with e
   subst e
   simp at ha
   simp [ha]
  ·cases h:List.idxOf? i L with
   | none=>simp [h] at e
   | some k=>simp [h] at e;subst e;simp [ih h]
theorem aD1 {L:List Nat} {i j:Nat} (e:idx L i=some j):j<L.length:=by
 have:=qU e
 rcases Nat.lt_or_ge j L.length with h | h
 ·exact h
 ·simp [List.getElem?_eq_none h] at this
section
variable {h h':GH} {φ φc:Nat->Value} {n:Nat}
def aGp (L:List Nat) (φ φc:Nat->Value):Prop:=∀ j i,L[j]?=some i->φc j=φ i
mutual
theorem aRi {L:List Nat} (hφ:aGp L φ φc):∀ {x:AV} {u:Value},Rp h φ n x u->Rp h φc L.length (rnA L x) u
 | .v _,_,e=>by simpa [Rp,rnA] using e
 | .ls _ _,_,e=>by simp only [Rp,rnA] at *;exact e
 | .ag cs,_,e=>by simp only [Rp,rnA] at *;obtain ⟨us,h1,h2⟩:=e;exact ⟨us,h1,yW hφ h2⟩
 | .own i,_,e=>by
  simp only [Rp,rnA] at *
  split
  ·rename_i j hj
   simp only [Rp]
   exact ⟨aD1 hj,by rw [hφ _ _ (qU hj)];exact e.2.1,e.2.2⟩
  ·simp [Rp]
 | .ptr i o,_,e=>by
  simp only [Rp,rnA] at *
  split
  ·rename_i j hj
   simp only [Rp]
   exact ⟨aD1 hj,by rw [hφ _ _ (qU hj)];exact e.2⟩
  ·simp [Rp]
 | .elt i k m o,_,e=>by
  simp only [Rp,rnA] at *
  split
  ·rename_i j hj
   simp only [Rp]
   exact ⟨aD1 hj,by rw [hφ _ _ (qU hj)];exact e.2⟩
  ·simp [Rp]
 | .vw i k m o,_,e=>by
  simp only [Rp,rnA] at *
  split
  ·rename_i j hj
   simp only [Rp]
   exact ⟨aD1 hj,by rw [hφ _ _ (qU hj)];exact e.2⟩
  ·simp [Rp]
 | .mp i,_,e=>by
  simp only [Rp,rnA] at *
  split
  ·rename_i j hj
   simp only [Rp]
   exact ⟨aD1 hj,by rw [hφ _ _ (qU hj)];exact e.2.1,e.2.2⟩
  ·simp [Rp]
 | .yl i,_,e=>by
  simp only [Rp,rnA] at *
  split
  ·rename_i j hj
   simp only [Rp]
   exact ⟨aD1 hj,by rw [hφ _ _ (qU hj)];exact e.2.1,e.2.2⟩
  ·simp [Rp]
 | .rp _,_,e=>by simp only [Rp,rnA] at *;exact e
 | .cl f cs,_,e=>by simp only [Rp,rnA] at *;obtain ⟨us,h1,h2⟩:=e;exact ⟨us,h1,yW hφ h2⟩
 | .bm f kk cs,_,e=>by simp only [Rp,rnA] at *;obtain ⟨us,h1,h2⟩:=e;exact ⟨us,h1,yW hφ h2⟩
 | .tup cs,_,e=>by simp only [Rp,rnA] at *;obtain ⟨us,h1,h2⟩:=e;exact ⟨us,h1,yW hφ h2⟩
 | .any,_,_=>by simp [Rp,rnA]
theorem yW {L:List Nat} (hφ:aGp L φ φc):∀ {cs:List AV} {us:List Value},RpL h φ n cs us->RpL h φc L.length (rnL L cs) us
 | [],_,e=>by simpa [RpL,rnL] using e
 | c::cs,us,e=>by
  simp only [RpL,rnL] at *
  obtain ⟨u,us',h1,h2,h3⟩:=e
  exact ⟨u,us',h1,aRi hφ h2,yW hφ h3⟩
end
theorem aW7 {L:List Nat} (hφ:aGp L φ φc) {f:Nat->Value}:∀ {s:List (Nat×AV)},(∀ p∈s,Rp h φ n p.2 (f p.1))->∀ p∈rnS L s,Rp h φc L.length p.2 (f p.1)
 | [],_,p,hp=>by simp [rnS] at hp
 | (i,x)::s,hs,p,hp=>by
  simp only [rnS] at hp
  rcases List.mem_cons.1 hp with rfl | hp
  ·exact aRi hφ (hs (i,x) (by simp))
  ·exact aW7 hφ (fun q hq=>hs q (by simp [hq])) p hp
theorem aNV {L:List Nat} {i:Nat} {y:AV}:∀ {s:List (Nat×AV)},(i,y)∈rnS L s->∃ x,(i,x)∈s/\y=rnA L x
 | [],h=>by simp [rnS] at h
 | (j,x)::s,h=>by
  simp only [rnS] at h
  rcases List.mem_cons.1 h with h | h
  ·injection h with h1 h2;subst h1;subst h2;exact ⟨x,by simp,rfl⟩
  ·obtain ⟨x',h1,h2⟩:=aNV h;exact ⟨x',by simp [h1],h2⟩
theorem aSX {L:List Nat}:∀ (cs:List AV),(rnL L cs).length=cs.length
 | []=>rfl
 | c::cs=>by simp [rnL,aSX cs]
theorem aPi {L:List Nat}:∀ (es:List (List AV)),(rnF L es).flatten=rnL L es.flatten
 | []=>rfl
 | e::es=>by
  have app:∀ (a b:List AV),rnL L (a++b)=rnL L a++rnL L b:=by
   intro a b
   induction a with
   | nil=>rfl
   | cons c a ih=>simp [rnL,ih]
  simp only [rnF,List.flatten_cons,aPi es,app]
theorem aHV {L:List Nat}:∀ (es:List (List AV)),(rnF L es).length=es.length
 | []=>rfl
 | e::es=>by simp [rnF,aHV es]
theorem aSY {L:List Nat} {d:List AV}:∀ {es:List (List AV)},d∈rnF L es->∃ e∈es,d=rnL L e
 | [],h=>by simp [rnF] at h
 | e::es,h=>by
  simp only [rnF] at h
  rcases List.mem_cons.1 h with rfl | h
  ·exact ⟨e,by simp,rfl⟩
  ·obtain ⟨e',h1,h2⟩:=aSY h;exact ⟨e',by simp [h1],h2⟩
theorem bAr {L:List Nat} (hφ:aGp L φ φc) {w:World} {i j:Nat} {o o':AObj} (hj:L[j]?=some i) (ho:rnO L o=some o') (e:sF h φ n w i o):sF h φc L.length w j o':=by
 have hij:=hφ j i hj
 cases o with
 | box cs =>
  simp only [rnO,Option.some.injEq] at ho
  subst ho
  obtain ⟨g,us,E,h1,h2,h3,h4⟩:=e
  exact ⟨g,us,E,by rw [hij];exact h1,h2,h3,yW hφ h4⟩
 | arr k es =>
  simp only [rnO,Option.some.injEq] at ho
  subst ho
  obtain ⟨h0,h1 | ⟨g,c,cur,E,h1,h2⟩⟩:=e
  ·exact ⟨h0,.inl (by rw [hij];exact h1)⟩
  ·exact ⟨h0,.inr ⟨g,c,cur,E,by rw [hij];exact h1,h2⟩⟩
 | arf k es =>
  simp only [rnO] at ho
  split at ho
  ·rename_i hone
   injection ho with ho
   subst ho
   obtain ⟨h0,h1 | ⟨g,c,cur,E,h1,h2,h3,h4,h5,h6,h7⟩⟩:=e
   ·refine ⟨fun d hd=>?_,.inl (by rw [hij];obtain ⟨A,hA,rfl⟩:=h1;exact ⟨A,hA,rfl⟩)⟩
    obtain ⟨_,_,rfl⟩:=h1
    simp [rnF] at hd
   ·refine ⟨fun d hd=>?_,.inr ⟨g,c,cur,E,by rw [hij,aHV];exact h1,h2,by rw [aHV];exact h3,h4,h5,h6,by rw [aPi,aHV];exact yW hφ h7⟩⟩
    obtain ⟨e',he',rfl⟩:=aSY hd
    refine ⟨by rw [aSX];exact (h0 e' he').1,fun c hc=>?_⟩
    exact List.all_eq_true.1 (List.all_eq_true.1 hone _ hd) c hc
  ·simp at ho
 | map ag ks vs bs cl =>
  simp only [rnO,Option.some.injEq] at ho
  subst ho
  obtain ⟨g,ens,h1,h2,h3,h4,h5,h6⟩:=e
  exact ⟨g,ens,by rw [hij];exact h1,h2,h3,h4,h5,yW hφ h6⟩
 | lp r s =>
  simp only [rnO,Option.some.injEq] at ho
  subst ho
  obtain ⟨g,h1,h2,h3,h4,h5⟩:=e
  refine ⟨g,by rw [hij];exact h1,h2,h3,fun a x y hx hy=>?_,aW7 (f:=fun j=>r.tmps.getD j undef) hφ h5⟩
  obtain ⟨x',h6,rfl⟩:=aNV hx
  obtain ⟨y',h7,rfl⟩:=aNV hy
  rw [h4 a x' y' h6 h7]
 | mit m since seen st =>
  obtain ⟨g,mo,h1,h2,h3,h4⟩:=e
  cases m with
  | none =>
   simp only [rnO,Option.some.injEq] at ho
   subst ho
   exact ⟨g,mo,by rw [hij];exact h1,h2,h3,h4⟩
  | some m =>
   simp only [rnO] at ho
   split at ho
   ·rename_i m' hm
    injection ho with ho
    subst ho
    obtain ⟨b,h5,h6,h7⟩:=h4
    exact ⟨g,mo,by rw [hij];exact h1,h2,h3,b,h5,aD1 hm,by rw [hφ _ _ (qU hm)];exact h7⟩
   ·simp at ho
theorem aE0 {L:List Nat} {T:Tab} {j:Nat} {o:AObj} (e:(rnT L T)[j]?=some (some o)):∃ i o',L[j]?=some i/\T[i]?=some (some o')/\rnO L o'=some o:=by
 unfold rnT at e
 rw [List.getElem?_map] at e
 cases hj:L[j]? with
 | none=>simp [hj] at e
 | some i =>
  simp only [hj,Option.map_some,Option.some.injEq] at e
  cases hg:bK T i with
  | none=>simp [hg] at e
  | some o' =>
   simp only [hg,Option.bind_some] at e
   exact ⟨i,o',rfl,aN hg,e⟩
theorem aW8 {L:List Nat} (hL:L.Nodup) {T:Tab} {w:World} (hI:Inv h φ w T) (hφ:aGp L φ φc):Inv h φc w (rnT L T):=by
 have hlen:(rnT L T).length=L.length:=by simp [rnT]
 refine ⟨hI.gh,fun j o e=>?_,fun j j' o o' b e e' hb hb'=>?_⟩
 ·obtain ⟨i,o',hj,hi,ho⟩:=aE0 e
  rw [hlen]
  exact bAr hφ hj ho (hI.obj i o' hi)
 ·obtain ⟨i,x,hj,hi,_⟩:=aE0 e
  obtain ⟨i',x',hj',hi',_⟩:=aE0 e'
  rw [hφ _ _ hj] at hb
  rw [hφ _ _ hj'] at hb'
  have:=hI.dis i i' x x' b hi hi' hb hb'
  subst this
  have hlt:j<L.length:=by
   rcases Nat.lt_or_ge j L.length with hh | hh
   ·exact hh
   ·simp [List.getElem?_eq_none hh] at hj
  exact (List.getElem?_inj hlt hL).1 (by rw [hj,hj'])
theorem bA4 {L:List Nat} {j i:Nat} (hj:L[j]?=some i):bk L n j=i:=by
 have hlt:j<L.length:=by
  rcases Nat.lt_or_ge j L.length with hh | hh
  ·exact hh
  ·simp [List.getElem?_eq_none hh] at hj
 unfold bk
 rw [if_pos hlt,List.getD_eq_getElem?_getD,hj]
 rfl
theorem bA5 {L:List Nat} {j:Nat} (hj:L.length<=j):bk L n j=n+(j-L.length):=by unfold bk;rw [if_neg (by omega)]
mutual
theorem aRj {L:List Nat} {m m':Nat} (hφ:∀ j,j<m->φ (bk L n j)=φc j/\bk L n j<m'):∀ {x:AV} {u:Value},Rp h φc m x u->Rp h φ m' (bkA L n x) u
 | .v _,_,e=>by simpa [Rp,bkA] using e
 | .ls _ _,_,e=>by simp only [Rp,bkA] at *;exact e
 | .ag cs,_,e=>by simp only [Rp,bkA] at *;obtain ⟨us,h1,h2⟩:=e;exact ⟨us,h1,aAU hφ h2⟩
 | .own i,_,e=>by
  simp only [Rp,bkA] at *
  obtain ⟨h1,h2⟩:=hφ i e.1
  exact ⟨h2,by rw [h1];exact e.2.1,e.2.2⟩
 | .ptr i o,_,e=>by
  simp only [Rp,bkA] at *
  obtain ⟨h1,h2⟩:=hφ i e.1
  exact ⟨h2,by rw [h1];exact e.2⟩
 | .elt i k j o,_,e=>by
  simp only [Rp,bkA] at *
  obtain ⟨h1,h2⟩:=hφ i e.1
  exact ⟨h2,by rw [h1];exact e.2⟩
 | .vw i k j o,_,e=>by
  simp only [Rp,bkA] at *
  obtain ⟨h1,h2⟩:=hφ i e.1
  exact ⟨h2,by rw [h1];exact e.2⟩
 | .mp i,_,e=>by
  simp only [Rp,bkA] at *
  obtain ⟨h1,h2⟩:=hφ i e.1
  exact ⟨h2,by rw [h1];exact e.2.1,e.2.2⟩
 | .yl i,_,e=>by
  simp only [Rp,bkA] at *
  obtain ⟨h1,h2⟩:=hφ i e.1
  exact ⟨h2,by rw [h1];exact e.2.1,e.2.2⟩
 | .rp _,_,e=>by simp only [Rp,bkA] at *;exact e
 | .cl f cs,_,e=>by simp only [Rp,bkA] at *;obtain ⟨us,h1,h2⟩:=e;exact ⟨us,h1,aAU hφ h2⟩
 | .bm f kk cs,_,e=>by simp only [Rp,bkA] at *;obtain ⟨us,h1,h2⟩:=e;exact ⟨us,h1,aAU hφ h2⟩
 | .tup cs,_,e=>by simp only [Rp,bkA] at *;obtain ⟨us,h1,h2⟩:=e;exact ⟨us,h1,aAU hφ h2⟩
 | .any,_,_=>by simp [Rp,bkA]
theorem aAU {L:List Nat} {m m':Nat} (hφ:∀ j,j<m->φ (bk L n j)=φc j/\bk L n j<m'):∀ {cs:List AV} {us:List Value},RpL h φc m cs us->RpL h φ m' (bkL L n cs) us
 | [],_,e=>by simpa [RpL,bkL] using e
 | c::cs,us,e=>by
  simp only [RpL,bkL] at *
  obtain ⟨u,us',h1,h2,h3⟩:=e
  exact ⟨u,us',h1,aRj hφ h2,aAU hφ h3⟩
end
theorem aW9 {L:List Nat} {m m':Nat} (hφ:∀ j,j<m->φ (bk L n j)=φc j/\bk L n j<m') {f:Nat->Value}:∀ {s:List (Nat×AV)},(∀ p∈s,Rp h φc m p.2 (f p.1))->∀ p∈bkS L n s,Rp h φ m' p.2 (f p.1)
 | [],_,p,hp=>by simp [bkS] at hp
 | (i,x)::s,hs,p,hp=>by
  simp only [bkS] at hp
  rcases List.mem_cons.1 hp with rfl | hp
  ·exact aRj hφ (hs (i,x) (by simp))
  ·exact aW9 hφ (fun q hq=>hs q (by simp [hq])) p hp
theorem aNW {L:List Nat} {i:Nat} {y:AV}:∀ {s:List (Nat×AV)},(i,y)∈bkS L n s->∃ x,(i,x)∈s/\y=bkA L n x
 | [],h=>by simp [bkS] at h
 | (j,x)::s,h=>by
  simp only [bkS] at h
  rcases List.mem_cons.1 h with h | h
  ·injection h with h1 h2;subst h1;subst h2;exact ⟨x,by simp,rfl⟩
  ·obtain ⟨x',h1,h2⟩:=aNW h;exact ⟨x',by simp [h1],h2⟩
theorem aSZ {L:List Nat}:∀ (cs:List AV),(bkL L n cs).length=cs.length
 | []=>rfl
 | c::cs=>by simp [bkL,aSZ cs]
theorem bAs {L:List Nat}:∀ {c:AV},gM (bkA L n c)=gM c:=by
 intro c
 cases c<;>simp only [bkA]<;>simp [gM]
theorem aPj {L:List Nat}:∀ (es:List (List AV)),(bkF L n es).flatten=bkL L n es.flatten
 | []=>rfl
 | e::es=>by
  have app:∀ (a b:List AV),bkL L n (a++b)=bkL L n a++bkL L n b:=by
   intro a b
   induction a with
   | nil=>rfl
   | cons c a ih=>simp [bkL,ih]
  simp only [bkF,List.flatten_cons,aPj es,app]
theorem aHW {L:List Nat}:∀ (es:List (List AV)),(bkF L n es).length=es.length
 | []=>rfl
 | e::es=>by simp [bkF,aHW es]
theorem aT0 {L:List Nat} {d:List AV}:∀ {es:List (List AV)},d∈bkF L n es->∃ e∈es,d=bkL L n e
 | [],h=>by simp [bkF] at h
 | e::es,h=>by
  simp only [bkF] at h
  rcases List.mem_cons.1 h with rfl | h
  ·exact ⟨e,by simp,rfl⟩
  ·obtain ⟨e',h1,h2⟩:=aT0 h;exact ⟨e',by simp [h1],h2⟩
theorem aT1 {L:List Nat} {d:AV}:∀ {es:List AV},d∈bkL L n es->∃ e∈es,d=bkA L n e
 | [],h=>by simp [bkL] at h
 | e::es,h=>by
  simp only [bkL] at h
  rcases List.mem_cons.1 h with rfl | h
  ·exact ⟨e,by simp,rfl⟩
  ·obtain ⟨e',h1,h2⟩:=aT1 h;exact ⟨e',by simp [h1],h2⟩
theorem bAt {L:List Nat} {m m':Nat} (hφ:∀ j,j<m->φ (bk L n j)=φc j/\bk L n j<m') {w:World} {j:Nat} (hj:j<m) {o o':AObj} (ho:bkO L n (some o)=some o') (e:sF h φc m w j o):sF h φ m' w (bk L n j) o':=by
 have hij:=(hφ j hj).1
 cases o with
 | box cs =>
  simp only [bkO,Option.some.injEq] at ho
  subst ho
  obtain ⟨g,us,E,h1,h2,h3,h4⟩:=e
  exact ⟨g,us,E,by rw [hij];exact h1,h2,h3,aAU hφ h4⟩
 | arr k es =>
  simp only [bkO,Option.some.injEq] at ho
  subst ho
  obtain ⟨h0,h1 | ⟨g,c,cur,E,h1,h2⟩⟩:=e
  ·exact ⟨h0,.inl (by rw [hij];exact h1)⟩
  ·exact ⟨h0,.inr ⟨g,c,cur,E,by rw [hij];exact h1,h2⟩⟩
 | arf k es =>
  simp only [bkO,Option.some.injEq] at ho
  subst ho
  obtain ⟨h0,h1⟩:=e
  refine ⟨fun d hd=>?_,?_⟩
  ·obtain ⟨e',he',rfl⟩:=aT0 hd
   refine ⟨by rw [aSZ];exact (h0 e' he').1,fun c hc=>?_⟩
   obtain ⟨c',hc',rfl⟩:=aT1 hc
   rw [bAs]
   exact (h0 e' he').2 c' hc'
  ·rcases h1 with ⟨A,hA,rfl⟩ | ⟨g,c,cur,E,h1,h2,h3,h4,h5,h6,h7⟩
   ·exact .inl ⟨A,by rw [hij];exact hA,rfl⟩
   ·exact .inr ⟨g,c,cur,E,by rw [hij,aHW];exact h1,h2,by rw [aHW];exact h3,h4,h5,h6,by rw [aPj,aHW];exact aAU hφ h7⟩
 | lp r s =>
  simp only [bkO,Option.some.injEq] at ho
  subst ho
  obtain ⟨g,h1,h2,h3,h4,h5⟩:=e
  refine ⟨g,by rw [hij];exact h1,h2,h3,fun a x y hx hy=>?_,aW9 (f:=fun j=>r.tmps.getD j undef) hφ h5⟩
  obtain ⟨x',h6,rfl⟩:=aNW hx
  obtain ⟨y',h7,rfl⟩:=aNW hy
  rw [h4 a x' y' h6 h7]
 | mit m0 since seen st =>
  obtain ⟨g,mo,h1,h2,h3,h4⟩:=e
  cases m0 with
  | none =>
   simp only [bkO,Option.some.injEq] at ho
   subst ho
   exact ⟨g,mo,by rw [hij];exact h1,h2,h3,h4⟩
  | some m0 =>
   simp only [bkO,Option.some.injEq] at ho
   subst ho
   obtain ⟨b,h5,h6,h7⟩:=h4
   exact ⟨g,mo,by rw [hij];exact h1,h2,h3,b,h5,(hφ m0 h6).2,by rw [(hφ m0 h6).1];exact h7⟩
 | map ag ks vs bs cl =>
  simp only [bkO,Option.some.injEq] at ho
  subst ho
  obtain ⟨g,ens,h1,h2,h3,h4,h5,h6⟩:=e
  exact ⟨g,ens,by rw [hij];exact h1,h2,h3,h4,h5,aAU hφ h6⟩
theorem aT2 {L:List Nat}:∀ (L':List Nat) (T T':Tab),L'.length<=T'.length->(bkT L n T L' T').length=T.length+(T'.length-L'.length)
 | [],T,[],_=>by simp [bkT]
 | [],T,o::T',_=>by simp [bkT]
 | i::L',T,[],h=>by simp at h
 | i::L',T,o::T',h=>by
  simp only [bkT]
  rw [aT2 L' _ T' (by simpa using h)]
  simp
theorem aT3 {L:List Nat}:∀ (L':List Nat) (T T':Tab) (i:Nat) (o:AObj),L'.Nodup->(∀ x∈L',x<T.length)->L'.length<=T'.length->(bkT L n T L' T')[i]?=some (some o) ->
  (∃ j:Nat,L'[j]?=some i/\∃ o',T'[j]?=some o'/\bkO L n o'=some o)\/(i<T.length/\i∉L'/\T[i]?=some (some o))\/(T.length<=i/\∃ o',T'[L'.length+(i-T.length)]?=some o'/\bkO L n o'=some o)
 | [],T,[],i,o,_,_,_,e=>by
  simp only [bkT] at e
  refine .inr (.inl ⟨?_,by simp,e⟩)
  rcases Nat.lt_or_ge i T.length with hh | hh
  ·exact hh
  ·simp [List.getElem?_eq_none hh] at e
 | [],T,x::T',i,o,_,_,_,e=>by
  simp only [bkT] at e
  rcases Nat.lt_or_ge i T.length with hh | hh
  ·rw [List.getElem?_append_left hh] at e;exact .inr (.inl ⟨hh,by simp,e⟩)
  ·rw [List.getElem?_append_right hh,List.getElem?_map] at e
   refine .inr (.inr ⟨hh,?_⟩)
   simp only [List.length_nil,Nat.zero_add]
   cases hx:(x::T')[i-T.length]? with
   | none=>simp [hx] at e
   | some o'=>simp only [hx,Option.map_some,Option.some.injEq] at e;exact ⟨o',rfl,e⟩
 | a::L',T,[],i,o,_,_,h,_=>by simp at h
 | a::L',T,x::T',i,o,hn,hl,hle,e=>by
  simp only [bkT] at e
  obtain ⟨hna,hn'⟩:=List.nodup_cons.1 hn
  have ha:=hl a (by simp)
  rcases aT3 L' (T.set a (bkO L n x)) T' i o hn' (fun y hy=>by rw [List.length_set];exact hl y (by simp [hy])) (by simpa using hle) e with ⟨j,hj,h2⟩ | ⟨h1,h2,h3⟩ | ⟨h1,h2⟩
  ·exact .inl ⟨j+1,by simpa using hj,by simpa using h2⟩
  ·rw [List.length_set] at h1
   rw [List.getElem?_set] at h3
   split at h3
   ·rename_i hai
    subst hai
    injection h3 with h3
    exact .inl ⟨0,by simp,x,by simp,h3⟩
   ·rename_i hai
    exact .inr (.inl ⟨h1,by simp;exact ⟨fun e=>hai e.symm,h2⟩,h3⟩)
  ·rw [List.length_set] at h1 h2
   refine .inr (.inr ⟨h1,?_⟩)
   obtain ⟨o',h3,h4⟩:=h2
   exact ⟨o',by simp only [List.length_cons];rw [show L'.length+1+(i-T.length)=(L'.length+(i-T.length))+1 from by omega,List.getElem?_cons_succ];exact h3,h4⟩
theorem aPk {L:List Nat} {o':Option AObj} {o:AObj} (e:bkO L n o'=some o):∃ x,o'=some x:=by
 cases o' with
 | none=>simp [bkO] at e
 | some x=>exact ⟨x,rfl⟩
theorem aWa {L:List Nat} (hL:L.Nodup) {T:Tab} (hlt:∀ i∈L,i<T.length) {w:World} (hI:Inv h φ w T) {T':Tab} {h':GH} {φc':Nat->Value} {w':World}
  (hφ:aGp L φ φc) (hE:Evo h φc (rnT L T) w h' φc' T' w') (hI':Inv h' φc' w' T') {r:AV} {v:Value} (hr:Rp h' φc' T'.length r v) :
  ∃ φ',Evo h φ T w h' φ' (bkT L T.length T L T') w'/\Inv h' φ' w' (bkT L T.length T L T')/\Rp h' φ' (bkT L T.length T L T').length (bkA L T.length r) v:=by
 have hlen:(rnT L T).length=L.length:=by simp [rnT]
 have hle:L.length<=T'.length:=by have:=hE.len;omega
 have htl:=aT2 (L:=L) (n:=T.length) L T T' hle
 let φ':Nat->Value:=fun i=>if i<T.length then φ i else φc' (L.length+(i-T.length))
 have hφ':∀ j,j<T'.length->φ' (bk L T.length j)=φc' j/\bk L T.length j<(bkT L T.length T L T').length:=by
  intro j hj
  rcases Nat.lt_or_ge j L.length with hh | hh
  ·have hjg:L[j]?=some L[j]:=List.getElem?_eq_getElem hh
   have hmem:=hlt _ (List.getElem_mem hh)
   rw [bA4 hjg]
   refine ⟨?_,by omega⟩
   show (if L[j]<T.length then φ L[j] else _)=_
   rw [if_pos hmem,hE.phi j (by omega),hφ j _ hjg]
  ·rw [bA5 hh]
   refine ⟨?_,by omega⟩
   show (if T.length+(j-L.length)<T.length then _ else φc' (L.length+(T.length+(j-L.length)-T.length)))=_
   rw [if_neg (by omega)]
   congr 1
   omega
 have hold:∀ i,i<T.length->φ' i=φ i:=fun i hi=>if_pos hi
 have own_up:∀ b,(∃ j o,(rnT L T)[j]?=some (some o)/\blk (φc j)=some b)->∃ i o,i∈L/\T[i]?=some (some o)/\blk (φ i)=some b:=by
  rintro b ⟨j,o,hj,hb⟩
  obtain ⟨i,o',h1,h2,_⟩:=aE0 hj
  exact ⟨i,o',List.mem_of_getElem? h1,h2,by rw [<-hφ j i h1];exact hb⟩
 have beside:∀ i o,i<T.length->i∉L->T[i]?=some (some o)->∀ b,blk (φ i)=some b->b<w.heap.size/\h b=none/\¬∃ j o,(rnT L T)[j]?=some (some o)/\blk (φc j)=some b:=by
  intro i o hi hiL ho b hb
  obtain ⟨h1,h2⟩:=eU (hI.obj i o ho) hb
  refine ⟨h1,h2,fun hx=>?_⟩
  obtain ⟨i',o',hmem,ho',hb'⟩:=own_up b hx
  have:=hI.dis i i' o o' b ho ho' hb hb'
  exact hiL (this ▸ hmem)
 have kind:∀ i o,(bkT L T.length T L T')[i]?=some (some o) ->
   (∃ j x,j<T'.length/\bk L T.length j=i/\T'[j]?=some (some x)/\bkO L T.length (some x)=some o)\/(i<T.length/\i∉L/\T[i]?=some (some o)):=by
  intro i o e
  rcases aT3 L T T' i o hL hlt hle e with ⟨j,h1,o',h2,h3⟩ | h1 | ⟨h1,o',h2,h3⟩
  ·obtain ⟨x,rfl⟩:=aPk h3
   refine .inl ⟨j,x,?_,bA4 h1,h2,h3⟩
   rcases Nat.lt_or_ge j T'.length with hh | hh
   ·exact hh
   ·simp [List.getElem?_eq_none hh] at h2
  ·exact .inr h1
  ·obtain ⟨x,rfl⟩:=aPk h3
   refine .inl ⟨_,x,?_,?_,h2,h3⟩
   ·rcases Nat.lt_or_ge (L.length+(i-T.length)) T'.length with hh | hh
    ·exact hh
    ·simp [List.getElem?_eq_none hh] at h2
   ·rw [bA5 (by omega)];omega
 refine ⟨φ',⟨hE.os,hE.tape,hE.output,hE.size,?_,hE.le,?_,hold,?_,by omega,hE.drawn⟩,⟨hI'.gh,?_,?_⟩,aRj hφ' hr⟩
 ·intro b hb hn
  refine hE.frame b hb fun j o hj hbl=>?_
  obtain ⟨i,o',_,h1,h2⟩:=own_up b ⟨j,o,hj,hbl⟩
  exact hn i o' h1 h2
 ·intro b cs e
  rcases hE.gfr b cs e with h1 | h1 | ⟨j,o,hj,hbl⟩
  ·exact .inl h1
  ·exact .inr (.inl h1)
  ·obtain ⟨i,o',_,h1,h2⟩:=own_up b ⟨j,o,hj,hbl⟩
   exact .inr (.inr ⟨i,o',h1,h2⟩)
 ·intro i o b e hb
  rcases kind i o e with ⟨j,x,hj,rfl,hx,_⟩ | ⟨h1,h2,h3⟩
  ·rw [(hφ' j hj).1] at hb
   rcases hE.org j x b hx hb with h4 | ⟨j',o',h4,h5⟩
   ·exact .inl h4
   ·obtain ⟨i,o',_,h6,h7⟩:=own_up b ⟨j',o',h4,h5⟩
    exact .inr ⟨i,o',h6,h7⟩
  ·rw [hold i h1] at hb
   exact .inr ⟨i,o,h3,hb⟩
 ·intro i o e
  rcases kind i o e with ⟨j,x,hj,rfl,hx,ho⟩ | ⟨h1,h2,h3⟩
  ·exact bAt hφ' hj ho (hI'.obj j x hx)
  ·refine nO (hI.obj i o h3) hE.le (by omega) (fun j hj=>hold j hj) h1 fun g hg=>?_
   obtain ⟨h4,h5,h6⟩:=beside i o h1 h2 h3 g hg
   refine ⟨hE.frame g h4 fun j o hj hbl=>h6 ⟨j,o,hj,hbl⟩,?_⟩
   cases hh:h' g with
   | none=>rfl
   | some cs =>
    rcases hE.gfr g cs hh with h7 | h7 | h7
    ·rw [h5] at h7;simp at h7
    ·omega
    ·exact absurd h7 h6
 ·intro i i' o o' b e e' hb hb'
  have cross:∀ {i i':Nat} {o:AObj} {j:Nat} {x:AObj},i<T.length->i∉L->T[i]?=some (some o)->blk (φ i)=some b->T'[j]?=some (some x)->blk (φc' j)=some b->False:=by
   intro i i' o j x h1 h2 h3 hb hx hbx
   obtain ⟨h4,_,h6⟩:=beside i o h1 h2 h3 b hb
   rcases hE.org j x b hx hbx with h7 | h7
   ·omega
   ·exact h6 h7
  rcases kind i o e with ⟨j,x,hj,rfl,hx,_⟩ | ⟨h1,h2,h3⟩<;>rcases kind i' o' e' with ⟨j',x',hj',rfl,hx',_⟩ | ⟨h1',h2',h3'⟩
  ·rw [(hφ' j hj).1] at hb
   rw [(hφ' j' hj').1] at hb'
   rw [hI'.dis j j' x x' b hx hx' hb hb']
  ·rw [(hφ' j hj).1] at hb
   rw [hold i' h1'] at hb'
   exact (cross (i':=0) h1' h2' h3' hb' hx hb).elim
  ·rw [(hφ' j' hj').1] at hb'
   rw [hold i h1] at hb
   exact (cross (i':=0) h1 h2 h3 hb hx' hb').elim
  ·rw [hold i h1] at hb
   rw [hold i' h1'] at hb'
   exact hI.dis i i' o o' b h3 h3' hb hb'
end
end
end Hud
