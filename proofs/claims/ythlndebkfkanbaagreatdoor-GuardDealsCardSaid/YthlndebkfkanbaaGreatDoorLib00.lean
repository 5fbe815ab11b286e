import Derived.WalkKit
set_option linter.all false
namespace Hud
open Go
section
inductive AV where
 | v (x:Value)
 | ls (k:Nat) (es:List (List AV))
 | ag (cs:List AV)
 | own (i:Nat)
 | ptr (i off:Nat)
 | elt (i k j off:Nat)
 | vw (i k lo n:Nat)
 | mp (i:Nat)
 | yl (i:Nat)
 | bm (f k:Nat) (cs:List AV)
 | rp (cs:List AV)
 | cl (f:Nat) (caps:List AV)
 | tup (vs:List AV)
 | any
 deriving Inhabited
def aP:AV->Bool
 | .v (.agg _)=>false
 | .v (.tuple _)=>false
 | .v _=>true
 | .ls _ _=>true
 | _=>false
def gM:AV->Bool
 | .v (.agg _)=>false
 | .v (.tuple _)=>false
 | .v _=>true
 | .ls _ _=>true
 | .own _=>true
 | .ptr _ _=>true
 | .elt _ _ _ _=>true
 | .vw _ _ _ _=>true
 | .mp _=>true
 | .yl _=>true
 | .bm _ _ _=>true
 | .cl _ _=>true
 | .rp _=>true
 | _=>false
abbrev GH:=Nat->Option (Array Value)
def mH (h:GH) (b o:Nat):Option Value:=(h b).bind (·[o]?)
mutual
def RpD (h:GH):AV->Value->Prop
 | .v x,u=>u=x
 | .ls k es,u=>∃ A c,u=.slice A es.length c/\es.length<=c/\c<=maxLen/\(es=[]\/∃ b o,A=some ⟨b,o,none⟩/\fU h b k es o)
 | .ag cs,u=>∃ us:Array Value,u=.agg us/\bC h cs us.toList
 | .any,_=>True
 | _,_=>False
def fU (h:GH) (b k:Nat):List (List AV)->Nat->Prop
 | [],_=>True
 | e::es,o=>e.length=k/\iU h b e o/\fU h b k es (o+k)
def iU (h:GH) (b:Nat):List AV->Nat->Prop
 | [],_=>True
 | c::cs,o=>(∃ u,aP c=true/\mH h b o=some u/\RpD h c u)/\iU h b cs (o+1)
def bC (h:GH):List AV->List Value->Prop
 | [],us=>us=[]
 | c::cs,us=>∃ u us',us=u::us'/\RpD h c u/\bC h cs us'
end
mutual
def Rp (h:GH) (φ:Nat->Value) (n:Nat):AV->Value->Prop
 | .v x,u=>u=x
 | .ls k es,u=>RpD h (.ls k es) u
 | .ag cs,u=>∃ us:Array Value,u=.agg us/\RpL h φ n cs us.toList
 | .own i,u=>i<n/\u=φ i/\∃ A l c,u=.slice A l c
 | .ptr i off,u=>i<n/\∃ g,φ i=.pointer (some ⟨g,0,none⟩)/\u=.pointer (some ⟨g,off,none⟩)
 | .elt i k j off,u=>i<n/\∃ g l c,φ i=.slice (some ⟨g,0,none⟩) l c/\u=.pointer (some ⟨g,j*k+off,none⟩)
 | .mp i,u=>i<n/\u=φ i/\∃ g,u=.map (some g)
 | .yl i,u=>i<n/\u=φ i/\∃ l,u=.func (.yield l) #[] #[]
 | .bm f k caps,u=>∃ us:Array Value,u=.func (.func f) (us.toList.take k).toArray (us.toList.drop k).toArray/\RpL h φ n caps us.toList
 | .vw i k lo m,u=>i<n/\∃ A c,u=.slice A m c/\m<=c/\c<=maxLen/\(m=0\/∃ g l c',φ i=.slice (some ⟨g,0,none⟩) l c'/\A=some ⟨g,lo*k,none⟩/\lo+m<=l)
 | .rp cs,u=>∃ b o,u=.pointer (some ⟨b,o,none⟩)/\iU h b cs o
 | .cl f caps,u=>∃ us:Array Value,u=.func (.func f) #[] us/\RpL h φ n caps us.toList
 | .tup vs,u=>∃ us:Array Value,u=.tuple us/\RpL h φ n vs us.toList
 | .any,_=>True
def RpL (h:GH) (φ:Nat->Value) (n:Nat):List AV->List Value->Prop
 | [],us=>us=[]
 | c::cs,us=>∃ u us',us=u::us'/\Rp h φ n c u/\RpL h φ n cs us'
end
def GLe (h h':GH):Prop:=∀ b cs,h b=some cs->h' b=some cs
theorem GLe.refl (h:GH):GLe h h:=fun _ _ e=>e
theorem GLe.trans {a b c:GH} (h:GLe a b) (k:GLe b c):GLe a c:=fun x cs e=>k x cs (h x cs e)
theorem GLe.cell {h h':GH} (g:GLe h h') {b o:Nat} {u:Value} (e:mH h b o=some u):mH h' b o=some u:=by
 unfold mH at *
 cases hb:h b with
 | none=>simp [hb] at e
 | some cs=>rw [hb] at e;rw [g b cs hb];exact e
mutual
theorem RpD.mono {h h':GH} (g:GLe h h'):∀ {x:AV} {u:Value},RpD h x u->RpD h' x u
 | .v _,_,e=>by simpa [RpD] using e
 | .ls k es,u,e=>by
  simp only [RpD] at e ⊢
  obtain ⟨A,c,h1,h2,h3,h4⟩:=e
  exact ⟨A,c,h1,h2,h3,h4.imp id fun ⟨b,o,hA,hE⟩=>⟨b,o,hA,fU.mono g hE⟩⟩
 | .ag cs,u,e=>by
  simp only [RpD] at e ⊢
  obtain ⟨us,h1,h2⟩:=e
  exact ⟨us,h1,bC.mono g h2⟩
 | .any,_,_=>by simp [RpD]
 | .own _,_,e=>by simp [RpD] at e
 | .ptr _ _,_,e=>by simp [RpD] at e
 | .elt _ _ _ _,_,e=>by simp [RpD] at e
 | .vw _ _ _ _,_,e=>by simp [RpD] at e
 | .mp _,_,e=>by simp [RpD] at e
 | .yl _,_,e=>by simp [RpD] at e
 | .bm _ _ _,_,e=>by simp [RpD] at e
 | .rp _,_,e=>by simp [RpD] at e
 | .cl _ _,_,e=>by simp [RpD] at e
 | .tup _,_,e=>by simp [RpD] at e
theorem fU.mono {h h':GH} (g:GLe h h') {b k:Nat}:∀ {es:List (List AV)} {o:Nat},fU h b k es o->fU h' b k es o
 | [],_,_=>by simp [fU]
 | e::es,o,hh=>by
  simp only [fU] at hh ⊢
  exact ⟨hh.1,iU.mono g hh.2.1,fU.mono g hh.2.2⟩
theorem iU.mono {h h':GH} (g:GLe h h') {b:Nat}:∀ {cs:List AV} {o:Nat},iU h b cs o->iU h' b cs o
 | [],_,_=>by simp [iU]
 | c::cs,o,hh=>by
  simp only [iU] at hh ⊢
  obtain ⟨⟨u,h0,h1,h2⟩,h3⟩:=hh
  exact ⟨⟨u,h0,g.cell h1,RpD.mono g h2⟩,iU.mono g h3⟩
theorem bC.mono {h h':GH} (g:GLe h h'):∀ {cs:List AV} {us:List Value},bC h cs us->bC h' cs us
 | [],_,e=>by simpa [bC] using e
 | c::cs,us,hh=>by
  simp only [bC] at hh ⊢
  obtain ⟨u,us',h1,h2,h3⟩:=hh
  exact ⟨u,us',h1,RpD.mono g h2,bC.mono g h3⟩
end
mutual
theorem Rp.mono {h h':GH} {φ φ':Nat->Value} {n n':Nat} (g:GLe h h') (hn:n<=n') (hp:∀ i,i<n->φ' i=φ i):∀ {x:AV} {u:Value},Rp h φ n x u->Rp h' φ' n' x u
 | .v _,_,e=>by simpa [Rp] using e
 | .ls k es,u,e=>by simp only [Rp] at e ⊢;exact RpD.mono g e
 | .ag cs,u,e=>by
  simp only [Rp] at e ⊢
  obtain ⟨us,h1,h2⟩:=e
  exact ⟨us,h1,RpL.mono g hn hp h2⟩
 | .any,_,_=>by simp [Rp]
 | .own i,_,e=>by simp only [Rp] at e ⊢;exact ⟨by omega,by rw [hp i e.1];exact e.2.1,e.2.2⟩
 | .ptr i _,_,e=>by simp only [Rp] at e ⊢;exact ⟨by omega,by rw [hp i e.1];exact e.2⟩
 | .elt i _ _ _,_,e=>by simp only [Rp] at e ⊢;exact ⟨by omega,by rw [hp i e.1];exact e.2⟩
 | .vw i _ _ _,_,e=>by simp only [Rp] at e ⊢;exact ⟨by omega,by rw [hp i e.1];exact e.2⟩
 | .mp i,_,e=>by simp only [Rp] at e ⊢;exact ⟨by omega,by rw [hp i e.1];exact e.2.1,e.2.2⟩
 | .yl i,_,e=>by simp only [Rp] at e ⊢;exact ⟨by omega,by rw [hp i e.1];exact e.2.1,e.2.2⟩
 | .bm f k caps,u,e=>by
  simp only [Rp] at e ⊢
  obtain ⟨us,h1,h2⟩:=e
  exact ⟨us,h1,RpL.mono g hn hp h2⟩
 | .rp cs,u,e=>by
  simp only [Rp] at e ⊢
  obtain ⟨b,o,h1,h2⟩:=e
  exact ⟨b,o,h1,iU.mono g h2⟩
 | .cl f caps,u,e=>by
  simp only [Rp] at e ⊢
  obtain ⟨us,h1,h2⟩:=e
  exact ⟨us,h1,RpL.mono g hn hp h2⟩
 | .tup vs,u,e=>by
  simp only [Rp] at e ⊢
  obtain ⟨us,h1,h2⟩:=e
  exact ⟨us,h1,RpL.mono g hn hp h2⟩
theorem RpL.mono {h h':GH} {φ φ':Nat->Value} {n n':Nat} (g:GLe h h') (hn:n<=n') (hp:∀ i,i<n->φ' i=φ i):∀ {cs:List AV} {us:List Value},RpL h φ n cs us->RpL h' φ' n' cs us
 | [],_,e=>by simpa [RpL] using e
 | c::cs,us,hh=>by
  simp only [RpL] at hh ⊢
  obtain ⟨u,us',h1,h2,h3⟩:=hh
  exact ⟨u,us',h1,Rp.mono g hn hp h2,RpL.mono g hn hp h3⟩
end
mutual
theorem RpD.to {h:GH} {φ:Nat->Value} {n:Nat}:∀ {x:AV} {u:Value},RpD h x u->Rp h φ n x u
 | .v _,_,e=>by simpa [Rp,RpD] using e
 | .ls k es,u,e=>by simp only [Rp];exact e
 | .ag cs,u,e=>by
  simp only [RpD] at e
  simp only [Rp]
  obtain ⟨us,h1,h2⟩:=e
  exact ⟨us,h1,bC.to h2⟩
 | .any,_,_=>by simp [Rp]
 | .own _,_,e=>by simp [RpD] at e
 | .ptr _ _,_,e=>by simp [RpD] at e
 | .elt _ _ _ _,_,e=>by simp [RpD] at e
 | .vw _ _ _ _,_,e=>by simp [RpD] at e
 | .mp _,_,e=>by simp [RpD] at e
 | .yl _,_,e=>by simp [RpD] at e
 | .bm _ _ _,_,e=>by simp [RpD] at e
 | .rp _,_,e=>by simp [RpD] at e
 | .cl _ _,_,e=>by simp [RpD] at e
 | .tup _,_,e=>by simp [RpD] at e
theorem bC.to {h:GH} {φ:Nat->Value} {n:Nat}:∀ {cs:List AV} {us:List Value},bC h cs us->RpL h φ n cs us
 | [],_,e=>by simpa [bC,RpL] using e
 | c::cs,us,hh=>by
  simp only [bC] at hh
  simp only [RpL]
  obtain ⟨u,us',h1,h2,h3⟩:=hh
  exact ⟨u,us',h1,RpD.to h2,bC.to h3⟩
end
theorem RpL.length {h:GH} {φ:Nat->Value} {n:Nat}:∀ {cs:List AV} {us:List Value},RpL h φ n cs us->cs.length=us.length
 | [],us,e=>by simp only [RpL] at e;subst e;rfl
 | c::cs,us,e=>by
  simp only [RpL] at e
  obtain ⟨u,us',rfl,_,h⟩:=e
  simp [h.length]
theorem bC.length {h:GH}:∀ {cs:List AV} {us:List Value},bC h cs us->cs.length=us.length
 | [],us,e=>by simp only [bC] at e;subst e;rfl
 | c::cs,us,e=>by
  simp only [bC] at e
  obtain ⟨u,us',rfl,_,h⟩:=e
  simp [h.length]
theorem RpL.get {h:GH} {φ:Nat->Value} {n:Nat}:∀ {cs:List AV} {us:List Value},RpL h φ n cs us->∀ {i:Nat} {c:AV},cs[i]?=some c->∃ u,us[i]?=some u/\Rp h φ n c u
 | [],us,e,i,c,hi=>by simp at hi
 | d::cs,us,e,i,c,hi=>by
  simp only [RpL] at e
  obtain ⟨u,us',rfl,h1,h2⟩:=e
  cases i with
  | zero=>simp only [List.getElem?_cons_zero,Option.some.injEq] at hi;subst hi;exact ⟨u,by simp,h1⟩
  | succ i=>simp only [List.getElem?_cons_succ] at hi ⊢;exact h2.get hi
theorem RpL.mk {h:GH} {φ:Nat->Value} {n:Nat}:∀ {cs:List AV} {us:List Value},cs.length=us.length->(∀ (i:Nat) (c:AV) (u:Value),cs[i]?=some c->us[i]?=some u->Rp h φ n c u)->RpL h φ n cs us
 | [],us,e,_=>by simp only [RpL];exact List.eq_nil_of_length_eq_zero (by simpa using e.symm)
 | d::cs,[],e,_=>by simp at e
 | d::cs,u::us,e,hh=>by
  simp only [RpL]
  exact ⟨u,us,rfl,hh 0 d u (by simp) (by simp),RpL.mk (by simpa using e) fun i c x hc hx=>hh (i+1) c x (by simpa using hc) (by simpa using hx)⟩
theorem RpL.app {h:GH} {φ:Nat->Value} {n:Nat} {cs ds:List AV} {us vs:List Value} (a:RpL h φ n cs us) (b:RpL h φ n ds vs):RpL h φ n (cs++ds) (us++vs):=by
 induction cs generalizing us with
 | nil=>simp only [RpL] at a;subst a;simpa using b
 | cons c cs ih =>
  simp only [RpL] at a
  obtain ⟨u,us',rfl,h1,h2⟩:=a
  simp only [List.cons_append,RpL]
  exact ⟨u,us'++vs,rfl,h1,ih h2⟩
theorem RpL.take {h:GH} {φ:Nat->Value} {n:Nat} {cs:List AV} {us:List Value} (a:RpL h φ n cs us) (m:Nat):RpL h φ n (cs.take m) (us.take m) :=
 RpL.mk (by simp [a.length]) fun i c u hc hu=>by
  rw [List.getElem?_take] at hc hu
  split at hc
  ·rw [if_pos (by assumption)] at hu
   obtain ⟨u',h1,h2⟩:=a.get hc
   rw [h1] at hu
   injection hu with hu
   subst hu
   exact h2
  ·simp at hc
theorem RpL.drop {h:GH} {φ:Nat->Value} {n:Nat} {cs:List AV} {us:List Value} (a:RpL h φ n cs us) (m:Nat):RpL h φ n (cs.drop m) (us.drop m) :=
 RpL.mk (by simp [a.length]) fun i c u hc hu=>by
  rw [List.getElem?_drop] at hc hu
  obtain ⟨u',h1,h2⟩:=a.get hc
  rw [h1] at hu
  injection hu with hu
  subst hu
  exact h2
theorem RpL.set {h:GH} {φ:Nat->Value} {n:Nat} {cs:List AV} {us:List Value} (a:RpL h φ n cs us) {m:Nat} {c:AV} {u:Value} (hc:Rp h φ n c u):RpL h φ n (cs.set m c) (us.set m u) :=
 RpL.mk (by simp [a.length]) fun i d x hd hx=>by
  have hl:=a.length
  rw [List.getElem?_set] at hd hx
  by_cases hn:m=i
  ·simp only [hn,if_true] at hd hx
   split at hd
   ·rw [if_pos (by omega)] at hx;injection hd with hd;injection hx with hx;subst hd;subst hx;exact hc
   ·simp at hd
  ·simp only [hn,if_false] at hd hx
   obtain ⟨u',h1,h2⟩:=a.get hd
   rw [h1] at hx
   injection hx with hx
   subst hx
   exact h2
theorem bC.get {h:GH}:∀ {cs:List AV} {us:List Value},bC h cs us->∀ {i:Nat} {c:AV},cs[i]?=some c->∃ u,us[i]?=some u/\RpD h c u
 | [],us,e,i,c,hi=>by simp at hi
 | d::cs,us,e,i,c,hi=>by
  simp only [bC] at e
  obtain ⟨u,us',rfl,h1,h2⟩:=e
  cases i with
  | zero=>simp only [List.getElem?_cons_zero,Option.some.injEq] at hi;subst hi;exact ⟨u,by simp,h1⟩
  | succ i=>simp only [List.getElem?_cons_succ] at hi ⊢;exact h2.get hi
theorem bC.mk {h:GH}:∀ {cs:List AV} {us:List Value},cs.length=us.length->(∀ (i:Nat) (c:AV) (u:Value),cs[i]?=some c->us[i]?=some u->RpD h c u)->bC h cs us
 | [],us,e,_=>by simp only [bC];exact List.eq_nil_of_length_eq_zero (by simpa using e.symm)
 | d::cs,[],e,_=>by simp at e
 | d::cs,u::us,e,hh=>by
  simp only [bC]
  exact ⟨u,us,rfl,hh 0 d u (by simp) (by simp),bC.mk (by simpa using e) fun i c x hc hx=>hh (i+1) c x (by simpa using hc) (by simpa using hx)⟩
theorem iU.get {h:GH} {b:Nat}:∀ {cs:List AV} {o:Nat},iU h b cs o->∀ {i:Nat} {c:AV},cs[i]?=some c->∃ u,aP c=true/\mH h b (o+i)=some u/\RpD h c u
 | [],_,_,i,c,hi=>by simp at hi
 | d::cs,o,e,i,c,hi=>by
  simp only [iU] at e
  obtain ⟨⟨u,hc,h0,h1⟩,h2⟩:=e
  cases i with
  | zero=>simp only [List.getElem?_cons_zero,Option.some.injEq] at hi;subst hi;exact ⟨u,hc,h0,h1⟩
  | succ i=>simp only [List.getElem?_cons_succ] at hi;obtain ⟨u',c0,a,b⟩:=h2.get hi;exact ⟨u',c0,by rw [<-a];congr 1;omega,b⟩
theorem iU.mk {h:GH} {b:Nat}:∀ {cs:List AV} {o:Nat},(∀ (i:Nat) (c:AV),cs[i]?=some c->∃ u,aP c=true/\mH h b (o+i)=some u/\RpD h c u)->iU h b cs o
 | [],_,_=>by simp [iU]
 | d::cs,o,hh=>by
  simp only [iU]
  exact ⟨hh 0 d (by simp),iU.mk fun i c hc=>by obtain ⟨u,h0,h1,h2⟩:=hh (i+1) c (by simpa using hc);exact ⟨u,h0,by rw [<-h1];congr 1;omega,h2⟩⟩
theorem iU.drop {h:GH} {b:Nat} {cs:List AV} {o:Nat} (a:iU h b cs o) (n:Nat):iU h b (cs.drop n) (o+n) :=
 iU.mk fun i c hc=>by
  rw [List.getElem?_drop] at hc
  obtain ⟨u,h0,h1,h2⟩:=a.get hc
  exact ⟨u,h0,by rw [<-h1];congr 1;omega,h2⟩
theorem fU.get {h:GH} {b k:Nat}:∀ {es:List (List AV)} {o:Nat},fU h b k es o->∀ {j:Nat} {e:List AV},es[j]?=some e->e.length=k/\iU h b e (o+j*k)
 | [],_,_,j,e,hj=>by simp at hj
 | d::es,o,hh,j,e,hj=>by
  simp only [fU] at hh
  cases j with
  | zero=>simp only [List.getElem?_cons_zero,Option.some.injEq] at hj;subst hj;exact ⟨hh.1,by simpa using hh.2.1⟩
  | succ j=>simp only [List.getElem?_cons_succ] at hj;obtain ⟨h1,h2⟩:=hh.2.2.get hj;exact ⟨h1,by rw [show o+(j+1)*k=o+k+j*k from by rw [Nat.succ_mul];omega];exact h2⟩
theorem fU.mk {h:GH} {b k:Nat}:∀ {es:List (List AV)} {o:Nat},(∀ (j:Nat) (e:List AV),es[j]?=some e->e.length=k/\iU h b e (o+j*k))->fU h b k es o
 | [],_,_=>by simp [fU]
 | d::es,o,hh=>by
  simp only [fU]
  obtain ⟨h1,h2⟩:=hh 0 d (by simp)
  exact ⟨h1,by simpa using h2,fU.mk fun j e hj=>by obtain ⟨h3,h4⟩:=hh (j+1) e (by simpa using hj);exact ⟨h3,by rw [show o+(j+1)*k=o+k+j*k from by rw [Nat.succ_mul];omega] at h4;exact h4⟩⟩
end
section
inductive AObj where
 | box (cs:List AV)
 | arr (k:Nat) (es:List (List AV))
 | arf (k:Nat) (es:List (List AV))
 | map (ag:Bool) (ks:List (List Value)) (vs:List AV) (bs:List Nat) (cl:Nat)
 | lp (r:Loop) (s:List (Nat×AV))
 | mit (m:Option Nat) (since:Nat) (seen:List Nat) (st:Nat)
 deriving Inhabited
abbrev Tab:=List (Option AObj)
def blk:Value->Option Nat
 | .pointer (some a)=>some a.block
 | .slice (some a) _ (_+1)=>some a.block
 | .map (some g)=>some g
 | .func (.yield l) _ _=>some l
 | _=>none
def fD (ag:Bool) (xs:List Value):Value:=if ag then .agg xs.toArray else xs.getD 0 undef
def sF (h:GH) (φ:Nat->Value) (n:Nat) (w:World) (i:Nat):AObj->Prop
 | .box cs=>∃ (g:Nat) (us:Array Value) (E:TypeId),φ i=.pointer (some ⟨g,0,none⟩)/\w.heap[g]?=some (.cells us E (0,0))/\h g=none/\RpL h φ n cs us.toList
 | .arr k es=>(∀ e∈es,e.length=k/\∀ c∈e,aP c=true)/\((∃ A,φ i=.slice A 0 0/\es=[]) \/
   ∃ (g c:Nat) (cur:Array Value) (E:TypeId),φ i=.slice (some ⟨g,0,none⟩) es.length (c+1)/\w.heap[g]?=some (.cells cur E (0,0))/\es.length<=c+1/\c+1<=maxLen/\cur.size=(c+1)*k/\h g=none /\
    bC h es.flatten (cur.toList.take (es.length*k)))
 | .arf k es=>(∀ e∈es,e.length=k/\∀ c∈e,gM c=true)/\((∃ A,φ i=.slice A 0 0/\es=[]) \/
   ∃ (g c:Nat) (cur:Array Value) (E:TypeId),φ i=.slice (some ⟨g,0,none⟩) es.length (c+1)/\w.heap[g]?=some (.cells cur E (0,0))/\es.length<=c+1/\c+1<=maxLen/\cur.size=(c+1)*k/\h g=none /\
    RpL h φ n es.flatten (cur.toList.take (es.length*k)))
 | .lp r s=>∃ l:Nat,φ i=.func (.yield l) #[] #[]/\w.heap[l]?=some (.loop r)/\h l=none/\(∀ i x y,(i,x)∈s->(i,y)∈s->x=y)/\∀ p∈s,Rp h φ n p.2 (r.tmps.getD p.1 undef)
 | .mit m since seen st=>∃ (g:Nat) (mo:Option Nat),φ i=.pointer (some ⟨g,0,none⟩)/\w.heap[g]?=some (.mapIter mo since seen.toArray st)/\h g=none /\
   (match m with | none=>mo=none | some j=>∃ b,mo=some b/\j<n/\φ j=.map (some b))
 | .map ag ks vs bs cl=>∃ (g:Nat) (ens:Array MapEntry),φ i=.map (some g)/\w.heap[g]?=some (.map ens cl)/\h g=none /\
   ens.toList.map (·.key)=ks.map (fD ag)/\ens.toList.map (·.born)=bs/\RpL h φ n vs (ens.toList.map (·.val))
structure Inv (h:GH) (φ:Nat->Value) (w:World) (T:Tab):Prop where
 gh:∀ b cs,h b=some cs->∃ E fr,w.heap[b]?=some (.cells cs E fr)
 obj:∀ i o,T[i]?=some (some o)->sF h φ T.length w i o
 dis:∀ i j oi oj b,T[i]?=some (some oi)->T[j]?=some (some oj)->blk (φ i)=some b->blk (φ j)=some b->i=j
structure Evo (h:GH) (φ:Nat->Value) (T:Tab) (w:World) (h':GH) (φ':Nat->Value) (T':Tab) (w':World):Prop where
 os:w'.os=w.os
 tape:w'.tape=w.tape
 output:w'.output=w.output
 size:w.heap.size<=w'.heap.size
 frame:∀ b,b<w.heap.size->(∀ i o,T[i]?=some (some o)->blk (φ i)≠some b)->w'.heap[b]?=w.heap[b]?
 le:GLe h h'
 gfr:∀ b cs,h' b=some cs->h b=some cs\/w.heap.size<=b\/∃ i o,T[i]?=some (some o)/\blk (φ i)=some b
 phi:∀ i,i<T.length->φ' i=φ i
 org:∀ i o b,T'[i]?=some (some o)->blk (φ' i)=some b->w.heap.size<=b\/∃ j oj,T[j]?=some (some oj)/\blk (φ j)=some b
 len:T.length<=T'.length
 drawn:w.drawn<=w'.drawn
theorem Evo.refl {h:GH} {φ:Nat->Value} {T:Tab} {w:World}:Evo h φ T w h φ T w :=
 ⟨rfl,rfl,rfl,Nat.le_refl _,fun _ _ _=>rfl,GLe.refl h,fun _ _ e=>.inl e,fun _ _=>rfl,fun i o b hi hb=>.inr ⟨i,o,hi,hb⟩,Nat.le_refl _,Nat.le_refl _⟩
theorem Evo.trans {h0 h1 h2:GH} {φ0 φ1 φ2:Nat->Value} {T0 T1 T2:Tab} {w0 w1 w2:World} (a:Evo h0 φ0 T0 w0 h1 φ1 T1 w1) (b:Evo h1 φ1 T1 w1 h2 φ2 T2 w2) :
  Evo h0 φ0 T0 w0 h2 φ2 T2 w2 where
 os:=b.os.trans a.os
 tape:=b.tape.trans a.tape
 output:=b.output.trans a.output
 size:=Nat.le_trans a.size b.size
 frame:=fun g hg hn=>by
  rw [b.frame g (Nat.lt_of_lt_of_le hg a.size) (fun i o hi hb=>?_),a.frame g hg hn]
  rcases a.org i o g hi hb with h | ⟨j,oj,hj,hbj⟩
  ·omega
  ·exact hn j oj hj hbj
 le:=a.le.trans b.le
 gfr:=fun g cs hg=>by
  rcases b.gfr g cs hg with h | h | ⟨i,o,hi,hb⟩
  ·exact a.gfr g cs h
  ·exact .inr (.inl (Nat.le_trans a.size h))
  ·exact .inr (a.org i o g hi hb)
 phi:=fun i hi=>(b.phi i (Nat.lt_of_lt_of_le hi a.len)).trans (a.phi i hi)
 org:=fun i o g hi hb=>by
  rcases b.org i o g hi hb with h | ⟨j,oj,hj,hbj⟩
  ·exact .inl (Nat.le_trans a.size h)
  ·exact a.org j oj g hj hbj
 len:=Nat.le_trans a.len b.len
 drawn:=Nat.le_trans a.drawn b.drawn
def GOk (G:Nat->Option (List AV)) (h:GH):Prop:=∀ g cs,G g=some cs->iU h g cs 0
theorem GOk.mono {G:Nat->Option (List AV)} {h h':GH} (a:GOk G h) (g:GLe h h'):GOk G h':=fun i cs e=>(a i cs e).mono g
def Ret (h:GH) (φ:Nat->Value) (T:Tab) (w:World) (post:AV->Tab->Prop) (v:Value) (w':World):Prop :=
 ∃ r T' h' φ',post r T'/\Evo h φ T w h' φ' T' w'/\Inv h' φ' w' T'/\Rp h' φ' T'.length r v
def aD (P:Program) (G:Nat->Option (List AV)) (f:FuncId) (args:List AV) (T:Tab) (post:AV->Tab->Prop):Prop :=
 ∀ (h:GH) (φ:Nat->Value) (w:World) (vals:Array Value),GOk G h->Inv h φ w T->RpL h φ T.length args vals.toList ->
  ((callFunc f vals).run P w=.ok (.enter f vals) w/\Calls P f vals w (fun e w'=>∃ v,e=.returned v/\Ret h φ T w post v w')) \/
  (∃ v w',(callFunc f vals).run P w=.ok (.value v) w'/\Ret h φ T w post v w')
def yR (P:Program) (G:Nat->Option (List AV)) (i:Nat) (args:List AV) (T:Tab) (post:AV->Tab->Prop):Prop :=
 ∀ (h:GH) (φ:Nat->Value) (w:World) (vals:Array Value) (l:Nat),GOk G h->Inv h φ w T->RpL h φ T.length args vals.toList->φ i=.func (.yield l) #[] #[] ->
  ∃ (f:FuncId) (tmps:Array Value) (assign body:Code),(Instr.yield l vals).run P w=.ok (.round l f tmps assign body) w /\
   RoundIn Fence.wide 0 P l f tmps assign body w (fun e w'=>∃ v,e=.returned v/\Ret h φ T w post v w')
theorem Ret.mono {h:GH} {φ:Nat->Value} {T:Tab} {w:World} {p q:AV->Tab->Prop} {v:Value} {w':World} (a:Ret h φ T w p v w') (hpq:∀ r T',p r T'->q r T'):Ret h φ T w q v w' :=
 let ⟨r,T',h',φ',e1,e2⟩:=a
 ⟨r,T',h',φ',hpq _ _ e1,e2⟩
theorem yR.mono {P:Program} {G:Nat->Option (List AV)} {i:Nat} {args:List AV} {T:Tab} {p q:AV->Tab->Prop} (a:yR P G i args T p) (hpq:∀ r T',p r T'->q r T'):yR P G i args T q :=
 fun h φ w vals l hG hI hA hl =>
  let ⟨f,tmps,as_,body,h1,h2⟩:=a h φ w vals l hG hI hA hl
  ⟨f,tmps,as_,body,h1,h2.mono fun _ _ ⟨v,e1,e2⟩=>⟨v,e1,e2.mono hpq⟩⟩
theorem aD.mono {P:Program} {G:Nat->Option (List AV)} {f:FuncId} {args:List AV} {T:Tab} {p q:AV->Tab->Prop} (a:aD P G f args T p) (hpq:∀ r T',p r T'->q r T') :
  aD P G f args T q:=fun h φ w vals hG hI hA =>
 (a h φ w vals hG hI hA).imp (fun ⟨e,c⟩=>⟨e,c.mono fun _ _ ⟨v,e1,e2⟩=>⟨v,e1,e2.mono hpq⟩⟩) (fun ⟨v,w',e,c⟩=>⟨v,w',e,c.mono hpq⟩)
end
section
inductive LK where
 | int (k:IntKind)
 | bool
 | str
 deriving DecidableEq,Inhabited
inductive HOp where
 | mov (x:Operand)
 | pick (c a b:Operand)
 | bin (op:BinOp) (x y:Operand)
 | eqa (neg:Bool) (ks:List LK) (x y:Operand)
 | eqb (neg:Bool) (x y:Operand)
 | un (op:UnOp) (x:Operand)
 | conv (k:IntKind) (x:Operand)
 | box (x:Operand)
 | alloc (z:List Value)
 | bld (z:List Value) (parts:List (Nat×Nat×Operand))
 | bsl (k:Nat) (z:List Value) (parts:List (Nat×Nat×Operand)) (len:Nat)
 | ld (n:Option Nat) (p:Operand)
 | st (n:Nat) (p x:Operand)
 | fad (p:Operand) (off:Nat)
 | fld (x:Operand) (off:Nat) (n:Option Nat)
 | iad (x ix:Operand) (k:Nat)
 | iadA (x ix:Operand) (len k:Nat)
 | ixS (x ix:Operand)
 | lenS (x:Operand)
 | lenL (x:Operand)
 | app (x y:Operand) (k bytes:Nat)
 | ext (x:Operand) (i:Nat)
 | clo (f:FuncId) (caps:List Operand)
 | call (f:Operand) (args:List Operand)
 | nilc (x:Operand)
 | slc (x:Operand) (lo hi:Option Operand) (k:Nat)
 | slcS (x:Operand) (lo hi:Option Operand)
 | nilS (neg:Bool) (kind:Nat) (x:Operand)
 | mm (max:Bool) (x y:Operand)
 | mkm (ag:Bool)
 | lku (ag:Bool) (ls:List LK) (z:Value) (m k:Operand) (ok:Bool)
 | mup (ag:Bool) (ls:List LK) (m k x:Operand)
 | men (ag:Bool) (ls:List LK) (z:Value) (m k:Operand)
 | mst (m s x:Operand)
 | del (ag:Bool) (ls:List LK) (m k:Operand)
 | lenM (m:Operand)
 | mks (k:Nat) (z:List Value) (bytes:Nat) (x y:Operand)
 | s2b (x:Operand)
 | b2s (x:Operand)
 | apS (x y:Operand)
 | slx (x:Operand) (lo:Option Operand) (hi mx:Operand) (k:Nat)
 | bmo (f:FuncId) (k:Nat) (caps:List Operand)
 | rgm (m:Operand)
 | nxt (p:Operand)
 | ent (p:Operand)
 | bad
 | clr (x:Operand) (k:Nat) (z:List Value)
 | bslS (k:Nat) (z:List Value) (parts:List (Nat×Nat×Operand)) (len:Nat)
 deriving Inhabited
structure HOper where
 dst:Option Nat
 op:HOp
 guard:Option (Nat×Bool)
 deriving Inhabited
inductive HD where
 | done (gc:Bool)
 | no
 | q (o:HOper) (next:HD)
 | alt (o:HOper) (chk:List HOper) (next other:HD)
 | perm (chk ops:List HOper) (next:HD)
 | plan (hops:List HOper) (pre:List (List Nat)) (n:Nat) (gc:Bool) (E:List Nat)
 deriving Inhabited
inductive HC where
 | skip
 | reg (ops:List HOper)
 | regd (d:HD)
 | seq (a b:HC)
 | cond (c:Operand) (a b:HC)
 | block (id:Nat) (a:HC)
 | loop (drop:List Nat) (a:HC)
 | exit (id:Nat)
 | ret
 | kill (d:List Nat)
 | own (j:Nat) (c:Option Nat) (k:Nat)
 | shut (j:Nat)
 | rng (g:Operand) (ps d:List Nat) (a b:HC)
 deriving Inhabited
structure St where
 r:Nat
 s:List (Nat×AV)
 T:Tab
 deriving Inhabited
def aK:List (Nat×AV)->Nat->AV
 | [],_=>.any
 | (i,x)::r,j=>if i=j then x else aK r j
def aDR:List (Nat×AV)->Nat->List (Nat×AV)
 | [],_=>[]
 | (i,x)::r,j=>if i=j then aDR r j else (i,x)::aDR r j
def aAQ (l:List (Nat×AV)) (j:Nat) (x:AV):List (Nat×AV):=(j,x)::aDR l j
def cG (l:List (Nat×AV)) (d:Option Nat) (x:AV):List (Nat×AV):=match d with | some j=>aAQ l j x | none=>l
def evO (G:Nat->Option (List AV)) (s:List (Nat×AV)):Operand->AV
 | .tmp t=>aK s t
 | .const x=>.v x
 | .global g=>match G g with | some cs=>.rp cs | none=>.any
 | .func f=>.cl f []
def mI:Option AObj->Option (Nat×List (List AV)×Bool)
 | some (.arr k es)=>some (k,es,true)
 | some (.arf k es)=>some (k,es,false)
 | _=>none
def eR:Bool->Nat->List (List AV)->AObj
 | true,k,es=>.arr k es
 | false,k,es=>.arf k es
def okC:Bool->AV->Bool
 | true,c=>aP c
 | false,c=>gM c
def bK (T:Tab) (i:Nat):Option AObj:=match T[i]? with | some (some o)=>some o | _=>none
def bR:AV->List AV
 | .ag cs=>cs
 | .v (.agg us)=>us.toList.map .v
 | x=>[x]
def aPb:AV->Option (List AV)
 | .ag cs=>some cs
 | .v (.agg us)=>some (us.toList.map .v)
 | _=>none
def aIp (cs:List AV) (off:Nat):Option Nat->Option AV
 | none=>cs[off]?
 | some n=>if off+n<=cs.length then some (.ag ((cs.drop off).take n)) else none
def aU (op:BinOp):Value->Value->Option Value
 | .int k a,.int k' b =>
  match op with
  | .shl=>if b<0 then none else some (.int k (k.wrap (a*2^(min b.toNat k.bits))))
  | .shr=>if b<0 then none else some (.int k (a.fdiv (2^(min b.toNat k.bits))))
  | _ =>
   if k=k' then
    match op with
    | .add=>some (.int k (k.wrap (a+b)))
    | .sub=>some (.int k (k.wrap (a-b)))
    | .mul=>some (.int k (k.wrap (a*b)))
    | .quo=>if b=0 then none else some (.int k (k.wrap (a.tdiv b)))
    | .rem=>if b=0 then none else some (.int k (a.tmod b))
    | .and=>some (.int k (k.wrap (BitVec.ofInt k.bits a &&& BitVec.ofInt k.bits b).toNat))
    | .or=>some (.int k (k.wrap (BitVec.ofInt k.bits a ||| BitVec.ofInt k.bits b).toNat))
    | .xor=>some (.int k (k.wrap (BitVec.ofInt k.bits a ^^^ BitVec.ofInt k.bits b).toNat))
    | .andNot=>some (.int k (k.wrap (BitVec.ofInt k.bits a &&& ~~~ (BitVec.ofInt k.bits b)).toNat))
    | .eql=>some (.bool (a==b))
    | .neq=>some (.bool (a !=b))
    | .lss=>some (.bool (a<b))
    | .leq=>some (.bool (a<=b))
    | .gtr=>some (.bool (a>b))
    | .geq=>some (.bool (a>=b))
    | _=>none
   else none
 | .string a,.string b =>
  match op with
  | .add=>if a.size+b.size<=maxLen then some (.string (a++b)) else none
  | .eql=>some (.bool (a.toList==b.toList))
  | .neq=>some (.bool (!(a.toList==b.toList)))
  | .lss=>some (.bool (Op.bytesLess a.toList b.toList))
  | .leq=>some (.bool (Op.bytesLess a.toList b.toList||a.toList==b.toList))
  | .gtr=>some (.bool (!(Op.bytesLess a.toList b.toList||a.toList==b.toList)))
  | .geq=>some (.bool (!Op.bytesLess a.toList b.toList))
  | _=>none
 | _,_=>none
def pun (op:UnOp):Value->Option Value
 | .bool b=>match op with | .not=>some (.bool (!b)) | _=>none
 | .int k n=>match op with
  | .neg=>some (.int k (k.wrap (0-n)))
  | .xor=>some (.int k (k.wrap (BitVec.ofInt k.bits (if k.signed then -1 else k.max) ^^^ BitVec.ofInt k.bits n).toNat))
  | _=>none
 | _=>none
def eqC:List LK->List AV->List AV->Option Bool
 | [],[],[]=>some true
 | .int k::ks,.v (.int k1 a)::cs,.v (.int k2 b)::ds=>if k1=k/\k2=k then (match eqC ks cs ds with | some r=>some (a==b&&r) | none=>none) else none
 | .bool::ks,.v (.bool a)::cs,.v (.bool b)::ds=>match eqC ks cs ds with | some r=>some (a==b&&r) | none=>none
 | .str::ks,.v (.string a)::cs,.v (.string b)::ds=>match eqC ks cs ds with | some r=>some (a.toList==b.toList&&r) | none=>none
 | _,_,_=>none
def eqV:List LK->List Value->List Value->Option Bool
 | [],[],[]=>some true
 | .int k::ks,.int k1 a::cs,.int k2 b::ds=>if k1=k/\k2=k then (match eqV ks cs ds with | some r=>some (a==b&&r) | none=>none) else none
 | .bool::ks,.bool a::cs,.bool b::ds=>match eqV ks cs ds with | some r=>some (a==b&&r) | none=>none
 | .str::ks,.string a::cs,.string b::ds=>match eqV ks cs ds with | some r=>some (a.toList==b.toList&&r) | none=>none
 | _,_,_=>none
def jV (ls:List LK) (k:List Value):List (List Value)->Nat->Option (Option Nat)
 | [],_=>some none
 | k'::r,i=>match eqV ls k k' with
  | some true=>some (some i)
  | some false=>jV ls k r (i+1)
  | none=>none
def yS:List AV->Option (List Value)
 | []=>some []
 | .v x::r=>match yS r with
  | some l=>some (x::l)
  | none=>none
 | _::_=>none
def aIq (ag:Bool) (ls:List LK) (x:AV):Option (List Value) :=
 match (if ag then (match aPb x with | some cs=>yS cs | none=>none) else (match x with | .v u=>some [u] | _=>none)) with
 | some k=>match eqV ls k k with
  | some _=>some k
  | none=>none
 | none=>none
def aVZ (T:Tab) (ag:Bool):AV->Option (List (List Value)×List AV)
 | .v (.map none)=>some ([],[])
 | .mp i=>match bK T i with
  | some (.map ag' ks vs _ _)=>if ag=ag' then some (ks,vs) else none
  | _=>none
 | _=>none
def aFf (cells:List AV):List (Nat×Nat×AV)->Option (List AV)
 | []=>some cells
 | (off,n,x)::r =>
  if (bR x).length=n/\off+n<=cells.length/\(bR x).all gM=true then aFf (cells.take off++bR x++cells.drop (off+n)) r else none
def oQ (k:Nat):Nat->List AV->List (List AV)
 | 0,_=>[]
 | n+1,cs=>cs.take k::oQ k n (cs.drop k)
def iG (s:ByteArray):List (List AV):=s.data.toList.map fun b=>[.v (.int .u8 b.toNat)]
def aGm:List (List AV)->Option (List UInt8)
 | []=>some []
 | [.v (.int .u8 n)]::r=>match aGm r with
  | some l=>some (UInt8.ofNat n.toNat::l)
  | none=>none
 | _::_=>none
def aNO (T:Tab) (k:Nat):AV->Option (List (List AV))
 | .ls k' es=>if k=k' then some es else none
 | .own a=>match bK T a with
  | some (.arr k' es)=>if k=k' then some es else none
  | _=>none
 | .v (.slice none 0 0)=>some []
 | .vw a k' lo m=>match bK T a with
  | some (.arr k'' es)=>if k=k'/\k=k''/\lo+m<=es.length then some ((es.drop lo).take m) else none
  | _=>none
 | _=>none
def aUd:AV->Option Nat
 | .v (.int _ n)=>if 0<=n then some n.toNat else none
 | _=>none
mutual
def eN:AV->List Nat
 | .own i=>[i]
 | .ptr i _=>[i]
 | .elt i _ _ _=>[i]
 | .vw i _ _ _=>[i]
 | .mp i=>[i]
 | .yl i=>[i]
 | .bm _ _ cs=>fI cs
 | .ag cs=>fI cs
 | .cl _ cs=>fI cs
 | .tup cs=>fI cs
 | _=>[]
def fI:List AV->List Nat
 | []=>[]
 | c::cs=>eN c++fI cs
end
mutual
def slA (i k:Nat) (es:List (List AV)):AV->AV
 | .own j=>if j=i then .ls k es else .own j
 | .elt j k' m off=>if j=i then (if k'=k then (match es[m]? with | some e=>.rp (e.drop off) | none=>.any) else .any) else .elt j k' m off
 | .vw j k' lo m=>if j=i then (if k'=k/\lo+m<=es.length then .ls k ((es.drop lo).take m) else .any) else .vw j k' lo m
 | .ag cs=>.ag (slL i k es cs)
 | .cl f cs=>.cl f (slL i k es cs)
 | .bm f m cs=>.bm f m (slL i k es cs)
 | .tup cs=>.tup (slL i k es cs)
 | x=>x
def slL (i k:Nat) (es:List (List AV)):List AV->List AV
 | []=>[]
 | c::cs=>slA i k es c::slL i k es cs
end
def slS (i k:Nat) (es:List (List AV)):List (Nat×AV)->List (Nat×AV)
 | []=>[]
 | (j,x)::r=>(j,slA i k es x)::slS i k es r
def slF (i k:Nat) (es:List (List AV)):List (List AV)->List (List AV)
 | []=>[]
 | e::r=>slL i k es e::slF i k es r
def slO (i k:Nat) (es:List (List AV)):AObj->Option AObj
 | .box cs=>some (.box (slL i k es cs))
 | .arf k' es'=>if (slF i k es es').all (·.all gM) then some (.arf k' (slF i k es es')) else none
 | .lp r s=>some (.lp r (slS i k es s))
 | .mit a b c d=>some (.mit a b c d)
 | .map ag ks vs bs cl=>some (.map ag ks (slL i k es vs) bs cl)
 | .arr k' es'=>some (.arr k' es')
def slT (i k:Nat) (es:List (List AV)):Tab->Tab
 | []=>[]
 | o::r=>o.bind (slO i k es)::slT i k es r
def aCw (T:Tab):List Nat->Tab
 | []=>T
 | i::r=>match bK T i with
  | some (.arr k es)=>aCw ((slT i k es T).set i none) r
  | _=>aCw T r
def oR (T:Tab):List Nat->AV->AV
 | [],x=>x
 | i::r,x=>match bK T i with
  | some (.arr k es)=>oR ((slT i k es T).set i none) r (slA i k es x)
  | _=>oR T r x
def hop (T:Tab) (ev:Operand->AV):HOp->Option (AV×Tab)
 | .mov x=>some (ev x,T)
 | .pick c a b=>match ev c with
  | .v (.bool t)=>some (if t then ev a else ev b,T)
  | _=>none
 | .bin op x y=>match ev x,ev y with
  | .v a,.v b=>match aU op a b with
   | some u=>some (.v u,T)
   | none=>none
  | _,_=>none
 | .eqa neg ks x y=>match aPb (ev x),aPb (ev y) with
  | some cs,some ds=>match eqC ks cs ds with
   | some t=>some (.v (.bool (if neg then !t else t)),T)
   | none=>none
  | _,_=>none
 | .eqb neg x y=>match ev x,ev y with
  | .v (.bool a),.v (.bool b)=>some (.v (.bool (if neg then !(a==b) else a==b)),T)
  | _,_=>none
 | .un op x=>match ev x with
  | .v a=>match pun op a with
   | some u=>some (.v u,T)
   | none=>none
  | _=>none
 | .conv k x=>match ev x with
  | .v (.int _ n)=>some (.v (.int k (k.wrap n)),T)
  | _=>none
 | .box x=>if (bR (ev x)).all gM then some (.ptr T.length 0,T++[some (.box (bR (ev x)))]) else none
 | .alloc z=>some (.ptr T.length 0,T++[some (.box (z.map .v))])
 | .bld z parts=>match aFf (z.map .v) (parts.map fun p=>(p.1,p.2.1,ev p.2.2)) with
  | some cs=>some (.ag cs,T)
  | none=>none
 | .bsl k z parts len=>match aFf (z.map .v) (parts.map fun p=>(p.1,p.2.1,ev p.2.2)) with
  | some cs=>if cs.all aP then some (.own T.length,T++[some (.arr k (oQ k len cs))]) else if cs.all gM then some (.own T.length,T++[some (.arf k (oQ k len cs))]) else none
  | none=>none
 | .bslS k z parts len=>match aFf (z.map .v) (parts.map fun p=>(p.1,p.2.1,oR T (fI (parts.map fun p=>ev p.2.2)) (ev p.2.2))) with
  | some cs=>if cs.all aP then some (.own (aCw T (fI (parts.map fun p=>ev p.2.2))).length,aCw T (fI (parts.map fun p=>ev p.2.2))++[some (.arr k (oQ k len cs))]) else none
  | none=>none
 | .ld n p=>match ev p with
  | .ptr i off=>match bK T i with
   | some (.box cs)=>match aIp cs off n with
    | some x=>some (x,T)
    | none=>none
   | _=>none
  | .rp cs=>match aIp cs 0 n with
   | some x=>some (x,T)
   | none=>none
  | .elt i k j off=>match mI (bK T i) with
   | some (k',es,_)=>if k=k' then match es[j]? with
    | some e=>match aIp e off n with
     | some x=>some (x,T)
     | none=>none
    | none=>none else none
   | _=>none
  | _=>none
 | .st n p x=>match ev p with
  | .ptr i off=>match bK T i with
   | some (.box cs) =>
    if (bR (ev x)).length=n/\off+n<=cs.length/\(bR (ev x)).all gM then
     some (.v undef,T.set i (some (.box (cs.take off++bR (ev x)++cs.drop (off+n)))))
    else none
   | _=>none
  | .elt i k j off=>match mI (bK T i) with
   | some (k',es,b)=>if k=k' then match es[j]? with
    | some e =>
     if (bR (ev x)).length=n/\off+n<=e.length/\(bR (ev x)).all (okC b) then
      some (.v undef,T.set i (some (eR b k (es.set j (e.take off++bR (ev x)++e.drop (off+n))))))
     else none
    | none=>none else none
   | _=>none
  | _=>none
 | .fad p off=>match ev p with
  | .ptr i o=>some (.ptr i (o+off),T)
  | .elt i k j o=>some (.elt i k j (o+off),T)
  | .rp cs=>some (.rp (cs.drop off),T)
  | _=>none
 | .fld x off n=>match ev x with
  | .ag cs=>match aIp cs off n with
   | some y=>some (y,T)
   | none=>none
  | .v (.agg us)=>match aIp (us.toList.map .v) off n with
   | some y=>some (y,T)
   | none=>none
  | _=>none
 | .iad x ix k=>match ev x,ev ix with
  | .ls k' es,.v (.int _ i)=>if k=k'/\0<=i then match es[i.toNat]? with
   | some e=>some (.rp e,T)
   | none=>none else none
  | .own a,.v (.int _ i)=>match mI (bK T a) with
   | some (k',es,_)=>if k=k'/\0<=i/\i.toNat<es.length then some (.elt a k i.toNat 0,T) else none
   | _=>none
  | .vw a k' lo m,.v (.int _ i)=>if k=k'/\0<=i/\i.toNat<m then some (.elt a k (lo+i.toNat) 0,T) else none
  | _,_=>none
 | .iadA x ix len k=>match ev x,ev ix with
  | .ptr a o,.v (.int _ i)=>if 0<=i/\i<len then some (.ptr a (o+i.toNat*k),T) else none
  | .rp cs,.v (.int _ i)=>if 0<=i/\i<len then some (.rp (cs.drop (i.toNat*k)),T) else none
  | _,_=>none
 | .ixS x ix=>match ev x,ev ix with
  | .v (.string s),.v (.int _ i)=>if 0<=i then match s.data[i.toNat]? with
   | some b=>some (.v (.int .u8 b.toNat),T)
   | none=>none else none
  | _,_=>none
 | .lenS x=>match ev x with
  | .v (.string s)=>some (.v (.int .i64 s.size),T)
  | _=>none
 | .lenL x=>match ev x with
  | .ls _ es=>some (.v (.int .i64 es.length),T)
  | .own a=>match mI (bK T a) with
   | some (_,es,_)=>some (.v (.int .i64 es.length),T)
   | _=>none
  | .v (.slice none 0 0)=>some (.v (.int .i64 0),T)
  | .vw _ _ _ m=>some (.v (.int .i64 m),T)
  | _=>none
 | .app x y k bytes =>
  let src:Option (List (List AV)×Bool):=match ev y with
   | .ls k' es=>if k=k' then some (es,true) else none
   | .own a=>match mI (bK T a) with
    | some (k',es,b)=>if k=k' then some (es,b) else none
    | _=>none
   | .v (.slice none 0 0)=>some ([],true)
   | .vw a k' lo m=>match mI (bK T a) with
    | some (k'',es,b)=>if k=k'/\k=k''/\lo+m<=es.length then some ((es.drop lo).take m,b) else none
    | _=>none
   | _=>none
  match src with
  | none=>none
  | some (new,b)=>match ev x with
   | .v (.slice none 0 0)=>if new.length*bytes<=140737488355328/\new.length<=maxLen then some (.own T.length,T++[some (eR b k new)]) else none
   | .own a=>match mI (bK T a) with
    | some (k',es,b')=>if k=k'/\(es.length+new.length)*bytes<=140737488355328/\es.length+new.length<=maxLen then some (.own T.length,T.set a none++[some (eR (b&&b') k (es++new))]) else none
    | _=>none
   | _=>none
 | .ext x i=>match ev x with
  | .tup vs=>match vs[i]? with
   | some y=>some (y,T)
   | none=>none
  | .v (.tuple us)=>match us.toList[i]? with
   | some y=>some (.v y,T)
   | none=>none
  | _=>none
 | .clo f caps=>some (.cl f (caps.map ev),T)
 | .call _ _=>none
 | .nilc x=>match ev x with
  | .ptr i o=>some (.ptr i o,T)
  | .elt i k j o=>some (.elt i k j o,T)
  | .rp cs=>some (.rp cs,T)
  | _=>none
 | .slc x lo hi k =>
  let kY (o:Option Operand) (d:Nat):Option Nat:=match o with
   | none=>some d
   | some o=>match ev o with
    | .v (.int _ n)=>if 0<=n then some n.toNat else none
    | _=>none
  match ev x with
  | .ls k' es=>match kY lo 0,kY hi es.length with
   | some l,some h=>if k=k'/\l<=h/\h<=es.length then some (.ls k ((es.drop l).take (h-l)),T) else none
   | _,_=>none
  | .own a=>match mI (bK T a) with
   | some (k',es,_)=>match kY lo 0,kY hi es.length with
    | some l,some h=>if k=k'/\l<=h/\h<=es.length then some (.vw a k l (h-l),T) else none
    | _,_=>none
   | _=>none
  | .vw a k' lo' m=>match kY lo 0,kY hi m with
   | some l,some h=>if k=k'/\l<=h/\h<=m then some (.vw a k (lo'+l) (h-l),T) else none
   | _,_=>none
  | .v (.slice none 0 0)=>match kY lo 0,kY hi 0 with
   | some l,some h=>if l=0/\h=0 then some (.v (.slice none 0 0),T) else none
   | _,_=>none
  | _=>none
 | .slcS x lo hi =>
  let kY (o:Option Operand) (d:Nat):Option Nat:=match o with
   | none=>some d
   | some o=>match ev o with
    | .v (.int _ n)=>if 0<=n then some n.toNat else none
    | _=>none
  match ev x with
  | .v (.string s)=>match kY lo 0,kY hi s.size with
   | some l,some h=>if l<=h/\h<=s.size then some (.v (.string (s.extract l h)),T) else none
   | _,_=>none
  | _=>none
 | .nilS neg kd x =>
  let r:Option Bool:=match kd,ev x with
   | 0,.v (.pointer none)=>some true
   | 0,.ptr _ _=>some false
   | 0,.elt _ _ _ _=>some false
   | 0,.rp _=>some false
   | 1,.v (.slice none 0 0)=>some true
   | 1,.own a=>match mI (bK T a) with
    | some (_,_::_,_)=>some false
    | _=>none
   | 1,.ls _ (_::_)=>some false
   | 2,.v .nilFunc=>some true
   | 2,.cl _ _=>some false
   | _,_=>none
  match r with
  | some b=>some (.v (.bool (if neg then !b else b)),T)
  | none=>none
 | .mm mx x y=>match ev x,ev y with
  | .v (.int k a),.v (.int k' b)=>if k=k' then some (.v (.int k (if mx then (if b>a then b else a) else if b<a then b else a)),T) else none
  | _,_=>none
 | .mkm ag=>some (.mp T.length,T++[some (.map ag [] [] [] 0)])
 | .lku ag ls z m k ok=>match aVZ T ag (ev m),aIq ag ls (ev k) with
  | some (ks,vs),some kc=>match jV ls kc ks 0 with
   | some none=>some (if ok then .tup [.v z,.v (.bool false)] else .v z,T)
   | some (some j)=>match vs[j]? with
    | some x=>some (if ok then .tup [x,.v (.bool true)] else x,T)
    | none=>none
   | none=>none
  | _,_=>none
 | .mup ag ls m k x=>match ev m with
  | .mp i=>match bK T i,aIq ag ls (ev k) with
   | some (.map ag' ks vs bs cl),some kc=>if ag=ag' then match jV ls kc ks 0 with
    | some none=>some (.v undef,T.set i (some (.map ag (ks++[kc]) (vs++[ev x]) (bs++[cl]) (cl+1))))
    | some (some j)=>some (.v undef,T.set i (some (.map ag ks (vs.set j (ev x)) bs cl)))
    | none=>none else none
   | _,_=>none
  | _=>none
 | .men ag ls z m k=>match ev m with
  | .mp i=>match bK T i,aIq ag ls (ev k) with
   | some (.map ag' ks vs bs cl),some kc=>if ag=ag' then match jV ls kc ks 0 with
    | some none=>some (.tup [.v z,.v (.int .i64 cl)],T.set i (some (.map ag (ks++[kc]) (vs++[.v z]) (bs++[cl]) (cl+1))))
    | some (some j)=>match vs[j]?,bs[j]? with
     | some x,some b=>some (.tup [x,.v (.int .i64 b)],T)
     | _,_=>none
    | none=>none else none
   | _,_=>none
  | _=>none
 | .mst m s x=>match ev m,ev s with
  | .mp i,.v (.int _ n)=>match bK T i with
   | some (.map ag ks vs bs cl)=>match bs.findIdx? (fun (b:Nat)=>(b:Int)==n) with
    | some j=>some (.v undef,T.set i (some (.map ag ks (vs.set j (ev x)) bs cl)))
    | none=>none
   | _=>none
  | _,_=>none
 | .del ag ls m k=>match ev m with
  | .mp i=>match bK T i,aIq ag ls (ev k) with
   | some (.map ag' ks vs bs cl),some kc=>if ag=ag' then match jV ls kc ks 0 with
    | some none=>some (.v (.tuple #[]),T)
    | some (some j)=>some (.v (.tuple #[]),T.set i (some (.map ag (ks.eraseIdx j) (vs.eraseIdx j) (bs.eraseIdx j) cl)))
    | none=>none else none
   | _,_=>none
  | _=>none
 | .lenM m=>match ev m with
  | .v (.map none)=>some (.v (.int .i64 0),T)
  | .mp i=>match bK T i with
   | some (.map _ ks _ _ _)=>some (.v (.int .i64 ks.length),T)
   | _=>none
  | _=>none
 | .mks k z bytes x y=>match ev x,ev y with
  | .v (.int .i64 n),.v (.int .i64 c)=>if 0<=n/\n<=c/\c*bytes<=140737488355328/\c<=maxLen then some (.own T.length,T++[some (.arr k (List.replicate n.toNat (z.map .v)))]) else none
  | _,_=>none
 | .s2b x=>match ev x with
  | .v (.string s)=>if s.size<=maxLen then some (.ls 1 (iG s),T) else none
  | _=>none
 | .b2s x=>match aNO T 1 (ev x) with
  | some es=>match aGm es with
   | some l=>some (.v (.string ⟨l.toArray⟩),T)
   | none=>none
  | none=>none
 | .apS x y=>match ev y with
  | .v (.string s)=>match ev x with
   | .v (.slice none 0 0)=>if s.size<=140737488355328/\s.size<=maxLen then some (.own T.length,T++[some (.arr 1 (iG s))]) else none
   | .own a=>match bK T a with
    | some (.arr k' es)=>if k'=1/\es.length+s.size<=140737488355328/\es.length+s.size<=maxLen then some (.own T.length,T.set a none++[some (.arr 1 (es++iG s))]) else none
    | _=>none
   | _=>none
  | _=>none
 | .slx x lo hi mx k=>match (match lo with | none=>some 0 | some o=>aUd (ev o)),aUd (ev hi),aUd (ev mx) with
  | some l,some h,some m=>match ev x with
   | .ls k' es=>if k=k'/\l<=h/\h<=m/\m<=es.length then (if m=l then some (.own T.length,T++[some (.arr k [])]) else some (.ls k ((es.drop l).take (h-l)),T)) else none
   | .own a=>match bK T a with
    | some (.arr k' es)=>if k=k'/\l<=h/\h<=m/\m<=es.length then (if m=l then some (.own T.length,T++[some (.arr k [])]) else some (.vw a k l (h-l),T)) else none
    | _=>none
   | .vw a k' lo' n=>if k=k'/\l<=h/\h<=m/\m<=n then (if m=l then some (.own T.length,T++[some (.arr k [])]) else some (.vw a k (lo'+l) (h-l),T)) else none
   | .v (.slice none 0 0)=>if l=0/\h=0/\m=0 then some (.own T.length,T++[some (.arr k [])]) else none
   | _=>none
  | _,_,_=>none
 | .bmo f k caps=>some (.bm f k (caps.map ev),T)
 | .rgm m=>match ev m with
  | .v (.map none)=>some (.ptr T.length 0,T++[some (.mit none 0 [] 0)])
  | .mp j=>match bK T j with
   | some (.map _ _ _ _ cl)=>some (.ptr T.length 0,T++[some (.mit (some j) cl [] cl)])
   | _=>none
  | _=>none
 | .nxt _=>none
 | .bad=>none
 | .ent p=>match ev p with
  | .ptr i 0=>match bK T i with
   | some (.mit (some j) _ seen la)=>match bK T j,seen.getLast? with
    | some (.map ag ks vs bs cl),some b=>if cl=la then match bs.findIdx? (· == b) with
     | some e=>match ks[e]?,vs[e]? with
      | some k,some v=>some (.tup [.v (fD ag k),v],T)
      | _,_=>none
     | none=>none else none
    | _,_=>none
   | _=>none
  | _=>none
 | .clr x k z=>match ev x with
  | .ls _ []=>some (.v (.tuple #[]),T)
  | .v (.slice none 0 0)=>some (.v (.tuple #[]),T)
  | .own a=>match bK T a with
   | some (.arr k' es)=>if k=k'/\z.length=k/\(z.all fun v=>aP (.v v))=true then some (.v (.tuple #[]),T.set a (some (.arr k (List.replicate es.length (z.map .v))))) else none
   | _=>none
  | .vw a k' lo m=>match bK T a with
   | some (.arr k'' es)=>if k=k'/\k=k''/\z.length=k/\lo+m<=es.length/\(z.all fun v=>aP (.v v))=true then some (.v (.tuple #[]),T.set a (some (.arr k (es.take lo++List.replicate m (z.map .v)++es.drop (lo+m))))) else none
   | _=>none
  | _=>none
end
section
def bAp:List (List AV)->List Nat
 | []=>[]
 | e::es=>fI e++bAp es
def aLx:List (Nat×AV)->List Nat
 | []=>[]
 | (_,x)::r=>eN x++aLx r
def bCh:Option AObj->List Nat
 | some (.box cs)=>fI cs
 | some (.arf _ es)=>bAp es
 | some (.lp _ s)=>aLx s
 | some (.mit (some j) _ _ _)=>[j]
 | some (.map _ _ vs _ _)=>fI vs
 | _=>[]
def aDS:List Nat->List Nat->List Nat
 | L,[]=>L
 | L,i::r=>if L.contains i then aDS L r else aDS (L++[i]) r
def aW0 (T:Tab):List Nat->List Nat
 | []=>[]
 | i::r=>bCh (bK T i)++aW0 T r
def aAR (T:Tab):Tab->List Nat->List Nat
 | [],L=>L
 | _::R,L=>aAR T R (aDS L (aW0 T L))
def pT (T:Tab) (ids:List Nat):List Nat:=aAR T T (aDS [] ids)
def idx (L:List Nat) (i:Nat):Option Nat:=L.idxOf? i
mutual
def rnA (L:List Nat):AV->AV
 | .own i=>match idx L i with | some j=>.own j | none=>.any
 | .ptr i o=>match idx L i with | some j=>.ptr j o | none=>.any
 | .elt i k j o=>match idx L i with | some m=>.elt m k j o | none=>.any
 | .vw i k j o=>match idx L i with | some m=>.vw m k j o | none=>.any
 | .mp i=>match idx L i with | some m=>.mp m | none=>.any
 | .yl i=>match idx L i with | some m=>.yl m | none=>.any
 | .bm f k cs=>.bm f k (rnL L cs)
 | .ag cs=>.ag (rnL L cs)
 | .cl f cs=>.cl f (rnL L cs)
 | .tup cs=>.tup (rnL L cs)
 | x=>x
def rnL (L:List Nat):List AV->List AV
 | []=>[]
 | c::cs=>rnA L c::rnL L cs
end
def rnS (L:List Nat):List (Nat×AV)->List (Nat×AV)
 | []=>[]
 | (i,x)::r=>(i,rnA L x)::rnS L r
def rnF (L:List Nat):List (List AV)->List (List AV)
 | []=>[]
 | e::es=>rnL L e::rnF L es
def rnO (L:List Nat):AObj->Option AObj
 | .box cs=>some (.box (rnL L cs))
 | .arf k es=>if (rnF L es).all (·.all gM) then some (.arf k (rnF L es)) else none
 | .lp r s=>some (.lp r (rnS L s))
 | .mit none a b c=>some (.mit none a b c)
 | .mit (some j) a b c=>match idx L j with | some m=>some (.mit (some m) a b c) | none=>none
 | .arr k es=>some (.arr k es)
 | .map ag ks vs bs cl=>some (.map ag ks (rnL L vs) bs cl)
def rnT (L:List Nat) (T:Tab):Tab:=L.map fun i=>(bK T i).bind (rnO L)
def aFg (p:Nat×AV):List (Nat×AV)->List (Nat×AV)
 | []=>[p]
 | q::r=>if p.1<q.1 then p::q::r else q::aFg p r
def mJ:List (Nat×AV)->List (Nat×AV)
 | []=>[]
 | p::r=>aFg p (mJ r)
def hZ (d:List Nat):List (Nat×AV)->List (Nat×AV)
 | []=>[]
 | (i,x)::r=>if d.contains i then hZ d r else (i,x)::hZ d r
def gcs (d:List Nat) (st:St):St :=
 let s:=mJ (hZ d st.s)
 let L:=pT st.T (List.range st.r++aLx s)
 ⟨st.r,rnS L s,rnT L st.T⟩
def bk (L:List Nat) (n:Nat) (j:Nat):Nat:=if j<L.length then L.getD j 0 else n+(j-L.length)
mutual
def bkA (L:List Nat) (n:Nat):AV->AV
 | .own i=>.own (bk L n i)
 | .ptr i o=>.ptr (bk L n i) o
 | .elt i k j o=>.elt (bk L n i) k j o
 | .vw i k j o=>.vw (bk L n i) k j o
 | .mp i=>.mp (bk L n i)
 | .yl i=>.yl (bk L n i)
 | .bm f k cs=>.bm f k (bkL L n cs)
 | .ag cs=>.ag (bkL L n cs)
 | .cl f cs=>.cl f (bkL L n cs)
 | .tup cs=>.tup (bkL L n cs)
 | x=>x
def bkL (L:List Nat) (n:Nat):List AV->List AV
 | []=>[]
 | c::cs=>bkA L n c::bkL L n cs
end
def bkS (L:List Nat) (n:Nat):List (Nat×AV)->List (Nat×AV)
 | []=>[]
 | (i,x)::r=>(i,bkA L n x)::bkS L n r
def bkF (L:List Nat) (n:Nat):List (List AV)->List (List AV)
 | []=>[]
 | e::es=>bkL L n e::bkF L n es
def bkO (L:List Nat) (n:Nat):Option AObj->Option AObj
 | some (.box cs)=>some (.box (bkL L n cs))
 | some (.arf k es)=>some (.arf k (bkF L n es))
 | some (.lp r s)=>some (.lp r (bkS L n s))
 | some (.mit none a b c)=>some (.mit none a b c)
 | some (.mit (some j) a b c)=>some (.mit (some (bk L n j)) a b c)
 | some (.arr k es)=>some (.arr k es)
 | some (.map ag ks vs bs cl)=>some (.map ag ks (bkL L n vs) bs cl)
 | none=>none
def bkT (L:List Nat) (n:Nat):Tab->List Nat->Tab->Tab
 | T,_,[]=>T
 | T,[],T'=>T++T'.map (bkO L n)
 | T,i::L',o::T'=>bkT L n (T.set i (bkO L n o)) L' T'
mutual
def pU (T:Tab):AV->AV
 | .own i=>match bK T i with | some (.arr k es)=>.ls k es | _=>.any
 | .vw i k lo m=>match bK T i with | some (.arr k' es)=>if k=k'/\lo+m<=es.length then .ls k ((es.drop lo).take m) else .any | _=>.any
 | .ag cs=>.ag (aAS T cs)
 | x=>x
def aAS (T:Tab):List AV->List AV
 | []=>[]
 | c::cs=>pU T c::aAS T cs
end
mutual
def kJ:AV->Prop
 | .ls _ es=>es=[]
 | .rp cs=>cs=[]
 | .ag cs=>kX cs
 | .cl _ cs=>kX cs
 | .bm _ _ cs=>kX cs
 | .tup cs=>kX cs
 | _=>True
def kX:List AV->Prop
 | []=>True
 | c::cs=>kJ c/\kX cs
end
def aIr:Option AObj->Prop
 | some (.box cs)=>kX cs
 | some (.map _ _ vs _ _)=>kX vs
 | some (.arr _ es)=>∀ e∈es,∀ c∈e,∃ x,c=.v x
 | some (.arf _ es)=>∀ e∈es,kX e
 | some (.lp _ s)=>∀ p∈s,kJ p.2
 | some (.mit _ _ _ _)=>True
 | none=>True
mutual
def lH:AV->AV->Prop
 | .ag cs,y=>y=.ag cs\/∃ ds,y=.ag ds/\tG cs ds
 | .v u,y=>y=.v u\/(u=.slice none 0 0/\∃ k,y=.ls k [])\/(∃ us,u=.agg us/\y=.ag (us.toList.map .v))
 | x,y=>y=x
def tG:List AV->List AV->Prop
 | [],y=>y=[]
 | c::cs,y=>∃ d ds,y=d::ds/\lH c d/\tG cs ds
end
def aW1 (P:Program) (G:Nat->Option (List AV)) (f:FuncId) (args:List AV) (T:Tab) (K:AV->Tab->Prop):Prop :=
 (∃ L:List Nat,L.Nodup/\(∀ i∈L,i<T.length)/\aD P G f (rnL L args) (rnT L T) fun r T'=>K (bkA L T.length r) (bkT L T.length T L T')) \/
 (fI (aAS T args)=[]/\aD P G f (aAS T args) [] fun r T'=>kJ r/\(∀ o∈T',aIr o)/\K (bkA [] T.length r) (T++T'.map (bkO [] T.length)))
def aDT (P:Program) (G:Nat->Option (List AV)) (f:FuncId) (args:List AV) (T:Tab) (K:AV->Tab->Prop):Prop :=
 ∃ args',tG args args'/\aW1 P G f args' T K
def aIs (st:St) (j:Nat) (c:Option Nat) (k:Nat):St :=
 match c with
 | none=>match aK st.s j with
  | .v (.slice none 0 0)=>⟨st.r,aAQ st.s j (.own st.T.length),st.T++[some (.arr k [])]⟩
  | _=>st
 | some c=>match aK st.s j with
  | .ptr i _=>match bK st.T i with
   | some (.box cs)=>match cs[c]? with
    | some (.v (.slice none 0 0))=>⟨st.r,st.s,(st.T++[some (AObj.arr k [])]).set i (some (.box (cs.set c (.own st.T.length))))⟩
    | _=>st
   | _=>st
  | _=>st
def shutI (st:St) (i:Nat):St:=match bK st.T i with
 | some (.arr k es)=>⟨st.r,slS i k es st.s,(slT i k es st.T).set i none⟩
 | _=>st
def xI (st:St):List Nat->St
 | []=>st
 | i::r=>xI (shutI st i) r
def aIt (st:St) (j:Nat):St:=xI st (eN (aK st.s j))
def aNP (kd:Nat) (x:AV):Bool:=match kd,x with
 | 1,.ls _ []=>true
 | _,_=>false
def opW (P:Program) (G:Nat->Option (List AV)) (st:St) (o:HOp) (K:AV->Tab->Prop):Prop :=
 match o with
 | .call f args=>match evO G st.s f with
  | .cl g caps=>aDT P G g (args.map (evO G st.s)++caps) st.T K
  | .bm g k cs=>aDT P G g (cs.take k++args.map (evO G st.s)++cs.drop k) st.T K
  | .yl i=>yR P G i (args.map (evO G st.s)) st.T K
  | _=>False
 | .nxt p=>match evO G st.s p with
  | .ptr i 0=>match bK st.T i with
   | some (.mit none _ _ _)=>K (.v (.tuple #[.bool false])) st.T
   | some (.mit (some j) since seen la)=>match bK st.T j with
    | some (.map ag ks vs bs cl)=>since<=la/\(∀ b∈bs,b<since)/\((∀ b∈bs,b∈seen)->K (.v (.tuple #[.bool false])) st.T) /\
      ∀ (e:Nat) (k:List Value) (v:AV) (b:Nat),ks[e]?=some k->vs[e]?=some v->bs[e]?=some b->b∉seen ->
       K (.tup [.v (.bool true),.v (fD ag k),v]) (st.T.set i (some (.mit (some j) since (seen++[b]) cl)))
    | _=>False
   | _=>False
  | _=>False
 | .nilS neg kd x=>if aNP kd (evO G st.s x)=true then K (.v (.bool true)) st.T/\K (.v (.bool false)) st.T else match hop st.T (evO G st.s) (.nilS neg kd x) with
  | some (y,T)=>K y T
  | none=>False
 | o=>match hop st.T (evO G st.s) o with
  | some (x,T)=>K x T
  | none=>False
def cL (s:List (Nat×AV)):Option (Nat×Bool)->Option Bool
 | none=>some true
 | some (j,b)=>match aK s j with
  | .v (.bool t)=>some (t==b)
  | .v (.tuple _)=>some false
  | _=>none
def aFh (P:Program) (G:Nat->Option (List AV)):List HOper->St->(St->Prop)->Prop
 | [],st,K=>K st
 | o::os,st,K=>match cL st.s o.guard with
  | some true=>opW P G st o.op fun x T=>aFh P G os ⟨st.r,cG st.s o.dst x,T⟩ K
  | some false=>aFh P G os ⟨st.r,cG st.s o.dst (.v undef),st.T⟩ K
  | none=>False
def kK (G:Nat->Option (List AV)) (st:St):List HOper->Prop
 | []=>True
 | o::os=>(match cL st.s o.guard with
  | some true=>match hop st.T (evO G st.s) o.op with
   | some (x,_)=>o.dst.map (aK st.s)=some x
   | none=>False
  | some false=>o.dst.map (aK st.s)=some (.v undef)
  | none=>False)/\kK G st os
def aR:Operand->List Nat
 | .tmp t=>[t]
 | _=>[]
def rdH:HOp->List Nat
 | .mov x=>aR x
 | .pick c a b=>aR c++aR a++aR b
 | .bin _ x y=>aR x++aR y
 | .eqa _ _ x y=>aR x++aR y
 | .eqb _ x y=>aR x++aR y
 | .un _ x=>aR x
 | .conv _ x=>aR x
 | .box x=>aR x
 | .alloc _=>[]
 | .bld _ ps=>ps.flatMap fun p=>aR p.2.2
 | .bsl _ _ ps _=>ps.flatMap fun p=>aR p.2.2
 | .bslS _ _ ps _=>ps.flatMap fun p=>aR p.2.2
 | .ld _ p=>aR p
 | .st _ p x=>aR p++aR x
 | .fad p _=>aR p
 | .fld x _ _=>aR x
 | .iad x i _=>aR x++aR i
 | .iadA x i _ _=>aR x++aR i
 | .ixS x i=>aR x++aR i
 | .lenS x=>aR x
 | .lenL x=>aR x
 | .app x y _ _=>aR x++aR y
 | .ext x _=>aR x
 | .clo _ cs=>cs.flatMap aR
 | .call f as_=>aR f++as_.flatMap aR
 | .nilc x=>aR x
 | .slc x lo hi _=>aR x++(match lo with | some o=>aR o | none=>[])++(match hi with | some o=>aR o | none=>[])
 | .slcS x lo hi=>aR x++(match lo with | some o=>aR o | none=>[])++(match hi with | some o=>aR o | none=>[])
 | .nilS _ _ x=>aR x
 | .mm _ x y=>aR x++aR y
 | .mkm _=>[]
 | .lku _ _ _ m k _=>aR m++aR k
 | .mup _ _ m k x=>aR m++aR k++aR x
 | .men _ _ _ m k=>aR m++aR k
 | .mst m s x=>aR m++aR s++aR x
 | .del _ _ m k=>aR m++aR k
 | .lenM m=>aR m
 | .mks _ _ _ x y=>aR x++aR y
 | .s2b x=>aR x
 | .b2s x=>aR x
 | .apS x y=>aR x++aR y
 | .slx x lo hi mx _=>aR x++(match lo with | some o=>aR o | none=>[])++aR hi++aR mx
 | .bmo _ _ cs=>cs.flatMap aR
 | .rgm m=>aR m
 | .nxt p=>aR p
 | .ent p=>aR p
 | .bad=>[]
 | .clr x _ _=>aR x
def rdO (o:HOper):List Nat:=rdH o.op++(match o.guard with | some (j,_)=>[j] | none=>[])
def dR:HOp->Bool
 | .box _=>false
 | .alloc _=>false
 | .bsl _ _ _ _=>false
 | .bslS _ _ _ _=>false
 | .st _ _ _=>false
 | .app _ _ _ _=>false
 | .call _ _=>false
 | .mkm _=>false
 | .mup _ _ _ _ _=>false
 | .men _ _ _ _ _=>false
 | .mst _ _ _=>false
 | .del _ _ _ _=>false
 | .mks _ _ _ _ _=>false
 | .s2b _=>false
 | .apS _ _=>false
 | .slx _ _ _ _ _=>false
 | .rgm _=>false
 | .nxt _=>false
 | .ent _=>false
 | .bad=>false
 | .clr _ _ _=>false
 | _=>true
structure Plan where
 hops:List HOper
 pre:List (List Nat)
def Plan.p (p:Plan) (i:Nat):List Nat:=p.pre.getD i []
def Plan.quiet (p:Plan) (i:Nat):Bool :=
 match p.hops[i]? with
 | none=>false
 | some o=>dR o.op&&(match o.dst with
  | none=>false
  | some d=>(List.range p.hops.length).all fun r=>match p.hops[r]? with
   | none=>true
   | some o'=>!(rdO o').contains d||(p.p r).contains i)
def Plan.ready (p:Plan) (E:List Nat):List Nat:=(List.range p.hops.length).filter fun i=>!E.contains i&&(p.p i).all E.contains
def Plan.pend (p:Plan) (E:List Nat):List HOper :=
 (E.filter fun q=>p.quiet q&&!(E.any fun h=>!p.quiet h&&(p.p h).contains q)).filterMap fun q=>p.hops[q]?
def aDU (P:Program) (G:Nat->Option (List AV)) (chk:List HOper):Nat->List HOper->St->(St->Prop)->Prop
 | 0,_,st,K=>K st
 | n+1,ops,st,K=>∀ i o,ops[i]?=some o->match cL st.s o.guard with
  | some true=>opW P G st o.op fun x T=>kK G ⟨st.r,cG st.s o.dst x,T⟩ chk/\aDU P G chk n (ops.eraseIdx i) ⟨st.r,cG st.s o.dst x,T⟩ K
  | some false=>kK G ⟨st.r,cG st.s o.dst (.v undef),st.T⟩ chk/\aDU P G chk n (ops.eraseIdx i) ⟨st.r,cG st.s o.dst (.v undef),st.T⟩ K
  | none=>False
def pV (P:Program) (G:Nat->Option (List AV)) (p:Plan):Nat->Bool->List Nat->St->(St->Prop)->Prop
 | 0,_,_,_,_=>False
 | n+1,gc,E,st,K=>match (p.ready E).find? p.quiet with
  | some i=>match p.hops[i]? with
   | some o=>match cL st.s o.guard with
    | some true=>match hop st.T (evO G st.s) o.op with
     | some (x,_)=>pV P G p n gc (i::E) ⟨st.r,cG st.s o.dst x,st.T⟩ K
     | none=>False
    | some false=>pV P G p n gc (i::E) ⟨st.r,cG st.s o.dst (.v undef),st.T⟩ K
    | none=>False
   | none=>False
  | none=>match p.ready E with
   | []=>K (if gc then gcs [] st else st)
   | c::cs=>∀ i,i∈c::cs->∃ o,p.hops[i]?=some o/\match cL st.s o.guard with
    | some true=>opW P G st o.op fun y T=>kK G ⟨st.r,cG st.s o.dst y,T⟩ (if dR o.op then [] else p.pend (i::E))/\pV P G p n (gc||!cs.isEmpty) (i::E) ⟨st.r,cG st.s o.dst y,T⟩ K
    | some false=>kK G ⟨st.r,cG st.s o.dst (.v undef),st.T⟩ (if dR o.op then [] else p.pend (i::E))/\pV P G p n (gc||!cs.isEmpty) (i::E) ⟨st.r,cG st.s o.dst (.v undef),st.T⟩ K
    | none=>False
def hdW (P:Program) (G:Nat->Option (List AV)):HD->St->(St->Prop)->Prop
 | .done b,st,K=>K (if b then gcs [] st else st)
 | .no,_,_=>True
 | .q o next,st,K=>match cL st.s o.guard with
  | some true=>match hop st.T (evO G st.s) o.op with
   | some (x,_)=>hdW P G next ⟨st.r,cG st.s o.dst x,st.T⟩ K
   | none=>False
  | some false=>hdW P G next ⟨st.r,cG st.s o.dst (.v undef),st.T⟩ K
  | none=>False
 | .alt o chk next other,st,K=>(match cL st.s o.guard with
  | some true=>opW P G st o.op fun x T=>kK G ⟨st.r,cG st.s o.dst x,T⟩ chk/\hdW P G next ⟨st.r,cG st.s o.dst x,T⟩ K
  | some false=>kK G ⟨st.r,cG st.s o.dst (.v undef),st.T⟩ chk/\hdW P G next ⟨st.r,cG st.s o.dst (.v undef),st.T⟩ K
  | none=>False)/\hdW P G other st K
 | .perm chk ops next,st,K=>aDU P G chk ops.length ops st fun s=>hdW P G next s K
 | .plan hops pre n gc E,st,K=>pV P G ⟨hops,pre⟩ n gc E st K
inductive Ex where
 | normal
 | exit (id:Nat)
 | ret
def aCx (d:List Nat):List (Nat×AV)->List (Nat×AV)
 | []=>[]
 | (i,x)::r=>if d.contains i then (i,x)::aCx d r else aCx d r
def rQ:List (Nat×AV)->List Nat->List AV->List (Nat×AV)
 | s,p::ps,x::xs=>rQ (aAQ s p x) ps xs
 | s,_,_=>s
def aNQ (P:Program) (f:FuncId):Prop:=∃ fn c,P.funcs[f]?=some fn/\fn.body=some c/\¬fn.name = "runtime.NumGoroutine"
def left (r:Loop) (c:Code):Loop:={ r with state:=.done,pending:=some c }
def aFi (i:Nat) (r:Loop) (s:List (Nat×AV)) (n:Nat) (post:AV->Tab->Prop) (e:Ex) (st:St):Prop :=
 ∃ gc:Bool,match e with
  | .normal=>post (.v (.bool true)) ((if gc then (gcs [] ⟨n,[],st.T⟩).T else st.T).set i (some (.lp r s)))
  | .exit id=>post (.v (.bool false)) ((if gc then (gcs [] ⟨n,[],st.T⟩).T else st.T).set i (some (.lp (left r (.exit id)) s)))
  | .ret=>post (.v (.bool false)) ((if gc then (gcs [] ⟨n,[],st.T⟩).T else st.T).set i (some (.lp (left r .ret) s)))
def aRa (Q:Ex->St->Prop) (r:Nat) (s:List (Nat×AV)) (n:Nat) (T:Tab):Prop :=
 match bK T n with
 | some (.lp rec _)=>rec.state≠.busy/\(match rec.pending with
  | none=>Q .normal ⟨r,s,T.set n none⟩
  | some (.exit id)=>Q (.exit id) ⟨r,s,T.set n none⟩
  | some .ret=>Q .ret ⟨r,s,T.set n none⟩
  | _=>False)
 | _=>False
def cF (P:Program) (G:Nat->Option (List AV)):HC->(Ex->St->Prop)->St->Prop
 | .skip,Q,st=>Q .normal st
 | .reg ops,Q,st=>aFh P G ops st (Q .normal)
 | .regd d,Q,st=>hdW P G d st (Q .normal)
 | .seq a b,Q,st=>cF P G a (fun e st'=>match e with | .normal=>cF P G b Q st' | e=>Q e st') st
 | .cond c a b,Q,st=>match evO G st.s c with
  | .v (.bool t)=>if t then cF P G a Q st else cF P G b Q st
  | _=>False
 | .block id a,Q,st=>cF P G a (fun e st'=>match e with | .exit j=>if j=id then Q .normal st' else Q (.exit j) st' | e=>Q e st') st
 | .loop d a,Q,st=>∃ I:Nat->St->Prop,(∃ n,I n (gcs d st)\/I n st)/\∀ n s,I n s->cF P G a (fun e s'=>match e with | .normal=>∃ m,m<n/\(I m (gcs d s')\/I m s') | e=>Q e s') s
 | .exit id,Q,st=>Q (.exit id) st
 | .ret,Q,st=>Q .ret st
 | .kill d,Q,st=>Q .normal ⟨st.r,hZ d st.s,st.T⟩
 | .own j c k,Q,st=>Q .normal (aIs st j c k)
 | .shut j,Q,st=>Q .normal (gcs [] (aIt st j))
 | .rng g ps d a b,Q,st=>∀ r:Loop,r.state=.ready->r.pending=none->r.params.size=ps.length ->
   (∀ (i:Nat) (s:List (Nat×AV)) (T:Tab) (args:List AV) (post:AV->Tab->Prop),bK T i=some (.lp r s)->args.length=ps.length ->
    cF P G a (fun e s1=>match e with | .normal=>cF P G b (aFi i r s T.length post) s1 | _=>False) ⟨T.length,rQ s ps args,T.set i none⟩->yR P G i args T post) ->
   match evO G st.s g with
   | .cl f caps=>aNQ P f/\aDT P G f (.yl st.T.length::caps) (st.T++[some (.lp r (aCx d st.s))]) fun _ T2=>aRa Q st.r st.s st.T.length T2
   | _=>False
end
section
def kL (P:Program) (t:TypeId):Option Nat:=(P.info? t).map (·.size)
def aCi (P:Program) (t:TypeId):Option (Option Nat) :=
 match P.underlying t,P.info? t with
 | some (.struct _),some i=>some (some i.size)
 | some (.array _ _),some i=>some (some i.size)
 | some _,some _=>some none
 | _,_=>none
def bA3 (ag:Bool) (n:Nat):Option Nat:=if ag then some n else none
def aD0 (P:Program) (g:TypeId->Option (Bool×List LK)):List Field->Nat->Option (List LK)
  | [],_=>some []
  | f::fs,off=>match g f.type with
    | some (ag,ks)=>if f.name ≠ "_" /\ f.offset=off/\aCi P f.type=some (bA3 ag ks.length) then
        match aD0 P g fs (off+ks.length) with
        | some l=>some (ks++l)
        | none=>none
      else none
    | none=>none
def dS (P:Program):Nat->TypeId->Option (Bool×List LK)
 | 0,_=>none
 | n+1,t=>match P.underlying t with
  | some (.int k)=>some (false,[.int k])
  | some .bool=>some (false,[.bool])
  | some .string=>some (false,[.str])
  | some (.struct fs)=>if P.stoodInHeld t then none else match aD0 P (dS P n) fs.toList 0 with
   | some ks=>some (true,ks)
   | none=>none
  | _=>none
def aFj (P:Program) (fs:List Field):List (Nat×Operand)->Option (List (Nat×Nat×Operand))
 | []=>some []
 | (i,x)::r=>match fs[i]? with
  | none=>none
  | some f=>match kL P f.type,aFj P fs r with
   | some n,some l=>some ((f.offset,n,x)::l)
   | _,_=>none
def aFk (n:Nat):List (Nat×Operand)->List (Nat×Nat×Operand)
 | []=>[]
 | (i,x)::r=>(i*n,n,x)::aFk n r
def aDV (z:List Value):Nat->List Value
 | 0=>[]
 | n+1=>z++aDV z n
def dB (P:Program) (o:Oper):Option HOp :=
 match o.op with
 | .move x=>some (.mov x)
 | .assign x=>some (.mov x)
 | .pick c a b=>some (.pick c a b)
 | .binOp op t x y _ =>
  if op=.eql\/op=.neq then
   match P.underlying t with
   | some (.int _)=>some (.bin op x y)
   | some .bool=>some (.eqb (op==.neq) x y)
   | some .string=>some (.bin op x y)
   | some (.struct _)=>match dS P 20 t with
    | some (_,ks)=>if P.eqGuardType P.depth t then none else some (.eqa (op==.neq) ks x y)
    | none=>none
   | _=>none
  else some (.bin op x y)
 | .unOp op _ x=>some (.un op x)
 | .convert src dst x=>match P.underlying src,P.underlying dst with
  | some _,some (.int k)=>some (.conv k x)
  | _,_=>none
 | .box _ x=>some (.box x)
 | .alloc e=>match P.info? e with
  | some i=>match i.zero with
   | some z=>if z.cells.toList.all (fun x=>gM (.v x)) then some (.alloc z.cells.toList) else none
   | none=>none
  | none=>none
 | .build t parts=>match P.underlying t,P.info? t with
  | some (.struct fs),some i=>match i.zero,aFj P fs.toList parts.toList with
   | some z,some l=>if fs.toList.all (fun f=>(kL P f.type).isSome) then some (.bld z.cells.toList l) else none
   | _,_=>none
  | _,_=>none
 | .buildSlice t len parts=>match P.underlying t with
  | some (.slice e)=>match P.info? e with
   | some i=>match i.zero with
    | some z=>if z.cells.size=i.size/\0<i.size/\len*i.size<=2^20/\0<len then some (.bsl i.size (aDV z.cells.toList len) (aFk i.size parts.toList) len) else none
    | none=>none
   | none=>none
  | _=>none
 | .load t a=>match aCi P t with
  | some n=>some (.ld n a)
  | none=>none
 | .store t a x=>match kL P t with
  | some n=>some (.st n a x)
  | none=>none
 | .fieldAddr t x f=>match P.underlying t with
  | some (.struct fs)=>match fs[f]? with
   | some fd=>match kL P fd.type with
    | some n=>if n=0 then none else some (.fad x fd.offset)
    | none=>none
   | none=>none
  | _=>none
 | .field t x f=>match P.underlying t with
  | some (.struct fs)=>match fs[f]? with
   | some fd=>match aCi P fd.type with
    | some n=>some (.fld x fd.offset n)
    | none=>none
   | none=>none
  | _=>none
 | .indexAddr t x ix=>match P.underlying t with
  | some (.slice e)=>match kL P e with
   | some k=>if k=0 then none else some (.iad x ix k)
   | none=>none
  | some (.array len e)=>match kL P e with
   | some k=>some (.iadA x ix len k)
   | none=>none
  | _=>none
 | .index t x ix=>match P.underlying t with
  | some .string=>some (.ixS x ix)
  | _=>none
 | .extract x i=>some (.ext x i)
 | .nilCheck x=>some (.nilc x)
 | .makeFunc (.func f) first caps=>if first.size=0 then some (.clo f caps.toList) else none
 | .call c=>match c.callee with
  | .value f=>some (.call f c.args.toList)
  | .builtin .len=>match c.argTypes[0]?,c.args.toList with
   | some t,[x]=>match P.underlying t with
    | some .string=>some (.lenS x)
    | some (.slice _)=>some (.lenL x)
    | _=>none
   | _,_=>none
  | .builtin .append=>match c.argTypes.toList,c.args.toList with
   | [t,t'],[x,y]=>if t'≠t then none else match P.underlying t with
    | some (.slice e)=>match P.info? e with
     | some i=>match i.zero with
      | some z=>if z.cells.size=i.size/\0<i.size then some (.app x y i.size i.bytes) else none
      | none=>none
     | none=>none
    | _=>none
   | _,_=>none
  | _=>none
 | _=>none
end
end Hud
